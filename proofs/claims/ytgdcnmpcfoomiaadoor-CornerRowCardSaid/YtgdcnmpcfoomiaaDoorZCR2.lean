/- A statement of the set, proved for every input: part 3 of 6 of its proof, packed by a program of this session out of the texts GLaw011, GLaw021, GramS, OpenG, GramN, GCorner1, CornB, GCornerBegins. -/
import Derived.Test.YtgdcnmpcfoomiaaDoorZCR1
import Derived.Lib.SmallJoins
import Derived.SizedLaws
import Derived.Deep.LoopGhost
import Derived.Deep.QuietTactic
import Derived.BigQuiet
import Derived.WalkMore
section
namespace Go.Proofs.YtgdcnmpcfoomiaaDoor.G
open Go.RowKit Go.Proofs.YtgdcnmpcfoomiaaDoorW.PrintWords Go.Proofs.YtgdcnmpcfoomiaaDoorW.PrintLast Go.Proofs.YtgdcnmpcfoomiaaDoorW.PrintMore
attribute [local go_sem] max2_int min2_int max_two min_two max_three min_three max_four min_four
attribute [local go_sem] Go.Proofs.YtgdcnmpcfoomiaaDoorOwn.isSome_setCell
set_option linter.unusedVariables false
set_option linter.unusedSimpArgs false
def wickerlaw01_Awake.f (k : Nat)  : Option (Bool) := (names_Quote.f (⟨#[97, 34, 98]⟩ : ByteArray)).bind fun t186 => (if t186.toList = ([34, 97, 92, 34, 98, 34] : List UInt8) then ((names_Fresh.f k (([(⟨#[83]⟩ : ByteArray), (⟨#[83, 45, 49]⟩ : ByteArray)] : List ByteArray)) (⟨#[83]⟩ : ByteArray)).bind fun t190 => (if t190.toList = ([83, 45, 50] : List UInt8) then ((names_Name.f k (⟨#[97, 45, 49]⟩ : ByteArray)).bind fun t191 => (if t191 = true then ((names_Name.f k (⟨#[49, 97]⟩ : ByteArray)).bind fun t192 => (some (!t192))) else (some false))) else (some false))) else (some false))
theorem wickerlaw01_Awake.mono : ∀ k, LeO (wickerlaw01_Awake.f k ) (wickerlaw01_Awake.f (k + 1) ) := by
 intro  k
 unfold wickerlaw01_Awake.f
 repeat' first
   | (with_reducible exact names_Fresh.mono _ _ _)
   | (with_reducible exact names_Name.mono _ _)
   | (with_reducible exact LeO.refl _)
   | (with_reducible exact LeO.none _)
   | (with_reducible refine LeO.ite ?_ ?_)
   | (with_reducible refine LeO.bind ?_ (fun _ => ?_))
   | exact names_Fresh.mono _ _ _
   | exact names_Name.mono _ _
   | exact LeO.none _
   | refine LeO.ite ?_ ?_
   | refine LeO.bind ?_ (fun _ => ?_)
set_option maxHeartbeats 8000000 in
set_option maxRecDepth 100000 in
theorem wickerlaw01_Awake.calls (k : Nat)  (r : Bool) (w : World) (hG : Laid w) (h : wickerlaw01_Awake.f k  = some r) :
  Calls Tryd.prog 47 #[] w fun e w' => e = .returned (.bool r) ∧ Below w.heap.size w w' := by
 have HG := Aside0.mk hG
 clear hG
 have HB := Aside0.mk (Below.refl w.heap.size w)
 have H : ((names_Quote.f (⟨#[97, 34, 98]⟩ : ByteArray)).bind fun t186 => (if t186.toList = ([34, 97, 92, 34, 98, 34] : List UInt8) then ((names_Fresh.f k (([(⟨#[83]⟩ : ByteArray), (⟨#[83, 45, 49]⟩ : ByteArray)] : List ByteArray)) (⟨#[83]⟩ : ByteArray)).bind fun t190 => (if t190.toList = ([83, 45, 50] : List UInt8) then ((names_Name.f k (⟨#[97, 45, 49]⟩ : ByteArray)).bind fun t191 => (if t191 = true then ((names_Name.f k (⟨#[49, 97]⟩ : ByteArray)).bind fun t192 => (some (!t192))) else (some false))) else (some false))) else (some false))) = some r := h
 clear h
 replace H := Option.bind_eq_some_iff.mp H
 obtain ⟨t186, A10, H⟩ := H
 replace H : (if t186.toList = ([34, 97, 92, 34, 98, 34] : List UInt8) then ((names_Fresh.f k (([(⟨#[83]⟩ : ByteArray), (⟨#[83, 45, 49]⟩ : ByteArray)] : List ByteArray)) (⟨#[83]⟩ : ByteArray)).bind fun t190 => (if t190.toList = ([83, 45, 50] : List UInt8) then ((names_Name.f k (⟨#[97, 45, 49]⟩ : ByteArray)).bind fun t191 => (if t191 = true then ((names_Name.f k (⟨#[49, 97]⟩ : ByteArray)).bind fun t192 => (some (!t192))) else (some false))) else (some false))) else (some false)) = some r := H
 have A1 := Aside0.mk A10
 clear A10
 by_cases c2 : t186.toList = ([34, 97, 92, 34, 98, 34] : List UInt8)
 ·rw [if_pos c2] at H
  have c2b0 : (t186.toList == ([34, 97, 92, 34, 98, 34] : List UInt8)) = true := beq_iff_eq.mpr c2
  have c2b1 : (t186.toList != ([34, 97, 92, 34, 98, 34] : List UInt8)) = false := bne_eq_false_iff_eq.mpr c2
  clear c2
  obtain ⟨y187, hy187⟩ : ∃ y_ : List ByteArray, y_ = (([(⟨#[83]⟩ : ByteArray), (⟨#[83, 45, 49]⟩ : ByteArray)] : List ByteArray)) := ⟨_, rfl⟩
  replace H : ((names_Fresh.f k y187 (⟨#[83]⟩ : ByteArray)).bind fun t190 => (if t190.toList = ([83, 45, 50] : List UInt8) then ((names_Name.f k (⟨#[97, 45, 49]⟩ : ByteArray)).bind fun t191 => (if t191 = true then ((names_Name.f k (⟨#[49, 97]⟩ : ByteArray)).bind fun t192 => (some (!t192))) else (some false))) else (some false))) = some r := by first | (rw [hy187]; with_reducible exact H) | (have H2_ := (Option.bind_some _ _).symm.trans H; rw [hy187]; with_reducible exact H2_) | (have H2_ := (Option.bind_some _ _).symm.trans H; with_reducible exact H2_) | with_reducible exact H | (rw [hy187]; exact H) | exact H
  have Ny187 := Aside0.mk hy187
  clear hy187
  replace H := Option.bind_eq_some_iff.mp H
  obtain ⟨t190, A30, H⟩ := H
  replace H : (if t190.toList = ([83, 45, 50] : List UInt8) then ((names_Name.f k (⟨#[97, 45, 49]⟩ : ByteArray)).bind fun t191 => (if t191 = true then ((names_Name.f k (⟨#[49, 97]⟩ : ByteArray)).bind fun t192 => (some (!t192))) else (some false))) else (some false)) = some r := H
  have A3 := Aside0.mk A30
  clear A30
  by_cases c4 : t190.toList = ([83, 45, 50] : List UInt8)
  ·rw [if_pos c4] at H
   have c4b0 : (t190.toList == ([83, 45, 50] : List UInt8)) = true := beq_iff_eq.mpr c4
   have c4b1 : (t190.toList != ([83, 45, 50] : List UInt8)) = false := bne_eq_false_iff_eq.mpr c4
   clear c4
   replace H := Option.bind_eq_some_iff.mp H
   obtain ⟨t191, A50, H⟩ := H
   replace H : (if t191 = true then ((names_Name.f k (⟨#[49, 97]⟩ : ByteArray)).bind fun t192 => (some (!t192))) else (some false)) = some r := H
   have A5 := Aside0.mk A50
   clear A50
   by_cases c6 : t191 = true
   ·subst c6
    have H1 : ((names_Name.f k (⟨#[49, 97]⟩ : ByteArray)).bind fun t192 => (some (!t192))) = some r := by rw [if_pos rfl] at H; exact H
    clear H
    have H := H1
    clear H1
    replace H := Option.bind_eq_some_iff.mp H
    obtain ⟨t192, A70, H⟩ := H
    replace H : (some (!t192)) = some r := H
    have A7 := Aside0.mk A70
    clear A70
    obtain rfl := Option.some.inj H
    go_enter Tryd.func47, Tryd.ntmps47
    go_wp2_with (first | ((with_reducible refine gate_callee (f := 68) rfl ?_); refine goesL_ (some 1) rfl rfl Tryd.func68 (by kernel_rfl) rfl #[.string (⟨#[97, 34, 98]⟩ : ByteArray)] rfl (by (try simp only [List.map_toArray, List.map_cons, List.map_nil]); first | done | rfl | (simp only [List.length_drop, List.length_take]; rfl)) ?_; (with_reducible refine (names_Quote.calls (⟨#[97, 34, 98]⟩ : ByteArray) t186 _ A1.out).mono ?_); rintro e w8 ⟨rfl, hb⟩; refine ⟨_, rfl, ?_⟩; have n0_ := Aside0.mk (below_step (by repeat (first | (with_reducible first | exact HB.out | apply below_alloc | apply pw_below_drewN | apply below_drew1) | exact HB.out)) hb); clear HB; have HB := n0_; clear n0_; (try clear hb); (try clear hb2); (try clear hk); (try clear hi)) | ((with_reducible refine gate_dst (N := 4) rfl ?_); (try (refine gate_guard (by rfl) ?_; dsimp only)); refine Kd.R_lit Kd.string _ 9 ?hg (N := 4) ?hd (xs := ([(⟨#[83]⟩ : ByteArray), (⟨#[83, 45, 49]⟩ : ByteArray)] : List ByteArray)) (inner := [.string (⟨#[83]⟩ : ByteArray), .string (⟨#[83, 45, 49]⟩ : ByteArray)]) (ok := fun _ => True) (okp := fun _ => True) ?hr ?hp (fun _ hk => hk) trivial (Below.refl _ _) (Nat.le_refl _) (by simp) ?_; (case hd => rfl); (case hg => rfl); (case hr => first | (go_simp; done) | (go_simp; rfl)); (case hp => exact (Reps.one (show Kd.M Kd.string _ _ _ (⟨#[83]⟩ : ByteArray) [.string (⟨#[83]⟩ : ByteArray)] from rfl) (Reps.one (show Kd.M Kd.string _ _ _ (⟨#[83, 45, 49]⟩ : ByteArray) [.string (⟨#[83, 45, 49]⟩ : ByteArray)] from rfl) (Reps.none _ _)))); intro v188 w9 ho10 hb hg_ hnew_; clear hg_ hnew_; (first | rw [← Ny187.out] at ho10 | (simp only [Int.reduceToNat] at ho10; rw [← Ny187.out] at ho10)); have n0_ := Aside0.mk (Kd.R_lower ho10 (below_size (by repeat (first | (with_reducible first | exact HB.out | apply below_alloc | apply pw_below_drewN | apply below_drew1) | exact HB.out)))); have n1_ := Aside0.mk (below_step (by repeat (first | (with_reducible first | exact HB.out | apply below_alloc | apply pw_below_drewN | apply below_drew1) | exact HB.out)) hb); clear HB; have HO189 := n0_; have HB := n1_; clear n0_ n1_; clear hb ho10; obtain ⟨Ao11, co11, eo11⟩ := Kd.R_slice HO189.out; subst eo11) | (go_at_call 69; (with_reducible refine (names_Fresh.calls k _ _ y187 (⟨#[83]⟩ : ByteArray) t190 _ ?side1 ?side2 ?side3 A3.out).mono ?_); (case side1 => exact Laid.below HG.out (by repeat (first | (with_reducible first | exact HB.out | apply below_alloc | apply pw_below_drewN | apply below_drew1) | exact HB.out))); (case side2 => repeat (first | exact (Kd.R_reads' HO189.out).2.2 | (with_reducible refine Kd.C_alloc ?_ _) | (with_reducible refine Kd.C_drewN ?_ _) | (with_reducible refine Kd.C_drew ?_))); (case side3 => exact (Kd.R_reads' HO189.out).2.1); rintro e w12 ⟨rfl, hb⟩; have n0_ := Aside0.mk (Kd.R_below (by (with_reducible repeat (first | apply Kd.R_alloc | apply Kd.R_drewN | apply Kd.R_drew)); exact HO189.out) hb); have n1_ := Aside0.mk (below_step (by repeat (first | (with_reducible first | exact HB.out | apply below_alloc | apply pw_below_drewN | apply below_drew1) | exact HB.out)) hb); clear HO189; clear HB; have HO189 := n0_; have HB := n1_; clear n0_ n1_; (try clear hb); (try clear hb2); (try clear hk); (try clear hi)) | (go_at_call 70; (with_reducible refine (names_Name.calls k (⟨#[97, 45, 49]⟩ : ByteArray) true _ A5.out).mono ?_); rintro e w' ⟨rfl, ⟨nd, rfl⟩⟩) | (go_at_call 70; (with_reducible refine (names_Name.calls k (⟨#[49, 97]⟩ : ByteArray) t192 _ A7.out).mono ?_); rintro e w' ⟨rfl, ⟨nd, rfl⟩⟩))
    go_ret
    exact ⟨by first | rfl | (simp [errW_none, errW_some] <;> rfl) | (simp [*, errW_none, errW_some] <;> rfl), by repeat (first | (with_reducible first | exact HB.out | apply below_alloc | apply pw_below_drewN | apply below_drew1) | exact HB.out)⟩
   ·replace c6 := Bool.eq_false_iff.mpr c6
    subst c6
    have H1 : (some false) = some r := by rw [if_neg (show ¬ (false = true) by decide)] at H; exact H
    clear H
    have H := H1
    clear H1
    obtain rfl := Option.some.inj H
    go_enter Tryd.func47, Tryd.ntmps47
    go_wp2_with (first | ((with_reducible refine gate_callee (f := 68) rfl ?_); refine goesL_ (some 1) rfl rfl Tryd.func68 (by kernel_rfl) rfl #[.string (⟨#[97, 34, 98]⟩ : ByteArray)] rfl (by (try simp only [List.map_toArray, List.map_cons, List.map_nil]); first | done | rfl | (simp only [List.length_drop, List.length_take]; rfl)) ?_; (with_reducible refine (names_Quote.calls (⟨#[97, 34, 98]⟩ : ByteArray) t186 _ A1.out).mono ?_); rintro e w13 ⟨rfl, hb⟩; refine ⟨_, rfl, ?_⟩; have n0_ := Aside0.mk (below_step (by repeat (first | (with_reducible first | exact HB.out | apply below_alloc | apply pw_below_drewN | apply below_drew1) | exact HB.out)) hb); clear HB; have HB := n0_; clear n0_; (try clear hb); (try clear hb2); (try clear hk); (try clear hi)) | ((with_reducible refine gate_dst (N := 4) rfl ?_); (try (refine gate_guard (by rfl) ?_; dsimp only)); refine Kd.R_lit Kd.string _ 9 ?hg (N := 4) ?hd (xs := ([(⟨#[83]⟩ : ByteArray), (⟨#[83, 45, 49]⟩ : ByteArray)] : List ByteArray)) (inner := [.string (⟨#[83]⟩ : ByteArray), .string (⟨#[83, 45, 49]⟩ : ByteArray)]) (ok := fun _ => True) (okp := fun _ => True) ?hr ?hp (fun _ hk => hk) trivial (Below.refl _ _) (Nat.le_refl _) (by simp) ?_; (case hd => rfl); (case hg => rfl); (case hr => first | (go_simp; done) | (go_simp; rfl)); (case hp => exact (Reps.one (show Kd.M Kd.string _ _ _ (⟨#[83]⟩ : ByteArray) [.string (⟨#[83]⟩ : ByteArray)] from rfl) (Reps.one (show Kd.M Kd.string _ _ _ (⟨#[83, 45, 49]⟩ : ByteArray) [.string (⟨#[83, 45, 49]⟩ : ByteArray)] from rfl) (Reps.none _ _)))); intro v188 w14 ho15 hb hg_ hnew_; clear hg_ hnew_; (first | rw [← Ny187.out] at ho15 | (simp only [Int.reduceToNat] at ho15; rw [← Ny187.out] at ho15)); have n0_ := Aside0.mk (Kd.R_lower ho15 (below_size (by repeat (first | (with_reducible first | exact HB.out | apply below_alloc | apply pw_below_drewN | apply below_drew1) | exact HB.out)))); have n1_ := Aside0.mk (below_step (by repeat (first | (with_reducible first | exact HB.out | apply below_alloc | apply pw_below_drewN | apply below_drew1) | exact HB.out)) hb); clear HB; have HO189 := n0_; have HB := n1_; clear n0_ n1_; clear hb ho15; obtain ⟨Ao16, co16, eo16⟩ := Kd.R_slice HO189.out; subst eo16) | (go_at_call 69; (with_reducible refine (names_Fresh.calls k _ _ y187 (⟨#[83]⟩ : ByteArray) t190 _ ?side1 ?side2 ?side3 A3.out).mono ?_); (case side1 => exact Laid.below HG.out (by repeat (first | (with_reducible first | exact HB.out | apply below_alloc | apply pw_below_drewN | apply below_drew1) | exact HB.out))); (case side2 => repeat (first | exact (Kd.R_reads' HO189.out).2.2 | (with_reducible refine Kd.C_alloc ?_ _) | (with_reducible refine Kd.C_drewN ?_ _) | (with_reducible refine Kd.C_drew ?_))); (case side3 => exact (Kd.R_reads' HO189.out).2.1); rintro e w17 ⟨rfl, hb⟩; have n0_ := Aside0.mk (Kd.R_below (by (with_reducible repeat (first | apply Kd.R_alloc | apply Kd.R_drewN | apply Kd.R_drew)); exact HO189.out) hb); have n1_ := Aside0.mk (below_step (by repeat (first | (with_reducible first | exact HB.out | apply below_alloc | apply pw_below_drewN | apply below_drew1) | exact HB.out)) hb); clear HO189; clear HB; have HO189 := n0_; have HB := n1_; clear n0_ n1_; (try clear hb); (try clear hb2); (try clear hk); (try clear hi)) | (go_at_call 70; (with_reducible refine (names_Name.calls k (⟨#[97, 45, 49]⟩ : ByteArray) false _ A5.out).mono ?_); rintro e w' ⟨rfl, ⟨nd, rfl⟩⟩))
    go_ret
    exact ⟨by first | rfl | (simp [errW_none, errW_some] <;> rfl) | (simp [*, errW_none, errW_some] <;> rfl), by repeat (first | (with_reducible first | exact HB.out | apply below_alloc | apply pw_below_drewN | apply below_drew1) | exact HB.out)⟩
  ·rw [if_neg c4] at H
   have c4b0 : (t190.toList == ([83, 45, 50] : List UInt8)) = false := beq_eq_false_iff_ne.mpr c4
   have c4b1 : (t190.toList != ([83, 45, 50] : List UInt8)) = true := bne_iff_ne.mpr c4
   obtain rfl := Option.some.inj H
   go_enter Tryd.func47, Tryd.ntmps47
   go_wp2_with (first | ((with_reducible refine gate_callee (f := 68) rfl ?_); refine goesL_ (some 1) rfl rfl Tryd.func68 (by kernel_rfl) rfl #[.string (⟨#[97, 34, 98]⟩ : ByteArray)] rfl (by (try simp only [List.map_toArray, List.map_cons, List.map_nil]); first | done | rfl | (simp only [List.length_drop, List.length_take]; rfl)) ?_; (with_reducible refine (names_Quote.calls (⟨#[97, 34, 98]⟩ : ByteArray) t186 _ A1.out).mono ?_); rintro e w18 ⟨rfl, hb⟩; refine ⟨_, rfl, ?_⟩; have n0_ := Aside0.mk (below_step (by repeat (first | (with_reducible first | exact HB.out | apply below_alloc | apply pw_below_drewN | apply below_drew1) | exact HB.out)) hb); clear HB; have HB := n0_; clear n0_; (try clear hb); (try clear hb2); (try clear hk); (try clear hi)) | ((with_reducible refine gate_dst (N := 4) rfl ?_); (try (refine gate_guard (by rfl) ?_; dsimp only)); refine Kd.R_lit Kd.string _ 9 ?hg (N := 4) ?hd (xs := ([(⟨#[83]⟩ : ByteArray), (⟨#[83, 45, 49]⟩ : ByteArray)] : List ByteArray)) (inner := [.string (⟨#[83]⟩ : ByteArray), .string (⟨#[83, 45, 49]⟩ : ByteArray)]) (ok := fun _ => True) (okp := fun _ => True) ?hr ?hp (fun _ hk => hk) trivial (Below.refl _ _) (Nat.le_refl _) (by simp) ?_; (case hd => rfl); (case hg => rfl); (case hr => first | (go_simp; done) | (go_simp; rfl)); (case hp => exact (Reps.one (show Kd.M Kd.string _ _ _ (⟨#[83]⟩ : ByteArray) [.string (⟨#[83]⟩ : ByteArray)] from rfl) (Reps.one (show Kd.M Kd.string _ _ _ (⟨#[83, 45, 49]⟩ : ByteArray) [.string (⟨#[83, 45, 49]⟩ : ByteArray)] from rfl) (Reps.none _ _)))); intro v188 w19 ho20 hb hg_ hnew_; clear hg_ hnew_; (first | rw [← Ny187.out] at ho20 | (simp only [Int.reduceToNat] at ho20; rw [← Ny187.out] at ho20)); have n0_ := Aside0.mk (Kd.R_lower ho20 (below_size (by repeat (first | (with_reducible first | exact HB.out | apply below_alloc | apply pw_below_drewN | apply below_drew1) | exact HB.out)))); have n1_ := Aside0.mk (below_step (by repeat (first | (with_reducible first | exact HB.out | apply below_alloc | apply pw_below_drewN | apply below_drew1) | exact HB.out)) hb); clear HB; have HO189 := n0_; have HB := n1_; clear n0_ n1_; clear hb ho20; obtain ⟨Ao21, co21, eo21⟩ := Kd.R_slice HO189.out; subst eo21) | (go_at_call 69; (with_reducible refine (names_Fresh.calls k _ _ y187 (⟨#[83]⟩ : ByteArray) t190 _ ?side1 ?side2 ?side3 A3.out).mono ?_); (case side1 => exact Laid.below HG.out (by repeat (first | (with_reducible first | exact HB.out | apply below_alloc | apply pw_below_drewN | apply below_drew1) | exact HB.out))); (case side2 => repeat (first | exact (Kd.R_reads' HO189.out).2.2 | (with_reducible refine Kd.C_alloc ?_ _) | (with_reducible refine Kd.C_drewN ?_ _) | (with_reducible refine Kd.C_drew ?_))); (case side3 => exact (Kd.R_reads' HO189.out).2.1); rintro e w22 ⟨rfl, hb⟩; have n0_ := Aside0.mk (Kd.R_below (by (with_reducible repeat (first | apply Kd.R_alloc | apply Kd.R_drewN | apply Kd.R_drew)); exact HO189.out) hb); have n1_ := Aside0.mk (below_step (by repeat (first | (with_reducible first | exact HB.out | apply below_alloc | apply pw_below_drewN | apply below_drew1) | exact HB.out)) hb); clear HO189; clear HB; have HO189 := n0_; have HB := n1_; clear n0_ n1_; (try clear hb); (try clear hb2); (try clear hk); (try clear hi)))
   go_ret
   exact ⟨by first | rfl | (simp [errW_none, errW_some] <;> rfl) | (simp [*, errW_none, errW_some] <;> rfl), by repeat (first | (with_reducible first | exact HB.out | apply below_alloc | apply pw_below_drewN | apply below_drew1) | exact HB.out)⟩
 ·rw [if_neg c2] at H
  have c2b0 : (t186.toList == ([34, 97, 92, 34, 98, 34] : List UInt8)) = false := beq_eq_false_iff_ne.mpr c2
  have c2b1 : (t186.toList != ([34, 97, 92, 34, 98, 34] : List UInt8)) = true := bne_iff_ne.mpr c2
  obtain rfl := Option.some.inj H
  go_enter Tryd.func47, Tryd.ntmps47
  go_wp2_with (first | ((with_reducible refine gate_callee (f := 68) rfl ?_); refine goesL_ (some 1) rfl rfl Tryd.func68 (by kernel_rfl) rfl #[.string (⟨#[97, 34, 98]⟩ : ByteArray)] rfl (by (try simp only [List.map_toArray, List.map_cons, List.map_nil]); first | done | rfl | (simp only [List.length_drop, List.length_take]; rfl)) ?_; (with_reducible refine (names_Quote.calls (⟨#[97, 34, 98]⟩ : ByteArray) t186 _ A1.out).mono ?_); rintro e w23 ⟨rfl, hb⟩; refine ⟨_, rfl, ?_⟩; have n0_ := Aside0.mk (below_step (by repeat (first | (with_reducible first | exact HB.out | apply below_alloc | apply pw_below_drewN | apply below_drew1) | exact HB.out)) hb); clear HB; have HB := n0_; clear n0_; (try clear hb); (try clear hb2); (try clear hk); (try clear hi)))
  go_ret
  exact ⟨by first | rfl | (simp [errW_none, errW_some] <;> rfl) | (simp [*, errW_none, errW_some] <;> rfl), by repeat (first | (with_reducible first | exact HB.out | apply below_alloc | apply pw_below_drewN | apply below_drew1) | exact HB.out)⟩
end Go.Proofs.YtgdcnmpcfoomiaaDoor.G
end
section
namespace Go.Proofs.YtgdcnmpcfoomiaaDoor.G
open Go.RowKit Go.Proofs.YtgdcnmpcfoomiaaDoorW.PrintWords Go.Proofs.YtgdcnmpcfoomiaaDoorW.PrintLast Go.Proofs.YtgdcnmpcfoomiaaDoorW.PrintMore
attribute [local go_sem] max2_int min2_int max_two min_two max_three min_three max_four min_four
attribute [local go_sem] Go.Proofs.YtgdcnmpcfoomiaaDoorOwn.isSome_setCell
set_option linter.unusedVariables false
set_option linter.unusedSimpArgs false
mutual
def wickerlaw02_Small.l0 : Nat → Int → List (S35) → Int → Int → List ByteArray → List ByteArray → Int → List (S35) → Option (Bool)
 | 0, _, _, _, _, _, _, _, _ => none
 | k + 1, x3, x11, x12, x13, x226000, x226001, x226002, x226003 => if x13 < x12 then (if 0 ≤ x13 then (if x13 < (x11.length : Int) then (wickerlaw02_Small.l0 k (wrap64 (x3 + (wrap64 (1 + (((rd_T35 x11 x13).f1).length : Int))))) x11 x12 (wrap64 (x13 + 1)) x226000 x226001 x226002 x226003) else (none)) else (none)) else (wickerlaw02_Small.l1 k x3 x226000 (x226000.length : Int) 0 x226000 x226001 x226002 x226003)
def wickerlaw02_Small.l1 : Nat → Int → List ByteArray → Int → Int → List ByteArray → List ByteArray → Int → List (S35) → Option (Bool)
 | 0, _, _, _, _, _, _, _, _ => none
 | k + 1, x3, x25, x26, x27, x226000, x226001, x226002, x226003 => if x27 < x26 then (if 0 ≤ x27 then (if x27 < (x25.length : Int) then (wickerlaw02_Small.l1 k (wrap64 (x3 + (wrap64 (((rdOf ByteArray.empty x25 x27).size : Int) / 16)))) x25 x26 (wrap64 (x27 + 1)) x226000 x226001 x226002 x226003) else (none)) else (none)) else (wickerlaw02_Small.l2 k x3 x226001 (x226001.length : Int) 0 x226000 x226001 x226002 x226003)
def wickerlaw02_Small.l2 : Nat → Int → List ByteArray → Int → Int → List ByteArray → List ByteArray → Int → List (S35) → Option (Bool)
 | 0, _, _, _, _, _, _, _, _ => none
 | k + 1, x3, x38, x39, x40, x226000, x226001, x226002, x226003 => if x40 < x39 then (if 0 ≤ x40 then (if x40 < (x38.length : Int) then (wickerlaw02_Small.l2 k (wrap64 (x3 + (wrap64 (((rdOf ByteArray.empty x38 x40).size : Int) / 16)))) x38 x39 (wrap64 (x40 + 1)) x226000 x226001 x226002 x226003) else (none)) else (none)) else (if x3 ≤ 600 then (if (x226000.length : Int) ≤ 60 then (if (x226001.length : Int) ≤ 60 then (some (decide ((x226003.length : Int) ≤ 120))) else (some false)) else (some false)) else (some false))
end
def wickerlaw02_Small.f (k : Nat) (l0_0 : List ByteArray) (l0_1 : List ByteArray) (a0_2 : Int) (l0_3 : List (S35)) : Option (Bool) := wickerlaw02_Small.l0 k 0 l0_3 (l0_3.length : Int) 0 l0_0 l0_1 a0_2 l0_3
set_option maxHeartbeats 8000000 in
set_option maxRecDepth 100000 in
theorem wickerlaw02_Small.calls (k : Nat) (A0_0 : Option Addr) (c0_0 : Nat) (l0_0 : List ByteArray) (A0_1 : Option Addr) (c0_1 : Nat) (l0_1 : List ByteArray) (a0_2 : Int) (A0_3 : Option Addr) (c0_3 : Nat) (l0_3 : List (S35)) (r : Bool) (w : World) (hr0_0 : Kd.C Kd.string w A0_0 l0_0.length l0_0) (hc0_0 : l0_0.length ≤ c0_0) (hr0_1 : Kd.C Kd.string w A0_1 l0_1.length l0_1) (hc0_1 : l0_1.length ≤ c0_1) (hr0_3 : Kd.C k35 w A0_3 l0_3.length l0_3) (hc0_3 : l0_3.length ≤ c0_3) (h : wickerlaw02_Small.f k l0_0 l0_1 a0_2 l0_3 = some r) :
  Calls Tryd.prog 9 #[.agg #[.slice A0_0 l0_0.length c0_0, .slice A0_1 l0_1.length c0_1, .int .i64 a0_2, .slice A0_3 l0_3.length c0_3]] w fun e w' => e = .returned (.bool r) ∧ Below w.heap.size w w' := by
 have hu25 := Tryd.underlying25
 have hu35 := Tryd.underlying35
 have HR0_0 := Aside0.mk hr0_0
 have HC0_0 := Aside0.mk hc0_0
 clear hr0_0 hc0_0
 have HR0_1 := Aside0.mk hr0_1
 have HC0_1 := Aside0.mk hc0_1
 clear hr0_1 hc0_1
 have HR0_3 := Aside0.mk hr0_3
 have HC0_3 := Aside0.mk hc0_3
 clear hr0_3 hc0_3
 have HB := Aside0.mk (Below.refl w.heap.size w)
 have H : (wickerlaw02_Small.l0 k 0 l0_3 (l0_3.length : Int) 0 l0_0 l0_1 a0_2 l0_3) = some r := h
 clear h
 have H' := Aside0.mk H
 clear H
 go_enter Tryd.func9, Tryd.ntmps9
 go_wp2_with (first | ((with_reducible refine gate_dst (N := 1) rfl ?_); (try (refine gate_guard (by rfl) ?_; dsimp only)); refine box_event ?hg (N := 1) ?hd (cs := #[.slice A0_0 l0_0.length c0_0, .slice A0_1 l0_1.length c0_1, .int .i64 a0_2, .slice A0_3 l0_3.length c0_3]) (t := 25) ?hr ?_; (case hd => rfl); (case hg => rfl); (case hr => first | (go_simp; done) | (go_simp; rfl)); intro gb225 hg w2 hbox hb; have n0_ := Aside0.mk (below_step (by repeat (first | (with_reducible first | exact HB.out | apply below_alloc | apply pw_below_drewN | apply below_drew1) | exact HB.out)) hb); have n1_ := Aside0.mk (hbox); have n2_ := Aside0.mk ((by rw [hg]; exact (below_size (by repeat (first | (with_reducible first | exact HB.out | apply below_alloc | apply pw_below_drewN | apply below_drew1) | exact HB.out))) : w.heap.size ≤ gb225)); have n3_ := Aside0.mk ((by rw [hg]; exact (below_size (by repeat (first | (with_reducible first | exact HB.out | apply below_alloc | apply pw_below_drewN | apply below_drew1) | exact HB.out))) : w.heap.size ≤ gb225)); clear HB; have HB := n0_; have BK225 := n1_; have GW225 := n2_; have GE225 := n3_; clear n0_ n1_ n2_ n3_; clear hb hbox hg; have hcz3_0 : w2.cell? ⟨gb225, 0, none⟩ = some (.slice A0_0 l0_0.length c0_0) := (blk_cell BK225.out 0).trans rfl; have hcz3_1 : w2.cell? ⟨gb225, 1, none⟩ = some (.slice A0_1 l0_1.length c0_1) := (blk_cell BK225.out 1).trans rfl; have hcz3_2 : w2.cell? ⟨gb225, 2, none⟩ = some (.int .i64 a0_2) := (blk_cell BK225.out 2).trans rfl; have hcz3_3 : w2.cell? ⟨gb225, 3, none⟩ = some (.slice A0_3 l0_3.length c0_3) := (blk_cell BK225.out 3).trans rfl; have hfz3_0 := blk_frozen BK225.out 0; have hfz3_1 := blk_frozen BK225.out 1; have hfz3_2 := blk_frozen BK225.out 2; have hfz3_3 := blk_frozen BK225.out 3))
 go_loopg [3, 13] k (fun kq v3 v13 w' => ∃ (x3_1 : Int) (x13_1 : Int), v3 = .int .i64 x3_1 ∧ v13 = .int .i64 x13_1 ∧ Aside0 (wickerlaw02_Small.l0 kq x3_1 l0_3 (l0_3.length : Int) x13_1 l0_0 l0_1 a0_2 l0_3 = some r) ∧ Aside0 (kq ≤ k) ∧ Aside0 (w'.heap[gb225]? = some (.cells #[(.slice A0_0 l0_0.length c0_0), (.slice A0_1 l0_1.length c0_1), .int .i64 a0_2, (.slice A0_3 l0_3.length c0_3)] 25 (0, 0))) ∧ Aside0 (Below w.heap.size w w'))
 case atStart => exact ⟨(0), (0), (by first | rfl | (simp; done) | (simp [*]; done)), (by first | rfl | (simp; done) | (simp [*]; done)), H', ⟨Nat.le_refl _⟩, ⟨by (with_reducible repeat (first | refine blk_drewN ?_ _ | refine blk_drew ?_ | refine blk_alloc ?_ _)); exact BK225.out⟩, ⟨by repeat (first | (with_reducible first | exact HB.out | apply below_alloc | apply pw_below_drewN | apply below_drew1 | refine below_set ?_ GE225.out) | exact HB.out)⟩⟩
 case round =>
  clear H'
  try clear p2
  try clear hcz3_0
  try clear hcz3_1
  try clear hcz3_2
  try clear hcz3_3
  try clear hfz3_0
  try clear hfz3_1
  try clear hfz3_2
  try clear hfz3_3
  obtain ⟨x3_1, x13_1, rfl, rfl, HA, HK1, BK225, HB⟩ := hrel
  cases gk with
  | zero => exact absurd HA.out (by simp [wickerlaw02_Small.l0])
  | succ k1 =>
   have H := HA.out
   clear HA
   simp only [wickerlaw02_Small.l0] at H
   by_cases c4 : x13_1 < (l0_3.length : Int)
   ·rw [if_pos c4] at H
    have c4b0 : decide (x13_1 < (l0_3.length : Int)) = true := decide_eq_true c4
    clear c4
    by_cases c5 : 0 ≤ x13_1
    ·rw [if_pos c5] at H
     have c5b0 : decide (0 ≤ x13_1) = true := decide_eq_true c5
     clear c5
     by_cases c6 : x13_1 < (l0_3.length : Int)
     ·rw [if_pos c6] at H
      have c6b0 : decide (x13_1 < (l0_3.length : Int)) = true := decide_eq_true c6
      clear c6
      have H' := Aside0.mk H
      clear H
      have p226 : 0 ≤ (x13_1 : Int) := of_decide_eq_true (by first | (with_reducible assumption) | assumption)
      have q226 : x13_1 < (l0_3.length : Int) := of_decide_eq_true (by first | (with_reducible assumption) | assumption)
      obtain ⟨ad226, A226_1, c226_1, e226, hx226_0, hx226_1, hl226_1, hi226_1⟩ := at_T35 HR0_3.out x13_1 p226 q226
      cases e226
      replace hx226_0 := (HB.out.cell (World.block_lt_of_cell? w _ hx226_0)).trans hx226_0
      replace hx226_1 := (HB.out.cell (World.block_lt_of_cell? w _ hx226_1)).trans hx226_1
      have HR226_1 := Aside0.mk hi226_1
      have HC226_1 := Aside0.mk hl226_1
      clear hi226_1 hl226_1
      replace p226 := eq_true p226
      replace q226 := eq_true q226
      go_wp2_with (first | ((with_reducible refine gate_dst (N := 5) rfl ?_); (try (refine gate_guard (by rfl) ?_; dsimp only)); refine box_event ?hg (N := 5) ?hd (cs := #[.int .i64 0, .slice none 0 0]) (t := 35) ?hr ?_; (case hd => rfl); (case hg => rfl); (case hr => first | (go_simp; done) | (go_simp; rfl)); intro gb227 hg w7 hbox hb; have n0_ := Aside0.mk (blk_below (g := gb225) (o := .cells #[.slice A0_0 l0_0.length c0_0, .slice A0_1 l0_1.length c0_1, .int .i64 a0_2, .slice (some ad226) l0_3.length c0_3] 25 (0, 0)) (by (with_reducible repeat (first | refine blk_drewN ?_ _ | refine blk_drew ?_ | refine blk_alloc ?_ _)); exact BK225.out) hb); have n1_ := Aside0.mk (below_step (by repeat (first | (with_reducible first | exact HB.out | apply below_alloc | apply pw_below_drewN | apply below_drew1 | refine below_set ?_ GE225.out) | exact HB.out)) hb); have n2_ := Aside0.mk (hbox); have n3_ := Aside0.mk ((by rw [hg]; exact (below_size (by repeat (first | (with_reducible first | exact HB.out | apply below_alloc | apply pw_below_drewN | apply below_drew1 | refine below_set ?_ GE225.out) | exact HB.out))) : w.heap.size ≤ gb227)); have n4_ := Aside0.mk ((by rw [hg]; exact (below_size (by repeat (first | (with_reducible first | exact HB.out | apply below_alloc | apply pw_below_drewN | apply below_drew1 | refine below_set ?_ GE225.out) | exact HB.out))) : w.heap.size ≤ gb227)); have n5_ := Aside0.mk ((by rw [hg]; exact Nat.ne_of_lt (blk_lt (g := gb225) (o := .cells #[.slice A0_0 l0_0.length c0_0, .slice A0_1 l0_1.length c0_1, .int .i64 a0_2, .slice (some ad226) l0_3.length c0_3] 25 (0, 0)) (by (with_reducible repeat (first | refine blk_drewN ?_ _ | refine blk_drew ?_ | refine blk_alloc ?_ _)); exact BK225.out)) : gb225 ≠ gb227)); have n6_ := Aside0.mk ((by rw [hg]; exact Nat.ne_of_gt (blk_lt (g := gb225) (o := .cells #[.slice A0_0 l0_0.length c0_0, .slice A0_1 l0_1.length c0_1, .int .i64 a0_2, .slice (some ad226) l0_3.length c0_3] 25 (0, 0)) (by (with_reducible repeat (first | refine blk_drewN ?_ _ | refine blk_drew ?_ | refine blk_alloc ?_ _)); exact BK225.out)) : gb227 ≠ gb225)); clear BK225; clear HB; have BK225 := n0_; have HB := n1_; have BK227 := n2_; have GW227 := n3_; have GE227 := n4_; have NB225_227 := n5_; have NB227_225 := n6_; clear n0_ n1_ n2_ n3_ n4_ n5_ n6_; clear hb hbox hg; have hnb8 := NB227_225.out; have hnc8 := NB225_227.out; have hcz9_0 : w7.cell? ⟨gb227, 0, none⟩ = some (.int .i64 0) := (blk_cell BK227.out 0).trans rfl; have hcz9_1 : w7.cell? ⟨gb227, 1, none⟩ = some (.slice none 0 0) := (blk_cell BK227.out 1).trans rfl; have hfz9_0 := blk_frozen BK227.out 0; have hfz9_1 := blk_frozen BK227.out 1))
      go_roundg k1
      case measure => have := HK1.out; omega
      case rel => exact ⟨(wrap64 (x3_1 + (wrap64 (1 + (((rd_T35 l0_3 x13_1).f1).length : Int))))), (wrap64 (x13_1 + 1)), (by first | rfl | (simp; done) | (simp [*]; done)), (by first | rfl | (simp; done) | (simp [*]; done)), H', ⟨by have := HK1.out; omega⟩, ⟨by (with_reducible repeat (first | refine blk_drewN ?_ _ | refine blk_drew ?_ | refine blk_alloc ?_ _)); refine blk_far ?_ NB225_227.out _; (with_reducible repeat (first | refine blk_drewN ?_ _ | refine blk_drew ?_ | refine blk_alloc ?_ _)); refine blk_far ?_ NB225_227.out _; (with_reducible repeat (first | refine blk_drewN ?_ _ | refine blk_drew ?_ | refine blk_alloc ?_ _)); exact BK225.out⟩, ⟨by repeat (first | (with_reducible first | exact HB.out | apply below_alloc | apply pw_below_drewN | apply below_drew1 | refine below_set ?_ GE225.out | refine below_set ?_ GE227.out) | exact HB.out)⟩⟩
     ·rw [if_neg c6] at H
      exact absurd H (by simp)
    ·rw [if_neg c5] at H
     exact absurd H (by simp)
   ·rw [if_neg c4] at H
    have c4b0 : decide (x13_1 < (l0_3.length : Int)) = false := decide_eq_false c4
    clear c4
    have H' := Aside0.mk H
    clear H
    have hcz10_0 : wr.cell? ⟨gb225, 0, none⟩ = some (.slice A0_0 l0_0.length c0_0) := (blk_cell BK225.out 0).trans rfl
    have hcz10_1 : wr.cell? ⟨gb225, 1, none⟩ = some (.slice A0_1 l0_1.length c0_1) := (blk_cell BK225.out 1).trans rfl
    have hcz10_2 : wr.cell? ⟨gb225, 2, none⟩ = some (.int .i64 a0_2) := (blk_cell BK225.out 2).trans rfl
    have hcz10_3 : wr.cell? ⟨gb225, 3, none⟩ = some (.slice A0_3 l0_3.length c0_3) := (blk_cell BK225.out 3).trans rfl
    have hfz10_0 := blk_frozen BK225.out 0
    have hfz10_1 := blk_frozen BK225.out 1
    have hfz10_2 := blk_frozen BK225.out 2
    have hfz10_3 := blk_frozen BK225.out 3
    go_wp2
    go_loopg [3, 27] k1 (fun kq v3 v27 w' => ∃ (x3_2 : Int) (x27_2 : Int), v3 = .int .i64 x3_2 ∧ v27 = .int .i64 x27_2 ∧ Aside0 (wickerlaw02_Small.l1 kq x3_2 l0_0 (l0_0.length : Int) x27_2 l0_0 l0_1 a0_2 l0_3 = some r) ∧ Aside0 (kq ≤ k1) ∧ Aside0 (w'.heap[gb225]? = some (.cells #[(.slice A0_0 l0_0.length c0_0), (.slice A0_1 l0_1.length c0_1), .int .i64 a0_2, (.slice A0_3 l0_3.length c0_3)] 25 (0, 0))) ∧ Aside0 (Below w.heap.size w w'))
    case atStart => exact ⟨(x3_1), (0), (by first | rfl | (simp; done) | (simp [*]; done)), (by first | rfl | (simp; done) | (simp [*]; done)), H', ⟨Nat.le_refl _⟩, ⟨by (with_reducible repeat (first | refine blk_drewN ?_ _ | refine blk_drew ?_ | refine blk_alloc ?_ _)); exact BK225.out⟩, ⟨by repeat (first | (with_reducible first | exact HB.out | apply below_alloc | apply pw_below_drewN | apply below_drew1 | refine below_set ?_ GE225.out) | exact HB.out)⟩⟩
    case round =>
     clear H'
     try clear c2
     try clear p2
     try clear q2
     try clear hx2
     try clear c4
     try clear c4b0
     try clear c5
     try clear c5b0
     try clear c6
     try clear c6b0
     try clear p6
     try clear c8
     try clear c9
     try clear hcz10_0
     try clear hcz10_1
     try clear hcz10_2
     try clear hcz10_3
     try clear hcz3_0
     try clear hcz3_1
     try clear hcz3_2
     try clear hcz3_3
     try clear hcz9_0
     try clear hcz9_1
     try clear hfz10_0
     try clear hfz10_1
     try clear hfz10_2
     try clear hfz10_3
     try clear hfz3_0
     try clear hfz3_1
     try clear hfz3_2
     try clear hfz3_3
     try clear hfz9_0
     try clear hfz9_1
     try clear hx226_0
     try clear hx226_1
     try clear p2
     try clear p226
     try clear q226
     obtain ⟨x3_2, x27_2, rfl, rfl, HA, HK2, BK225, HB⟩ := hrel
     cases gk with
     | zero => exact absurd HA.out (by simp [wickerlaw02_Small.l1])
     | succ k2 =>
      have H := HA.out
      clear HA
      simp only [wickerlaw02_Small.l1] at H
      by_cases c11 : x27_2 < (l0_0.length : Int)
      ·rw [if_pos c11] at H
       have c11b0 : decide (x27_2 < (l0_0.length : Int)) = true := decide_eq_true c11
       clear c11
       by_cases c12 : 0 ≤ x27_2
       ·rw [if_pos c12] at H
        have c12b0 : decide (0 ≤ x27_2) = true := decide_eq_true c12
        clear c12
        by_cases c13 : x27_2 < (l0_0.length : Int)
        ·rw [if_pos c13] at H
         have c13b0 : decide (x27_2 < (l0_0.length : Int)) = true := decide_eq_true c13
         clear c13
         have H' := Aside0.mk H
         clear H
         have p228 : 0 ≤ (x27_2 : Int) := of_decide_eq_true (by first | (with_reducible assumption) | assumption)
         have q228 : x27_2 < (l0_0.length : Int) := of_decide_eq_true (by first | (with_reducible assumption) | assumption)
         obtain ⟨ad228, e228, hx228_0⟩ := Kd.at_string HR0_0.out x27_2 p228 q228
         cases e228
         replace hx228_0 := (HB.out.cell (World.block_lt_of_cell? w _ hx228_0)).trans hx228_0
         replace p228 := eq_true p228
         replace q228 := eq_true q228
         go_wp2
         go_roundg k2
         case measure => have := HK1.out; have := HK2.out; omega
         case rel => exact ⟨(wrap64 (x3_2 + (wrap64 (((rdOf ByteArray.empty l0_0 x27_2).size : Int) / 16)))), (wrap64 (x27_2 + 1)), (by first | rfl | (simp; done) | (simp [*]; done)), (by first | rfl | (simp; done) | (simp [*]; done)), H', ⟨by have := HK1.out; have := HK2.out; omega⟩, ⟨by (with_reducible repeat (first | refine blk_drewN ?_ _ | refine blk_drew ?_ | refine blk_alloc ?_ _)); exact BK225.out⟩, ⟨by repeat (first | (with_reducible first | exact HB.out | apply below_alloc | apply pw_below_drewN | apply below_drew1 | refine below_set ?_ GE225.out) | exact HB.out)⟩⟩
        ·rw [if_neg c13] at H
         exact absurd H (by simp)
       ·rw [if_neg c12] at H
        exact absurd H (by simp)
      ·rw [if_neg c11] at H
       have c11b0 : decide (x27_2 < (l0_0.length : Int)) = false := decide_eq_false c11
       clear c11
       have H' := Aside0.mk H
       clear H
       have hcz14_0 : wr.cell? ⟨gb225, 0, none⟩ = some (.slice A0_0 l0_0.length c0_0) := (blk_cell BK225.out 0).trans rfl
       have hcz14_1 : wr.cell? ⟨gb225, 1, none⟩ = some (.slice A0_1 l0_1.length c0_1) := (blk_cell BK225.out 1).trans rfl
       have hcz14_2 : wr.cell? ⟨gb225, 2, none⟩ = some (.int .i64 a0_2) := (blk_cell BK225.out 2).trans rfl
       have hcz14_3 : wr.cell? ⟨gb225, 3, none⟩ = some (.slice A0_3 l0_3.length c0_3) := (blk_cell BK225.out 3).trans rfl
       have hfz14_0 := blk_frozen BK225.out 0
       have hfz14_1 := blk_frozen BK225.out 1
       have hfz14_2 := blk_frozen BK225.out 2
       have hfz14_3 := blk_frozen BK225.out 3
       go_wp2
       go_loopg [3, 40] k2 (fun kq v3 v40 w' => ∃ (x3_3 : Int) (x40_3 : Int), v3 = .int .i64 x3_3 ∧ v40 = .int .i64 x40_3 ∧ Aside0 (wickerlaw02_Small.l2 kq x3_3 l0_1 (l0_1.length : Int) x40_3 l0_0 l0_1 a0_2 l0_3 = some r) ∧ Aside0 (kq ≤ k2) ∧ Aside0 (w'.heap[gb225]? = some (.cells #[(.slice A0_0 l0_0.length c0_0), (.slice A0_1 l0_1.length c0_1), .int .i64 a0_2, (.slice A0_3 l0_3.length c0_3)] 25 (0, 0))) ∧ Aside0 (Below w.heap.size w w'))
       case atStart => exact ⟨(x3_2), (0), (by first | rfl | (simp; done) | (simp [*]; done)), (by first | rfl | (simp; done) | (simp [*]; done)), H', ⟨Nat.le_refl _⟩, ⟨by (with_reducible repeat (first | refine blk_drewN ?_ _ | refine blk_drew ?_ | refine blk_alloc ?_ _)); exact BK225.out⟩, ⟨by repeat (first | (with_reducible first | exact HB.out | apply below_alloc | apply pw_below_drewN | apply below_drew1 | refine below_set ?_ GE225.out) | exact HB.out)⟩⟩
       case round =>
        clear H'
        try clear c1
        try clear c2
        try clear p2
        try clear q2
        try clear hx2
        try clear c4
        try clear c4b0
        try clear c5
        try clear c5b0
        try clear c6
        try clear c6b0
        try clear p6
        try clear c8
        try clear c9
        try clear c11
        try clear c11b0
        try clear c12
        try clear c12b0
        try clear c13
        try clear c13b0
        try clear hcz10_0
        try clear hcz10_1
        try clear hcz10_2
        try clear hcz10_3
        try clear hcz14_0
        try clear hcz14_1
        try clear hcz14_2
        try clear hcz14_3
        try clear hcz3_0
        try clear hcz3_1
        try clear hcz3_2
        try clear hcz3_3
        try clear hcz9_0
        try clear hcz9_1
        try clear hfz10_0
        try clear hfz10_1
        try clear hfz10_2
        try clear hfz10_3
        try clear hfz14_0
        try clear hfz14_1
        try clear hfz14_2
        try clear hfz14_3
        try clear hfz3_0
        try clear hfz3_1
        try clear hfz3_2
        try clear hfz3_3
        try clear hfz9_0
        try clear hfz9_1
        try clear hx226_0
        try clear hx226_1
        try clear hx228_0
        try clear p2
        try clear p226
        try clear p228
        try clear p6
        try clear q2
        try clear q226
        try clear q228
        obtain ⟨x3_3, x40_3, rfl, rfl, HA, HK3, BK225, HB⟩ := hrel
        cases gk with
        | zero => exact absurd HA.out (by simp [wickerlaw02_Small.l2])
        | succ k3 =>
         have H := HA.out
         clear HA
         simp only [wickerlaw02_Small.l2] at H
         by_cases c15 : x40_3 < (l0_1.length : Int)
         ·rw [if_pos c15] at H
          have c15b0 : decide (x40_3 < (l0_1.length : Int)) = true := decide_eq_true c15
          clear c15
          by_cases c16 : 0 ≤ x40_3
          ·rw [if_pos c16] at H
           have c16b0 : decide (0 ≤ x40_3) = true := decide_eq_true c16
           clear c16
           by_cases c17 : x40_3 < (l0_1.length : Int)
           ·rw [if_pos c17] at H
            have c17b0 : decide (x40_3 < (l0_1.length : Int)) = true := decide_eq_true c17
            clear c17
            have H' := Aside0.mk H
            clear H
            have p229 : 0 ≤ (x40_3 : Int) := of_decide_eq_true (by first | (with_reducible assumption) | assumption)
            have q229 : x40_3 < (l0_1.length : Int) := of_decide_eq_true (by first | (with_reducible assumption) | assumption)
            obtain ⟨ad229, e229, hx229_0⟩ := Kd.at_string HR0_1.out x40_3 p229 q229
            cases e229
            replace hx229_0 := (HB.out.cell (World.block_lt_of_cell? w _ hx229_0)).trans hx229_0
            replace p229 := eq_true p229
            replace q229 := eq_true q229
            go_wp2
            go_roundg k3
            case measure => have := HK1.out; have := HK2.out; have := HK3.out; omega
            case rel => exact ⟨(wrap64 (x3_3 + (wrap64 (((rdOf ByteArray.empty l0_1 x40_3).size : Int) / 16)))), (wrap64 (x40_3 + 1)), (by first | rfl | (simp; done) | (simp [*]; done)), (by first | rfl | (simp; done) | (simp [*]; done)), H', ⟨by have := HK1.out; have := HK2.out; have := HK3.out; omega⟩, ⟨by (with_reducible repeat (first | refine blk_drewN ?_ _ | refine blk_drew ?_ | refine blk_alloc ?_ _)); exact BK225.out⟩, ⟨by repeat (first | (with_reducible first | exact HB.out | apply below_alloc | apply pw_below_drewN | apply below_drew1 | refine below_set ?_ GE225.out) | exact HB.out)⟩⟩
           ·rw [if_neg c17] at H
            exact absurd H (by simp)
          ·rw [if_neg c16] at H
           exact absurd H (by simp)
         ·rw [if_neg c15] at H
          have c15b0 : decide (x40_3 < (l0_1.length : Int)) = false := decide_eq_false c15
          clear c15
          by_cases c18 : x3_3 ≤ 600
          ·rw [if_pos c18] at H
           have c18b0 : decide (x3_3 ≤ 600) = true := decide_eq_true c18
           clear c18
           by_cases c19 : (l0_0.length : Int) ≤ 60
           ·rw [if_pos c19] at H
            have c19b0 : decide ((l0_0.length : Int) ≤ 60) = true := decide_eq_true c19
            have c19b1 : decide (l0_0.length ≤ 60) = true := decide_eq_true (by omega)
            clear c19
            by_cases c20 : (l0_1.length : Int) ≤ 60
            ·rw [if_pos c20] at H
             have c20b0 : decide ((l0_1.length : Int) ≤ 60) = true := decide_eq_true c20
             have c20b1 : decide (l0_1.length ≤ 60) = true := decide_eq_true (by omega)
             clear c20
             obtain rfl := Option.some.inj H
             have hcz21_0 : wr.cell? ⟨gb225, 0, none⟩ = some (.slice A0_0 l0_0.length c0_0) := (blk_cell BK225.out 0).trans rfl
             have hcz21_1 : wr.cell? ⟨gb225, 1, none⟩ = some (.slice A0_1 l0_1.length c0_1) := (blk_cell BK225.out 1).trans rfl
             have hcz21_2 : wr.cell? ⟨gb225, 2, none⟩ = some (.int .i64 a0_2) := (blk_cell BK225.out 2).trans rfl
             have hcz21_3 : wr.cell? ⟨gb225, 3, none⟩ = some (.slice A0_3 l0_3.length c0_3) := (blk_cell BK225.out 3).trans rfl
             have hfz21_0 := blk_frozen BK225.out 0
             have hfz21_1 := blk_frozen BK225.out 1
             have hfz21_2 := blk_frozen BK225.out 2
             have hfz21_3 := blk_frozen BK225.out 3
             go_wp2
             go_ret
             exact ⟨by first | rfl | (simp [errW_none, errW_some] <;> rfl) | (simp [*, errW_none, errW_some] <;> rfl), by repeat (first | (with_reducible first | exact HB.out | apply below_alloc | apply pw_below_drewN | apply below_drew1 | refine below_set ?_ GE225.out) | exact HB.out)⟩
            ·rw [if_neg c20] at H
             have c20b0 : decide ((l0_1.length : Int) ≤ 60) = false := decide_eq_false c20
             have c20b1 : decide (l0_1.length ≤ 60) = false := decide_eq_false (by omega)
             clear c20
             obtain rfl := Option.some.inj H
             have hcz22_0 : wr.cell? ⟨gb225, 0, none⟩ = some (.slice A0_0 l0_0.length c0_0) := (blk_cell BK225.out 0).trans rfl
             have hcz22_1 : wr.cell? ⟨gb225, 1, none⟩ = some (.slice A0_1 l0_1.length c0_1) := (blk_cell BK225.out 1).trans rfl
             have hcz22_2 : wr.cell? ⟨gb225, 2, none⟩ = some (.int .i64 a0_2) := (blk_cell BK225.out 2).trans rfl
             have hcz22_3 : wr.cell? ⟨gb225, 3, none⟩ = some (.slice A0_3 l0_3.length c0_3) := (blk_cell BK225.out 3).trans rfl
             have hfz22_0 := blk_frozen BK225.out 0
             have hfz22_1 := blk_frozen BK225.out 1
             have hfz22_2 := blk_frozen BK225.out 2
             have hfz22_3 := blk_frozen BK225.out 3
             go_wp2
             go_ret
             exact ⟨by first | rfl | (simp [errW_none, errW_some] <;> rfl) | (simp [*, errW_none, errW_some] <;> rfl), by repeat (first | (with_reducible first | exact HB.out | apply below_alloc | apply pw_below_drewN | apply below_drew1 | refine below_set ?_ GE225.out) | exact HB.out)⟩
           ·rw [if_neg c19] at H
            have c19b0 : decide ((l0_0.length : Int) ≤ 60) = false := decide_eq_false c19
            have c19b1 : decide (l0_0.length ≤ 60) = false := decide_eq_false (by omega)
            clear c19
            obtain rfl := Option.some.inj H
            have hcz23_0 : wr.cell? ⟨gb225, 0, none⟩ = some (.slice A0_0 l0_0.length c0_0) := (blk_cell BK225.out 0).trans rfl
            have hcz23_1 : wr.cell? ⟨gb225, 1, none⟩ = some (.slice A0_1 l0_1.length c0_1) := (blk_cell BK225.out 1).trans rfl
            have hcz23_2 : wr.cell? ⟨gb225, 2, none⟩ = some (.int .i64 a0_2) := (blk_cell BK225.out 2).trans rfl
            have hcz23_3 : wr.cell? ⟨gb225, 3, none⟩ = some (.slice A0_3 l0_3.length c0_3) := (blk_cell BK225.out 3).trans rfl
            have hfz23_0 := blk_frozen BK225.out 0
            have hfz23_1 := blk_frozen BK225.out 1
            have hfz23_2 := blk_frozen BK225.out 2
            have hfz23_3 := blk_frozen BK225.out 3
            go_wp2
            go_ret
            exact ⟨by first | rfl | (simp [errW_none, errW_some] <;> rfl) | (simp [*, errW_none, errW_some] <;> rfl), by repeat (first | (with_reducible first | exact HB.out | apply below_alloc | apply pw_below_drewN | apply below_drew1 | refine below_set ?_ GE225.out) | exact HB.out)⟩
          ·rw [if_neg c18] at H
           have c18b0 : decide (x3_3 ≤ 600) = false := decide_eq_false c18
           clear c18
           obtain rfl := Option.some.inj H
           go_wp2
           go_ret
           exact ⟨by first | rfl | (simp [errW_none, errW_some] <;> rfl) | (simp [*, errW_none, errW_some] <;> rfl), by repeat (first | (with_reducible first | exact HB.out | apply below_alloc | apply pw_below_drewN | apply below_drew1 | refine below_set ?_ GE225.out) | exact HB.out)⟩
def wickerlaw02_Example.f  : Option (List ByteArray × List ByteArray × Int × (List (S35))) := some ((([(⟨#[83]⟩ : ByteArray)] : List ByteArray)), (([(⟨#[97]⟩ : ByteArray)] : List ByteArray)), 0, (([(⟨0, (([(-1), 0] : List Int))⟩ : S35), (⟨0, ([] : List Int)⟩ : S35)] : List (S35))))
set_option maxHeartbeats 8000000 in
set_option maxRecDepth 100000 in
theorem wickerlaw02_Example.calls  (r1 : List ByteArray) (r2 : List ByteArray) (r3 : Int) (r4 : List (S35)) (w : World) (h : wickerlaw02_Example.f  = some (r1, r2, r3, r4)) :
  Calls Tryd.prog 46 #[] w fun e w' => ∃ v0_ v1_ v3_ : Value, e = .returned (.agg #[v0_, v1_, .int .i64 r3, v3_]) ∧ Kd.R Kd.string 9 w' w.heap.size (fun k_ => (w.heap.size ≤ k_) ∧ some k_ ≠ (v1_ : Value).ownBlock) v0_ r1 ∧ Kd.R Kd.string 9 w' w.heap.size (fun k_ => (w.heap.size ≤ k_) ∧ some k_ ≠ (v0_ : Value).ownBlock) v1_ r2 ∧ Kd.N k35 35 w' w.heap.size (fun k_ => (w.heap.size ≤ k_) ∧ some k_ ≠ (v0_ : Value).ownBlock ∧ some k_ ≠ (v1_ : Value).ownBlock) v3_ r4 ∧ Below w.heap.size w w' := by
 have hu25 := Tryd.underlying25
 have hu35 := Tryd.underlying35
 have HB := Aside0.mk (Below.refl w.heap.size w)
 have H : (some ((([(⟨#[83]⟩ : ByteArray)] : List ByteArray)), (([(⟨#[97]⟩ : ByteArray)] : List ByteArray)), 0, (([(⟨0, (([(-1), 0] : List Int))⟩ : S35), (⟨0, ([] : List Int)⟩ : S35)] : List (S35))))) = some (r1, r2, r3, r4) := h
 clear h
 obtain ⟨y231, hy231⟩ : ∃ y_ : List ByteArray, y_ = (([(⟨#[83]⟩ : ByteArray)] : List ByteArray)) := ⟨_, rfl⟩
 replace H : (some (y231, (([(⟨#[97]⟩ : ByteArray)] : List ByteArray)), 0, (([(⟨0, (([(-1), 0] : List Int))⟩ : S35), (⟨0, ([] : List Int)⟩ : S35)] : List (S35))))) = some (r1, r2, r3, r4) := by first | (rw [hy231]; with_reducible exact H) | (have H2_ := (Option.bind_some _ _).symm.trans H; rw [hy231]; with_reducible exact H2_) | (have H2_ := (Option.bind_some _ _).symm.trans H; with_reducible exact H2_) | with_reducible exact H | (rw [hy231]; exact H) | exact H
 have Ny231 := Aside0.mk hy231
 clear hy231
 obtain ⟨y234, hy234⟩ : ∃ y_ : List ByteArray, y_ = (([(⟨#[97]⟩ : ByteArray)] : List ByteArray)) := ⟨_, rfl⟩
 replace H : (some (y231, y234, 0, (([(⟨0, (([(-1), 0] : List Int))⟩ : S35), (⟨0, ([] : List Int)⟩ : S35)] : List (S35))))) = some (r1, r2, r3, r4) := by first | (rw [hy234]; with_reducible exact H) | (have H2_ := (Option.bind_some _ _).symm.trans H; rw [hy234]; with_reducible exact H2_) | (have H2_ := (Option.bind_some _ _).symm.trans H; with_reducible exact H2_) | with_reducible exact H | (rw [hy234]; exact H) | exact H
 have Ny234 := Aside0.mk hy234
 clear hy234
 obtain ⟨y237, hy237⟩ : ∃ y_ : List Int, y_ = (([(-1), 0] : List Int)) := ⟨_, rfl⟩
 replace H : (some (y231, y234, 0, (([(⟨0, y237⟩ : S35), (⟨0, ([] : List Int)⟩ : S35)] : List (S35))))) = some (r1, r2, r3, r4) := by first | (rw [hy237]; with_reducible exact H) | (have H2_ := (Option.bind_some _ _).symm.trans H; rw [hy237]; with_reducible exact H2_) | (have H2_ := (Option.bind_some _ _).symm.trans H; with_reducible exact H2_) | with_reducible exact H | (rw [hy237]; exact H) | exact H
 have Ny237 := Aside0.mk hy237
 clear hy237
 obtain ⟨y240, hy240⟩ : ∃ y_ : List (S35), y_ = (([(⟨0, y237⟩ : S35), (⟨0, ([] : List Int)⟩ : S35)] : List (S35))) := ⟨_, rfl⟩
 replace H : (some (y231, y234, 0, y240)) = some (r1, r2, r3, r4) := by first | (rw [hy240]; with_reducible exact H) | (have H2_ := (Option.bind_some _ _).symm.trans H; rw [hy240]; with_reducible exact H2_) | (have H2_ := (Option.bind_some _ _).symm.trans H; with_reducible exact H2_) | with_reducible exact H | (rw [hy240]; exact H) | exact H
 have Ny240 := Aside0.mk hy240
 clear hy240
 simp only [Option.some.injEq, Prod.mk.injEq] at H
 obtain ⟨rfl, rfl, rfl, rfl⟩ := H
 go_enter Tryd.func46, Tryd.ntmps46
 go_wp2_with (first | ((with_reducible refine gate_dst (N := 0) rfl ?_); refine box_event ?hg (N := 0) ?hd (cs := #[.slice none 0 0, .slice none 0 0, .int .i64 0, .slice none 0 0]) (t := 25) ?hr ?_; (case hd => rfl); (case hg => rfl); (case hr => first | (go_simp; done) | (go_simp; rfl)); intro gb230 hg w1 hbox hb; have n0_ := Aside0.mk (below_step (by repeat (first | (with_reducible first | exact HB.out | apply below_alloc | apply pw_below_drewN | apply below_drew1) | exact HB.out)) hb); have n1_ := Aside0.mk (hbox); have n2_ := Aside0.mk ((by rw [hg]; exact (below_size (by repeat (first | (with_reducible first | exact HB.out | apply below_alloc | apply pw_below_drewN | apply below_drew1) | exact HB.out))) : w.heap.size ≤ gb230)); have n3_ := Aside0.mk ((by rw [hg]; exact (below_size (by repeat (first | (with_reducible first | exact HB.out | apply below_alloc | apply pw_below_drewN | apply below_drew1) | exact HB.out))) : w.heap.size ≤ gb230)); clear HB; have HB := n0_; have BK230 := n1_; have GW230 := n2_; have GE230 := n3_; clear n0_ n1_ n2_ n3_; clear hb hbox hg) | ((with_reducible refine gate_dst (N := 1) rfl ?_); refine Kd.R_lit Kd.string _ 9 ?hg (N := 1) ?hd (xs := ([(⟨#[83]⟩ : ByteArray)] : List ByteArray)) (inner := [.string (⟨#[83]⟩ : ByteArray)]) (ok := fun _ => True) (okp := fun _ => True) ?hr ?hp (fun _ hk => hk) trivial (Below.refl _ _) (Nat.le_refl _) (by simp) ?_; (case hd => rfl); (case hg => rfl); (case hr => first | (go_simp; done) | (go_simp; rfl)); (case hp => exact (Reps.one (show Kd.M Kd.string _ _ _ (⟨#[83]⟩ : ByteArray) [.string (⟨#[83]⟩ : ByteArray)] from rfl) (Reps.none _ _))); intro v232 w2 ho3 hb hg_ hnew_; clear hg_ hnew_; (first | rw [← Ny231.out] at ho3 | (simp only [Int.reduceToNat] at ho3; rw [← Ny231.out] at ho3)); have n0_ := Aside0.mk (Kd.R_lower (Kd.R_newM (M := fun k_ => (w.heap.size ≤ k_)) ho3 (below_size (by repeat (first | (with_reducible first | exact HB.out | apply below_alloc | apply pw_below_drewN | apply below_drew1 | refine below_set ?_ GE230.out) | exact HB.out))) (fun k_ h_ => h_)) (below_size (by repeat (first | (with_reducible first | exact HB.out | apply below_alloc | apply pw_below_drewN | apply below_drew1 | refine below_set ?_ GE230.out) | exact HB.out)))); have n1_ := Aside0.mk (blk_below (g := gb230) (o := .cells #[.slice none 0 0, .slice none 0 0, .int .i64 0, .slice none 0 0] 25 (0, 0)) (by (with_reducible repeat (first | refine blk_drewN ?_ _ | refine blk_drew ?_ | refine blk_alloc ?_ _)); exact BK230.out) hb); have n2_ := Aside0.mk (below_step (by repeat (first | (with_reducible first | exact HB.out | apply below_alloc | apply pw_below_drewN | apply below_drew1 | refine below_set ?_ GE230.out) | exact HB.out)) hb); clear BK230; clear HB; have HO233 := n0_; have BK230 := n1_; have HB := n2_; clear n0_ n1_ n2_; clear hb ho3) | ((with_reducible refine gate_dst (N := 2) rfl ?_); refine Kd.R_lit Kd.string _ 9 ?hg (N := 2) ?hd (xs := ([(⟨#[97]⟩ : ByteArray)] : List ByteArray)) (inner := [.string (⟨#[97]⟩ : ByteArray)]) (ok := fun _ => True) (okp := fun _ => True) ?hr ?hp (fun _ hk => hk) trivial (Below.refl _ _) (Nat.le_refl _) (by simp) ?_; (case hd => rfl); (case hg => rfl); (case hr => first | (go_simp; done) | (go_simp; rfl)); (case hp => exact (Reps.one (show Kd.M Kd.string _ _ _ (⟨#[97]⟩ : ByteArray) [.string (⟨#[97]⟩ : ByteArray)] from rfl) (Reps.none _ _))); intro v235 w4 ho5 hb hg_ hnew_; clear hg_ hnew_; (first | rw [← Ny234.out] at ho5 | (simp only [Int.reduceToNat] at ho5; rw [← Ny234.out] at ho5)); have n0_ := Aside0.mk (Kd.R_elder' (by (with_reducible repeat (first | apply Kd.R_alloc | apply Kd.R_drewN | apply Kd.R_drew)); exact HO233.out) (Kd.R_base ho5) hb); have n1_ := Aside0.mk (Kd.R_lower (Kd.R_new' (Kd.R_newM (M := fun k_ => (w.heap.size ≤ k_)) ho5 (below_size (by repeat (first | (with_reducible first | exact HB.out | apply below_alloc | apply pw_below_drewN | apply below_drew1 | refine below_set ?_ GE230.out) | exact HB.out))) (fun k_ h_ => h_)) (Kd.R_lt (by (with_reducible repeat (first | apply Kd.R_alloc | apply Kd.R_drewN | apply Kd.R_drew)); exact HO233.out))) (below_size (by repeat (first | (with_reducible first | exact HB.out | apply below_alloc | apply pw_below_drewN | apply below_drew1 | refine below_set ?_ GE230.out) | exact HB.out)))); have n2_ := Aside0.mk (blk_below (g := gb230) (o := .cells #[.slice none 0 0, .slice none 0 0, .int .i64 0, .slice none 0 0] 25 (0, 0)) (by (with_reducible repeat (first | refine blk_drewN ?_ _ | refine blk_drew ?_ | refine blk_alloc ?_ _)); exact BK230.out) hb); have n3_ := Aside0.mk (below_step (by repeat (first | (with_reducible first | exact HB.out | apply below_alloc | apply pw_below_drewN | apply below_drew1 | refine below_set ?_ GE230.out) | exact HB.out)) hb); clear HO233; clear BK230; clear HB; have HO233 := n0_; have HO236 := n1_; have BK230 := n2_; have HB := n3_; clear n0_ n1_ n2_ n3_; clear hb ho5) | ((with_reducible refine gate_dst (N := 3) rfl ?_); refine Kd.R_lit (Kd.int .i64) _ 55 ?hg (N := 3) ?hd (xs := ([(-1), 0] : List Int)) (inner := [.int .i64 (-1), .int .i64 0]) (ok := fun _ => True) (okp := fun _ => True) ?hr ?hp (fun _ hk => hk) trivial (Below.refl _ _) (Nat.le_refl _) (by simp) ?_; (case hd => rfl); (case hg => rfl); (case hr => first | (go_simp; done) | (go_simp; rfl)); (case hp => exact (Reps.one (show Kd.M (Kd.int .i64) _ _ _ (-1) [.int .i64 (-1)] from rfl) (Reps.one (show Kd.M (Kd.int .i64) _ _ _ 0 [.int .i64 0] from rfl) (Reps.none _ _)))); intro v238 w6 ho7 hb hg_ hnew_; clear hg_ hnew_; (first | rw [← Ny237.out] at ho7 | (simp only [Int.reduceToNat] at ho7; rw [← Ny237.out] at ho7)); have n0_ := Aside0.mk (Kd.R_below (by (with_reducible repeat (first | apply Kd.R_alloc | apply Kd.R_drewN | apply Kd.R_drew)); exact HO233.out) hb); have n1_ := Aside0.mk (Kd.R_below (by (with_reducible repeat (first | apply Kd.R_alloc | apply Kd.R_drewN | apply Kd.R_drew)); exact HO236.out) hb); have n2_ := Aside0.mk (Kd.R_lower (Kd.R_newM (M := fun k_ => (w.heap.size ≤ k_)) ho7 (below_size (by repeat (first | (with_reducible first | exact HB.out | apply below_alloc | apply pw_below_drewN | apply below_drew1 | refine below_set ?_ GE230.out) | exact HB.out))) (fun k_ h_ => h_)) (below_size (by repeat (first | (with_reducible first | exact HB.out | apply below_alloc | apply pw_below_drewN | apply below_drew1 | refine below_set ?_ GE230.out) | exact HB.out)))); have n3_ := Aside0.mk (blk_below (g := gb230) (o := .cells #[.slice none 0 0, .slice none 0 0, .int .i64 0, .slice none 0 0] 25 (0, 0)) (by (with_reducible repeat (first | refine blk_drewN ?_ _ | refine blk_drew ?_ | refine blk_alloc ?_ _)); exact BK230.out) hb); have n4_ := Aside0.mk (below_step (by repeat (first | (with_reducible first | exact HB.out | apply below_alloc | apply pw_below_drewN | apply below_drew1 | refine below_set ?_ GE230.out) | exact HB.out)) hb); clear HO233; clear HO236; clear BK230; clear HB; have HO233 := n0_; have HO236 := n1_; have HO239 := n2_; have BK230 := n3_; have HB := n4_; clear n0_ n1_ n2_ n3_ n4_; clear hb ho7; obtain ⟨Ao8, co8, eo8⟩ := Kd.R_slice HO239.out; subst eo8) | ((with_reducible refine gate_dst (N := 6) rfl ?_); refine Kd.N_lit k35 _ 35 ?hg (N' := 6) ?hd (xs := ([(⟨0, y237⟩ : S35), (⟨0, ([] : List Int)⟩ : S35)] : List (S35))) (inner := [.int .i64 0, .slice Ao8 y237.length co8, .int .i64 0, .slice none 0 0]) (ok := (fun k_ => (w.heap.size ≤ k_) ∧ some k_ ≠ (v232 : Value).ownBlock ∧ some k_ ≠ (v235 : Value).ownBlock ∧ k_ ≠ gb230)) (okp := (fun k_ => (w.heap.size ≤ k_) ∧ some k_ ≠ (v232 : Value).ownBlock ∧ some k_ ≠ (v235 : Value).ownBlock ∧ k_ ≠ gb230)) ?hr ?hp (fun _ hk => hk) ((show ∀ k_, w6.heap.size ≤ k_ → (fun k_ => (w.heap.size ≤ k_) ∧ some k_ ≠ (v232 : Value).ownBlock ∧ some k_ ≠ (v235 : Value).ownBlock ∧ k_ ≠ gb230) k_ from fun k_ hk => ⟨(Nat.le_trans (below_size (by repeat (first | (with_reducible first | exact HB.out | apply below_alloc | apply pw_below_drewN | apply below_drew1 | refine below_set ?_ GE230.out) | exact HB.out))) hk), Kd.fresh' (Kd.R_lt (by (with_reducible repeat (first | apply Kd.R_alloc | apply Kd.R_drewN | apply Kd.R_drew)); exact HO233.out)) k_ hk, Kd.fresh' (Kd.R_lt (by (with_reducible repeat (first | apply Kd.R_alloc | apply Kd.R_drewN | apply Kd.R_drew)); exact HO236.out)) k_ hk, Kd.freshB (g := gb230) (o := .cells #[.slice none 0 0, .slice none 0 0, .int .i64 0, .slice none 0 0] 25 (0, 0)) (by (with_reducible repeat (first | refine blk_drewN ?_ _ | refine blk_drew ?_ | refine blk_alloc ?_ _)); exact BK230.out) k_ hk⟩) _ (Nat.le_refl _)) (Below.refl _ _) (Nat.le_refl _) (by simp) ?_; (case hd => rfl); (case hg => rfl); (case hr => first | (go_simp; done) | (go_simp; rfl)); (case hp => exact (Reps.c2 (show Kd.FK k35 _ _ (⟨0, y237⟩ : S35) [.int .i64 0, .slice Ao8 y237.length co8] from (k35_mkF _ _ (⟨0, y237⟩ : S35) (Kd.R_reads' (Kd.R_mono (ok' := (fun k_ => (w.heap.size ≤ k_) ∧ some k_ ≠ (v232 : Value).ownBlock ∧ some k_ ≠ (v235 : Value).ownBlock ∧ k_ ≠ gb230)) (Kd.R_types (Kd.R_apart' (Kd.R_apart' (HO239.out) (Kd.R_typed HO233.out) (by decide)) (Kd.R_typed HO236.out) (by decide)) BK230.out (by decide)) (fun k_ hk => ⟨hk.1.1.1.1, ⟨hk.1.1.2, ⟨hk.1.2, hk.2⟩⟩⟩))).2.1 (Kd.R_F (Kd.R_mono (ok' := (fun k_ => (w.heap.size ≤ k_) ∧ some k_ ≠ (v232 : Value).ownBlock ∧ some k_ ≠ (v235 : Value).ownBlock ∧ k_ ≠ gb230)) (Kd.R_types (Kd.R_apart' (Kd.R_apart' (HO239.out) (Kd.R_typed HO233.out) (by decide)) (Kd.R_typed HO236.out) (by decide)) BK230.out (by decide)) (fun k_ hk => ⟨hk.1.1.1.1, ⟨hk.1.1.2, ⟨hk.1.2, hk.2⟩⟩⟩))))) (Reps.c2 (show Kd.FK k35 _ _ (⟨0, ([] : List Int)⟩ : S35) [.int .i64 0, .slice none 0 0] from (k35_mkF _ _ (⟨0, ([] : List Int)⟩ : S35) (Nat.le_refl _) (Kd.F_nil _ _ _))) (Reps.none _ _)))); intro v241 w9 ho10 hb hg_ hnew_; clear hg_ hnew_; (first | rw [← Ny240.out] at ho10 | (simp only [Int.reduceToNat] at ho10; rw [← Ny240.out] at ho10)); have n0_ := Aside0.mk (Kd.R_below (by (with_reducible repeat (first | apply Kd.R_alloc | apply Kd.R_drewN | apply Kd.R_drew)); exact HO233.out) hb); have n1_ := Aside0.mk (Kd.R_below (by (with_reducible repeat (first | apply Kd.R_alloc | apply Kd.R_drewN | apply Kd.R_drew)); exact HO236.out) hb); have n2_ := Aside0.mk (Kd.N_lower ho10 (below_size (by repeat (first | (with_reducible first | exact HB.out | apply below_alloc | apply pw_below_drewN | apply below_drew1 | refine below_set ?_ GE230.out) | exact HB.out)))); have n3_ := Aside0.mk (blk_below (g := gb230) (o := .cells #[.slice none 0 0, .slice none 0 0, .int .i64 0, .slice none 0 0] 25 (0, 0)) (by (with_reducible repeat (first | refine blk_drewN ?_ _ | refine blk_drew ?_ | refine blk_alloc ?_ _)); exact BK230.out) hb); have n4_ := Aside0.mk (below_step (by repeat (first | (with_reducible first | exact HB.out | apply below_alloc | apply pw_below_drewN | apply below_drew1 | refine below_set ?_ GE230.out) | exact HB.out)) hb); clear HO233; clear HO236; clear BK230; clear HB; clear HO239; have HO233 := n0_; have HO236 := n1_; have HO242 := n2_; have BK230 := n3_; have HB := n4_; clear n0_ n1_ n2_ n3_ n4_; clear hb ho10; obtain ⟨Ao11, co11, eo11⟩ := Kd.N_slice HO242.out; subst eo11; obtain ⟨Ao12, co12, eo12⟩ := Kd.R_slice HO236.out; subst eo12; obtain ⟨Ao13, co13, eo13⟩ := Kd.R_slice HO233.out; subst eo13; have hcz14_0 : w9.cell? ⟨gb230, 0, none⟩ = some (.slice none 0 0) := (blk_cell BK230.out 0).trans rfl; have hcz14_1 : w9.cell? ⟨gb230, 1, none⟩ = some (.slice none 0 0) := (blk_cell BK230.out 1).trans rfl; have hcz14_2 : w9.cell? ⟨gb230, 2, none⟩ = some (.int .i64 0) := (blk_cell BK230.out 2).trans rfl; have hcz14_3 : w9.cell? ⟨gb230, 3, none⟩ = some (.slice none 0 0) := (blk_cell BK230.out 3).trans rfl; have hfz14_0 := blk_frozen BK230.out 0; have hfz14_1 := blk_frozen BK230.out 1; have hfz14_2 := blk_frozen BK230.out 2; have hfz14_3 := blk_frozen BK230.out 3))
 refine bodyPost_ret (results_cell_row rfl _ _ gb230 25 #[.slice Ao13 y231.length co13, .slice Ao12 y234.length co12, .int .i64 0, .slice Ao11 y240.length co11] (0, 0) _ rfl (by (with_reducible repeat (first | refine blk_drewN ?_ _ | refine blk_drew ?_ | refine blk_alloc ?_ _)); refine blk_put (cs := #[.slice Ao13 y231.length co13, .slice Ao12 y234.length co12, .int .i64 0, .slice none 0 0]) ?_ 3 _ rfl; (with_reducible repeat (first | refine blk_drewN ?_ _ | refine blk_drew ?_ | refine blk_alloc ?_ _)); refine blk_put (cs := #[.slice Ao13 y231.length co13, .slice Ao12 y234.length co12, .int .i64 0, .slice none 0 0]) ?_ 2 _ rfl; (with_reducible repeat (first | refine blk_drewN ?_ _ | refine blk_drew ?_ | refine blk_alloc ?_ _)); refine blk_put (cs := #[.slice Ao13 y231.length co13, .slice none 0 0, .int .i64 0, .slice none 0 0]) ?_ 1 _ rfl; (with_reducible repeat (first | refine blk_drewN ?_ _ | refine blk_drew ?_ | refine blk_alloc ?_ _)); refine blk_put (cs := #[.slice none 0 0, .slice none 0 0, .int .i64 0, .slice none 0 0]) ?_ 0 _ rfl; (with_reducible repeat (first | refine blk_drewN ?_ _ | refine blk_drew ?_ | refine blk_alloc ?_ _)); exact BK230.out) Tryd.underlying25 rfl (by kernel_rfl)) rfl ?_
 exact ⟨_, _, _, by first | rfl | (simp [errW_none, errW_some] <;> rfl) | (simp [*, errW_none, errW_some] <;> rfl), by (with_reducible repeat (first | apply Kd.R_alloc | apply Kd.R_drewN | apply Kd.R_drew)); exact Kd.R_mono (Kd.R_far (p := ⟨gb230, 3, none⟩) (Kd.R_far (p := ⟨gb230, 2, none⟩) (Kd.R_far (p := ⟨gb230, 1, none⟩) (Kd.R_far (p := ⟨gb230, 0, none⟩) (Kd.R_types HO233.out BK230.out (by decide)) (fun _ hk => hk.2) (.slice Ao13 y231.length co13)) (fun _ hk => hk.2) (.slice Ao12 y234.length co12)) (fun _ hk => hk.2) (.int .i64 0)) (fun _ hk => hk.2) (.slice Ao11 y240.length co11)) (fun _ hk => ⟨hk.1.1.1, hk.1.2⟩), by (with_reducible repeat (first | apply Kd.R_alloc | apply Kd.R_drewN | apply Kd.R_drew)); exact Kd.R_mono (Kd.R_far (p := ⟨gb230, 3, none⟩) (Kd.R_far (p := ⟨gb230, 2, none⟩) (Kd.R_far (p := ⟨gb230, 1, none⟩) (Kd.R_far (p := ⟨gb230, 0, none⟩) (Kd.R_types HO236.out BK230.out (by decide)) (fun _ hk => hk.2) (.slice Ao13 y231.length co13)) (fun _ hk => hk.2) (.slice Ao12 y234.length co12)) (fun _ hk => hk.2) (.int .i64 0)) (fun _ hk => hk.2) (.slice Ao11 y240.length co11)) (fun _ hk => ⟨hk.1.1.1, hk.1.2⟩), by (with_reducible repeat (first | apply Kd.N_alloc | apply Kd.N_drewN | apply Kd.N_drew)); exact Kd.N_mono (Kd.N_far (p := ⟨gb230, 3, none⟩) (Kd.N_far (p := ⟨gb230, 2, none⟩) (Kd.N_far (p := ⟨gb230, 1, none⟩) (Kd.N_far (p := ⟨gb230, 0, none⟩) (Kd.N_mono HO242.out (fun k_ hk => (⟨hk, hk.2.2.2⟩ : _ ∧ k_ ≠ gb230))) (fun _ hk => hk.2) (.slice Ao13 y231.length co13)) (fun _ hk => hk.2) (.slice Ao12 y234.length co12)) (fun _ hk => hk.2) (.int .i64 0)) (fun _ hk => hk.2) (.slice Ao11 y240.length co11)) (fun _ hk => ⟨hk.1.1, ⟨hk.1.2.1, hk.1.2.2.1⟩⟩), by repeat (first | (with_reducible first | exact HB.out | apply below_alloc | apply pw_below_drewN | apply below_drew1 | refine below_set ?_ GE230.out) | exact HB.out)⟩
def wickerlaw02_Awake.f (k : Nat)  : Option (Bool) := (wickerlaw02_Example.f).bind fun bt243 => ((wickerlaw01_Awake.f k).bind fun t254 => (if t254 = true then ((gram_Grammar_Check.f bt243.1 bt243.2.1 bt243.2.2.1 bt243.2.2.2).bind fun t255 => (if t255 = 0 then ((gram_Grammar_Size.f k bt243.1 bt243.2.1 bt243.2.2.1 bt243.2.2.2).bind fun t256 => (if t256 = 4 then ((gram_Grammar_Text.f bt243.1 bt243.2.1 bt243.2.2.1 bt243.2.2.2 (-1)).bind fun t257 => (if t257.toList = ([34, 97, 34] : List UInt8) then ((gram_Grammar_Text.f bt243.1 bt243.2.1 bt243.2.2.1 bt243.2.2.2 0).bind fun t258 => (some (t258.toList == ([60, 83, 62] : List UInt8)))) else (some false))) else (some false))) else (some false))) else (some false)))
theorem wickerlaw02_Awake.mono : ∀ k, LeO (wickerlaw02_Awake.f k ) (wickerlaw02_Awake.f (k + 1) ) := by
 intro  k
 unfold wickerlaw02_Awake.f
 repeat' first
   | (with_reducible exact gram_Grammar_Size.mono _ _ _ _ _)
   | (with_reducible exact wickerlaw01_Awake.mono _)
   | (with_reducible exact LeO.refl _)
   | (with_reducible exact LeO.none _)
   | (with_reducible refine LeO.ite ?_ ?_)
   | (with_reducible refine LeO.bind ?_ (fun _ => ?_))
   | exact gram_Grammar_Size.mono _ _ _ _ _
   | exact wickerlaw01_Awake.mono _
   | exact LeO.none _
   | refine LeO.ite ?_ ?_
   | refine LeO.bind ?_ (fun _ => ?_)
set_option maxHeartbeats 8000000 in
set_option maxRecDepth 100000 in
theorem wickerlaw02_Awake.calls (k : Nat)  (r : Bool) (w : World) (hG : Laid w) (h : wickerlaw02_Awake.f k  = some r) :
  Calls Tryd.prog 19 #[] w fun e w' => e = .returned (.bool r) ∧ Below w.heap.size w w' := by
 have hu25 := Tryd.underlying25
 have HG := Aside0.mk hG
 clear hG
 have HB := Aside0.mk (Below.refl w.heap.size w)
 have H : ((wickerlaw02_Example.f).bind fun bt243 => ((wickerlaw01_Awake.f k).bind fun t254 => (if t254 = true then ((gram_Grammar_Check.f bt243.1 bt243.2.1 bt243.2.2.1 bt243.2.2.2).bind fun t255 => (if t255 = 0 then ((gram_Grammar_Size.f k bt243.1 bt243.2.1 bt243.2.2.1 bt243.2.2.2).bind fun t256 => (if t256 = 4 then ((gram_Grammar_Text.f bt243.1 bt243.2.1 bt243.2.2.1 bt243.2.2.2 (-1)).bind fun t257 => (if t257.toList = ([34, 97, 34] : List UInt8) then ((gram_Grammar_Text.f bt243.1 bt243.2.1 bt243.2.2.1 bt243.2.2.2 0).bind fun t258 => (some (t258.toList == ([60, 83, 62] : List UInt8)))) else (some false))) else (some false))) else (some false))) else (some false)))) = some r := h
 clear h
 replace H := Option.bind_eq_some_iff.mp H
 obtain ⟨⟨t243, t246, t249, t250⟩, A10, H⟩ := H
 replace H : ((wickerlaw01_Awake.f k).bind fun t254 => (if t254 = true then ((gram_Grammar_Check.f t243 t246 t249 t250).bind fun t255 => (if t255 = 0 then ((gram_Grammar_Size.f k t243 t246 t249 t250).bind fun t256 => (if t256 = 4 then ((gram_Grammar_Text.f t243 t246 t249 t250 (-1)).bind fun t257 => (if t257.toList = ([34, 97, 34] : List UInt8) then ((gram_Grammar_Text.f t243 t246 t249 t250 0).bind fun t258 => (some (t258.toList == ([60, 83, 62] : List UInt8)))) else (some false))) else (some false))) else (some false))) else (some false))) = some r := H
 have A1 := Aside0.mk A10
 clear A10
 replace H := Option.bind_eq_some_iff.mp H
 obtain ⟨t254, A20, H⟩ := H
 replace H : (if t254 = true then ((gram_Grammar_Check.f t243 t246 t249 t250).bind fun t255 => (if t255 = 0 then ((gram_Grammar_Size.f k t243 t246 t249 t250).bind fun t256 => (if t256 = 4 then ((gram_Grammar_Text.f t243 t246 t249 t250 (-1)).bind fun t257 => (if t257.toList = ([34, 97, 34] : List UInt8) then ((gram_Grammar_Text.f t243 t246 t249 t250 0).bind fun t258 => (some (t258.toList == ([60, 83, 62] : List UInt8)))) else (some false))) else (some false))) else (some false))) else (some false)) = some r := H
 have A2 := Aside0.mk A20
 clear A20
 by_cases c3 : t254 = true
 ·subst c3
  have H1 : ((gram_Grammar_Check.f t243 t246 t249 t250).bind fun t255 => (if t255 = 0 then ((gram_Grammar_Size.f k t243 t246 t249 t250).bind fun t256 => (if t256 = 4 then ((gram_Grammar_Text.f t243 t246 t249 t250 (-1)).bind fun t257 => (if t257.toList = ([34, 97, 34] : List UInt8) then ((gram_Grammar_Text.f t243 t246 t249 t250 0).bind fun t258 => (some (t258.toList == ([60, 83, 62] : List UInt8)))) else (some false))) else (some false))) else (some false))) = some r := by rw [if_pos rfl] at H; exact H
  clear H
  have H := H1
  clear H1
  replace H := Option.bind_eq_some_iff.mp H
  obtain ⟨t255, A40, H⟩ := H
  replace H : (if t255 = 0 then ((gram_Grammar_Size.f k t243 t246 t249 t250).bind fun t256 => (if t256 = 4 then ((gram_Grammar_Text.f t243 t246 t249 t250 (-1)).bind fun t257 => (if t257.toList = ([34, 97, 34] : List UInt8) then ((gram_Grammar_Text.f t243 t246 t249 t250 0).bind fun t258 => (some (t258.toList == ([60, 83, 62] : List UInt8)))) else (some false))) else (some false))) else (some false)) = some r := H
  have A4 := Aside0.mk A40
  clear A40
  by_cases c5 : t255 = 0
  ·rw [if_pos c5] at H
   have c5b0 : (t255 == 0) = true := beq_iff_eq.mpr c5
   have c5b1 : (t255 != 0) = false := bne_eq_false_iff_eq.mpr c5
   clear c5
   replace H := Option.bind_eq_some_iff.mp H
   obtain ⟨t256, A60, H⟩ := H
   replace H : (if t256 = 4 then ((gram_Grammar_Text.f t243 t246 t249 t250 (-1)).bind fun t257 => (if t257.toList = ([34, 97, 34] : List UInt8) then ((gram_Grammar_Text.f t243 t246 t249 t250 0).bind fun t258 => (some (t258.toList == ([60, 83, 62] : List UInt8)))) else (some false))) else (some false)) = some r := H
   have A6 := Aside0.mk A60
   clear A60
   by_cases c7 : t256 = 4
   ·rw [if_pos c7] at H
    have c7b0 : (t256 == 4) = true := beq_iff_eq.mpr c7
    have c7b1 : (t256 != 4) = false := bne_eq_false_iff_eq.mpr c7
    clear c7
    replace H := Option.bind_eq_some_iff.mp H
    obtain ⟨t257, A80, H⟩ := H
    replace H : (if t257.toList = ([34, 97, 34] : List UInt8) then ((gram_Grammar_Text.f t243 t246 t249 t250 0).bind fun t258 => (some (t258.toList == ([60, 83, 62] : List UInt8)))) else (some false)) = some r := H
    have A8 := Aside0.mk A80
    clear A80
    by_cases c9 : t257.toList = ([34, 97, 34] : List UInt8)
    ·rw [if_pos c9] at H
     have c9b0 : (t257.toList == ([34, 97, 34] : List UInt8)) = true := beq_iff_eq.mpr c9
     have c9b1 : (t257.toList != ([34, 97, 34] : List UInt8)) = false := bne_eq_false_iff_eq.mpr c9
     clear c9
     replace H := Option.bind_eq_some_iff.mp H
     obtain ⟨t258, A100, H⟩ := H
     replace H : (some (t258.toList == ([60, 83, 62] : List UInt8))) = some r := H
     have A10 := Aside0.mk A100
     clear A100
     obtain rfl := Option.some.inj H
     go_enter Tryd.func19, Tryd.ntmps19
     go_wp2_with (first | ((with_reducible refine gate_callee (f := 46) rfl ?_); refine goesL_ (some 2) rfl rfl Tryd.func46 (by kernel_rfl) rfl #[] rfl (by (try simp only [List.map_toArray, List.map_cons, List.map_nil]); first | done | rfl | (simp only [List.length_drop, List.length_take]; rfl)) ?_; (with_reducible refine (wickerlaw02_Example.calls  t243 t246 t249 t250 _ A1.out).mono ?_); rintro e w11 ⟨v244, v247, v251, rfl, ho0, ho1, ho2, hb⟩; refine ⟨_, rfl, ?_⟩; have n0_ := Aside0.mk (Kd.R_lower (Kd.R_mono (ok' := fun k_ => some k_ ≠ (v247 : Value).ownBlock) ho0 (fun _ hk_ => hk_.2)) (below_size (by repeat (first | (with_reducible first | exact HB.out | apply below_alloc | apply pw_below_drewN | apply below_drew1) | exact HB.out)))); have n1_ := Aside0.mk (Kd.R_lower (Kd.R_mono (ok' := fun k_ => some k_ ≠ (v244 : Value).ownBlock) ho1 (fun _ hk_ => hk_.2)) (below_size (by repeat (first | (with_reducible first | exact HB.out | apply below_alloc | apply pw_below_drewN | apply below_drew1) | exact HB.out)))); have n2_ := Aside0.mk (Kd.N_lower (Kd.N_mono (ok' := fun k_ => some k_ ≠ (v244 : Value).ownBlock ∧ some k_ ≠ (v247 : Value).ownBlock) ho2 (fun k_ hk_ => ⟨hk_.2.1, hk_.2.2⟩)) (below_size (by repeat (first | (with_reducible first | exact HB.out | apply below_alloc | apply pw_below_drewN | apply below_drew1) | exact HB.out)))); have n3_ := Aside0.mk (below_step (by repeat (first | (with_reducible first | exact HB.out | apply below_alloc | apply pw_below_drewN | apply below_drew1) | exact HB.out)) hb); clear HB; have HO245 := n0_; have HO248 := n1_; have HO252 := n2_; have HB := n3_; clear n0_ n1_ n2_ n3_; (try clear hb); (try clear hb2); (try clear hk); (try clear hi); (try clear ho0); (try clear ho1); (try clear ho2)) | ((with_reducible refine gate_dst (N := 1) rfl ?_); refine box_event ?hg (N := 1) ?hd (cs := #[.slice none 0 0, .slice none 0 0, .int .i64 0, .slice none 0 0]) (t := 25) ?hr ?_; (case hd => rfl); (case hg => rfl); (case hr => first | (go_simp; done) | (go_simp; rfl)); intro gb253 hg w12 hbox hb; have n0_ := Aside0.mk (Kd.R_below (by (with_reducible repeat (first | apply Kd.R_alloc | apply Kd.R_drewN | apply Kd.R_drew)); exact HO245.out) hb); have n1_ := Aside0.mk (Kd.R_below (by (with_reducible repeat (first | apply Kd.R_alloc | apply Kd.R_drewN | apply Kd.R_drew)); exact HO248.out) hb); have n2_ := Aside0.mk (Kd.N_below (Kd.N_elderB (by (with_reducible repeat (first | apply Kd.N_alloc | apply Kd.N_drewN | apply Kd.N_drew)); exact HO252.out) gb253 (Nat.le_of_eq hg.symm)) hb); have n3_ := Aside0.mk (below_step (by repeat (first | (with_reducible first | exact HB.out | apply below_alloc | apply pw_below_drewN | apply below_drew1) | exact HB.out)) hb); have n4_ := Aside0.mk (hbox); have n5_ := Aside0.mk ((by rw [hg]; exact (below_size (by repeat (first | (with_reducible first | exact HB.out | apply below_alloc | apply pw_below_drewN | apply below_drew1) | exact HB.out))) : w.heap.size ≤ gb253)); have n6_ := Aside0.mk ((by rw [hg]; exact (below_size (by repeat (first | (with_reducible first | exact HB.out | apply below_alloc | apply pw_below_drewN | apply below_drew1) | exact HB.out))) : w.heap.size ≤ gb253)); clear HO245; clear HO248; clear HO252; clear HB; have HO245 := n0_; have HO248 := n1_; have HO252 := n2_; have HB := n3_; have BK253 := n4_; have GW253 := n5_; have GE253 := n6_; clear n0_ n1_ n2_ n3_ n4_ n5_ n6_; clear hb hbox hg; obtain ⟨Ao13, co13, eo13⟩ := Kd.R_slice HO245.out; subst eo13; have hcz14_0 : w12.cell? ⟨gb253, 0, none⟩ = some (.slice none 0 0) := (blk_cell BK253.out 0).trans rfl; have hcz14_1 : w12.cell? ⟨gb253, 1, none⟩ = some (.slice none 0 0) := (blk_cell BK253.out 1).trans rfl; have hcz14_2 : w12.cell? ⟨gb253, 2, none⟩ = some (.int .i64 0) := (blk_cell BK253.out 2).trans rfl; have hcz14_3 : w12.cell? ⟨gb253, 3, none⟩ = some (.slice none 0 0) := (blk_cell BK253.out 3).trans rfl; have hfz14_0 := blk_frozen BK253.out 0; have hfz14_1 := blk_frozen BK253.out 1; have hfz14_2 := blk_frozen BK253.out 2; have hfz14_3 := blk_frozen BK253.out 3; obtain ⟨Ao15, co15, eo15⟩ := Kd.R_slice HO248.out; subst eo15; obtain ⟨Ao16, co16, eo16⟩ := Kd.N_slice HO252.out; subst eo16) | ((with_reducible refine gate_callee (f := 47) rfl ?_); refine goesL_ (some 3) rfl rfl Tryd.func47 (by kernel_rfl) rfl #[] rfl (by (try simp only [List.map_toArray, List.map_cons, List.map_nil]); first | done | rfl | (simp only [List.length_drop, List.length_take]; rfl)) ?_; (with_reducible refine (wickerlaw01_Awake.calls k  true _ ?side1 A2.out).mono ?_); (case side1 => exact Laid.below HG.out (by repeat (first | (with_reducible first | exact HB.out | apply below_alloc | apply pw_below_drewN | apply below_drew1 | refine below_set ?_ GE253.out) | exact HB.out))); rintro e w17 ⟨rfl, hb⟩; refine ⟨_, rfl, ?_⟩; have n0_ := Aside0.mk (Kd.R_below (by (with_reducible repeat (first | apply Kd.R_alloc | apply Kd.R_drewN | apply Kd.R_drew)); exact (Kd.R_mono (Kd.R_far (p := ⟨gb253, 3, none⟩) (Kd.R_far (p := ⟨gb253, 2, none⟩) (Kd.R_far (p := ⟨gb253, 1, none⟩) (Kd.R_far (p := ⟨gb253, 0, none⟩) (Kd.R_types HO245.out BK253.out (by decide)) (fun _ hk => hk.2) (.slice Ao13 t243.length co13)) (fun _ hk => hk.2) (.slice Ao15 t246.length co15)) (fun _ hk => hk.2) (.int .i64 t249)) (fun _ hk => hk.2) (.slice Ao16 t250.length co16)) (fun _ h_ => h_.1))) hb); have n1_ := Aside0.mk (Kd.R_below (by (with_reducible repeat (first | apply Kd.R_alloc | apply Kd.R_drewN | apply Kd.R_drew)); exact (Kd.R_mono (Kd.R_far (p := ⟨gb253, 3, none⟩) (Kd.R_far (p := ⟨gb253, 2, none⟩) (Kd.R_far (p := ⟨gb253, 1, none⟩) (Kd.R_far (p := ⟨gb253, 0, none⟩) (Kd.R_types HO248.out BK253.out (by decide)) (fun _ hk => hk.2) (.slice Ao13 t243.length co13)) (fun _ hk => hk.2) (.slice Ao15 t246.length co15)) (fun _ hk => hk.2) (.int .i64 t249)) (fun _ hk => hk.2) (.slice Ao16 t250.length co16)) (fun _ h_ => h_.1))) hb); have n2_ := Aside0.mk (Kd.N_below (by (with_reducible repeat (first | apply Kd.N_alloc | apply Kd.N_drewN | apply Kd.N_drew)); exact (Kd.N_mono (Kd.N_far (p := ⟨gb253, 3, none⟩) (Kd.N_far (p := ⟨gb253, 2, none⟩) (Kd.N_far (p := ⟨gb253, 1, none⟩) (Kd.N_far (p := ⟨gb253, 0, none⟩) (Kd.N_mono HO252.out (fun k_ hk => (⟨hk, hk.2⟩ : _ ∧ k_ ≠ gb253))) (fun _ hk => hk.2) (.slice Ao13 t243.length co13)) (fun _ hk => hk.2) (.slice Ao15 t246.length co15)) (fun _ hk => hk.2) (.int .i64 t249)) (fun _ hk => hk.2) (.slice Ao16 t250.length co16)) (fun _ h_ => h_.1))) hb); have n3_ := Aside0.mk (blk_below (g := gb253) (o := .cells #[.slice Ao13 t243.length co13, .slice Ao15 t246.length co15, .int .i64 t249, .slice Ao16 t250.length co16] 25 (0, 0)) (by (with_reducible repeat (first | refine blk_drewN ?_ _ | refine blk_drew ?_ | refine blk_alloc ?_ _)); refine blk_put (cs := #[.slice Ao13 t243.length co13, .slice Ao15 t246.length co15, .int .i64 t249, .slice none 0 0]) ?_ 3 _ rfl; (with_reducible repeat (first | refine blk_drewN ?_ _ | refine blk_drew ?_ | refine blk_alloc ?_ _)); refine blk_put (cs := #[.slice Ao13 t243.length co13, .slice Ao15 t246.length co15, .int .i64 0, .slice none 0 0]) ?_ 2 _ rfl; (with_reducible repeat (first | refine blk_drewN ?_ _ | refine blk_drew ?_ | refine blk_alloc ?_ _)); refine blk_put (cs := #[.slice Ao13 t243.length co13, .slice none 0 0, .int .i64 0, .slice none 0 0]) ?_ 1 _ rfl; (with_reducible repeat (first | refine blk_drewN ?_ _ | refine blk_drew ?_ | refine blk_alloc ?_ _)); refine blk_put (cs := #[.slice none 0 0, .slice none 0 0, .int .i64 0, .slice none 0 0]) ?_ 0 _ rfl; (with_reducible repeat (first | refine blk_drewN ?_ _ | refine blk_drew ?_ | refine blk_alloc ?_ _)); exact BK253.out) hb); have n4_ := Aside0.mk (below_step (by repeat (first | (with_reducible first | exact HB.out | apply below_alloc | apply pw_below_drewN | apply below_drew1 | refine below_set ?_ GE253.out) | exact HB.out)) hb); clear HO245; clear HO248; clear HO252; clear BK253; clear HB; have HO245 := n0_; have HO248 := n1_; have HO252 := n2_; have BK253 := n3_; have HB := n4_; clear n0_ n1_ n2_ n3_ n4_; (try clear hb); (try clear hb2); (try clear hk); (try clear hi); have hcz18_0 : w17.cell? ⟨gb253, 0, none⟩ = some (.slice Ao13 t243.length co13) := (blk_cell BK253.out 0).trans rfl; have hcz18_1 : w17.cell? ⟨gb253, 1, none⟩ = some (.slice Ao15 t246.length co15) := (blk_cell BK253.out 1).trans rfl; have hcz18_2 : w17.cell? ⟨gb253, 2, none⟩ = some (.int .i64 t249) := (blk_cell BK253.out 2).trans rfl; have hcz18_3 : w17.cell? ⟨gb253, 3, none⟩ = some (.slice Ao16 t250.length co16) := (blk_cell BK253.out 3).trans rfl; have hfz18_0 := blk_frozen BK253.out 0; have hfz18_1 := blk_frozen BK253.out 1; have hfz18_2 := blk_frozen BK253.out 2; have hfz18_3 := blk_frozen BK253.out 3) | (go_at_call 48; (with_reducible refine (gram_Grammar_Check.calls _ _ t243 _ _ t246 t249 _ _ t250 t255 _ ?side1 ?side2 ?side3 ?side4 ?side5 ?side6 ?side7 A4.out).mono ?_); (case side1 => exact Laid.below HG.out (by repeat (first | (with_reducible first | exact HB.out | apply below_alloc | apply pw_below_drewN | apply below_drew1 | refine below_set ?_ GE253.out) | exact HB.out))); (case side2 => repeat (first | exact (Kd.R_reads' HO245.out).2.2 | (with_reducible refine Kd.C_alloc ?_ _) | (with_reducible refine Kd.C_drewN ?_ _) | (with_reducible refine Kd.C_drew ?_))); (case side3 => exact (Kd.R_reads' HO245.out).2.1); (case side4 => repeat (first | exact (Kd.R_reads' HO248.out).2.2 | (with_reducible refine Kd.C_alloc ?_ _) | (with_reducible refine Kd.C_drewN ?_ _) | (with_reducible refine Kd.C_drew ?_))); (case side5 => exact (Kd.R_reads' HO248.out).2.1); (case side6 => repeat (first | exact (Kd.N_reads' HO252.out).2.2 | (with_reducible refine Kd.C_alloc ?_ _) | (with_reducible refine Kd.C_drewN ?_ _) | (with_reducible refine Kd.C_drew ?_))); (case side7 => exact (Kd.N_reads' HO252.out).2.1); rintro e w19 ⟨rfl, hb⟩; have n0_ := Aside0.mk (Kd.R_below (by (with_reducible repeat (first | apply Kd.R_alloc | apply Kd.R_drewN | apply Kd.R_drew)); exact HO245.out) hb); have n1_ := Aside0.mk (Kd.R_below (by (with_reducible repeat (first | apply Kd.R_alloc | apply Kd.R_drewN | apply Kd.R_drew)); exact HO248.out) hb); have n2_ := Aside0.mk (Kd.N_below (by (with_reducible repeat (first | apply Kd.N_alloc | apply Kd.N_drewN | apply Kd.N_drew)); exact HO252.out) hb); have n3_ := Aside0.mk (blk_below (g := gb253) (o := .cells #[.slice Ao13 t243.length co13, .slice Ao15 t246.length co15, .int .i64 t249, .slice Ao16 t250.length co16] 25 (0, 0)) (by (with_reducible repeat (first | refine blk_drewN ?_ _ | refine blk_drew ?_ | refine blk_alloc ?_ _)); exact BK253.out) hb); have n4_ := Aside0.mk (below_step (by repeat (first | (with_reducible first | exact HB.out | apply below_alloc | apply pw_below_drewN | apply below_drew1 | refine below_set ?_ GE253.out) | exact HB.out)) hb); clear HO245; clear HO248; clear HO252; clear BK253; clear HB; have HO245 := n0_; have HO248 := n1_; have HO252 := n2_; have BK253 := n3_; have HB := n4_; clear n0_ n1_ n2_ n3_ n4_; (try clear hb); (try clear hb2); (try clear hk); (try clear hi); have hcz20_0 : w19.cell? ⟨gb253, 0, none⟩ = some (.slice Ao13 t243.length co13) := (blk_cell BK253.out 0).trans rfl; have hcz20_1 : w19.cell? ⟨gb253, 1, none⟩ = some (.slice Ao15 t246.length co15) := (blk_cell BK253.out 1).trans rfl; have hcz20_2 : w19.cell? ⟨gb253, 2, none⟩ = some (.int .i64 t249) := (blk_cell BK253.out 2).trans rfl; have hcz20_3 : w19.cell? ⟨gb253, 3, none⟩ = some (.slice Ao16 t250.length co16) := (blk_cell BK253.out 3).trans rfl; have hfz20_0 := blk_frozen BK253.out 0; have hfz20_1 := blk_frozen BK253.out 1; have hfz20_2 := blk_frozen BK253.out 2; have hfz20_3 := blk_frozen BK253.out 3) | (go_at_call 49; (with_reducible refine (gram_Grammar_Size.calls k _ _ t243 _ _ t246 t249 _ _ t250 t256 _ ?side1 ?side2 ?side3 ?side4 ?side5 ?side6 A6.out).mono ?_); (case side1 => repeat (first | exact (Kd.R_reads' HO245.out).2.2 | (with_reducible refine Kd.C_alloc ?_ _) | (with_reducible refine Kd.C_drewN ?_ _) | (with_reducible refine Kd.C_drew ?_))); (case side2 => exact (Kd.R_reads' HO245.out).2.1); (case side3 => repeat (first | exact (Kd.R_reads' HO248.out).2.2 | (with_reducible refine Kd.C_alloc ?_ _) | (with_reducible refine Kd.C_drewN ?_ _) | (with_reducible refine Kd.C_drew ?_))); (case side4 => exact (Kd.R_reads' HO248.out).2.1); (case side5 => repeat (first | exact (Kd.N_reads' HO252.out).2.2 | (with_reducible refine Kd.C_alloc ?_ _) | (with_reducible refine Kd.C_drewN ?_ _) | (with_reducible refine Kd.C_drew ?_))); (case side6 => exact (Kd.N_reads' HO252.out).2.1); rintro e w21 ⟨rfl, hb⟩; have n0_ := Aside0.mk (Kd.R_below (by (with_reducible repeat (first | apply Kd.R_alloc | apply Kd.R_drewN | apply Kd.R_drew)); exact HO245.out) hb); have n1_ := Aside0.mk (Kd.R_below (by (with_reducible repeat (first | apply Kd.R_alloc | apply Kd.R_drewN | apply Kd.R_drew)); exact HO248.out) hb); have n2_ := Aside0.mk (Kd.N_below (by (with_reducible repeat (first | apply Kd.N_alloc | apply Kd.N_drewN | apply Kd.N_drew)); exact HO252.out) hb); have n3_ := Aside0.mk (blk_below (g := gb253) (o := .cells #[.slice Ao13 t243.length co13, .slice Ao15 t246.length co15, .int .i64 t249, .slice Ao16 t250.length co16] 25 (0, 0)) (by (with_reducible repeat (first | refine blk_drewN ?_ _ | refine blk_drew ?_ | refine blk_alloc ?_ _)); exact BK253.out) hb); have n4_ := Aside0.mk (below_step (by repeat (first | (with_reducible first | exact HB.out | apply below_alloc | apply pw_below_drewN | apply below_drew1 | refine below_set ?_ GE253.out) | exact HB.out)) hb); clear HO245; clear HO248; clear HO252; clear BK253; clear HB; have HO245 := n0_; have HO248 := n1_; have HO252 := n2_; have BK253 := n3_; have HB := n4_; clear n0_ n1_ n2_ n3_ n4_; (try clear hb); (try clear hb2); (try clear hk); (try clear hi); have hcz22_0 : w21.cell? ⟨gb253, 0, none⟩ = some (.slice Ao13 t243.length co13) := (blk_cell BK253.out 0).trans rfl; have hcz22_1 : w21.cell? ⟨gb253, 1, none⟩ = some (.slice Ao15 t246.length co15) := (blk_cell BK253.out 1).trans rfl; have hcz22_2 : w21.cell? ⟨gb253, 2, none⟩ = some (.int .i64 t249) := (blk_cell BK253.out 2).trans rfl; have hcz22_3 : w21.cell? ⟨gb253, 3, none⟩ = some (.slice Ao16 t250.length co16) := (blk_cell BK253.out 3).trans rfl; have hfz22_0 := blk_frozen BK253.out 0; have hfz22_1 := blk_frozen BK253.out 1; have hfz22_2 := blk_frozen BK253.out 2; have hfz22_3 := blk_frozen BK253.out 3) | (go_at_call 50; (with_reducible refine (gram_Grammar_Text.calls _ _ t243 _ _ t246 t249 _ _ t250 (-1) t257 _ ?side1 ?side2 ?side3 ?side4 ?side5 ?side6 A8.out).mono ?_); (case side1 => repeat (first | exact (Kd.R_reads' HO245.out).2.2 | (with_reducible refine Kd.C_alloc ?_ _) | (with_reducible refine Kd.C_drewN ?_ _) | (with_reducible refine Kd.C_drew ?_))); (case side2 => exact (Kd.R_reads' HO245.out).2.1); (case side3 => repeat (first | exact (Kd.R_reads' HO248.out).2.2 | (with_reducible refine Kd.C_alloc ?_ _) | (with_reducible refine Kd.C_drewN ?_ _) | (with_reducible refine Kd.C_drew ?_))); (case side4 => exact (Kd.R_reads' HO248.out).2.1); (case side5 => repeat (first | exact (Kd.N_reads' HO252.out).2.2 | (with_reducible refine Kd.C_alloc ?_ _) | (with_reducible refine Kd.C_drewN ?_ _) | (with_reducible refine Kd.C_drew ?_))); (case side6 => exact (Kd.N_reads' HO252.out).2.1); rintro e w23 ⟨rfl, hb⟩; have n0_ := Aside0.mk (Kd.R_below (by (with_reducible repeat (first | apply Kd.R_alloc | apply Kd.R_drewN | apply Kd.R_drew)); exact HO245.out) hb); have n1_ := Aside0.mk (Kd.R_below (by (with_reducible repeat (first | apply Kd.R_alloc | apply Kd.R_drewN | apply Kd.R_drew)); exact HO248.out) hb); have n2_ := Aside0.mk (Kd.N_below (by (with_reducible repeat (first | apply Kd.N_alloc | apply Kd.N_drewN | apply Kd.N_drew)); exact HO252.out) hb); have n3_ := Aside0.mk (blk_below (g := gb253) (o := .cells #[.slice Ao13 t243.length co13, .slice Ao15 t246.length co15, .int .i64 t249, .slice Ao16 t250.length co16] 25 (0, 0)) (by (with_reducible repeat (first | refine blk_drewN ?_ _ | refine blk_drew ?_ | refine blk_alloc ?_ _)); exact BK253.out) hb); have n4_ := Aside0.mk (below_step (by repeat (first | (with_reducible first | exact HB.out | apply below_alloc | apply pw_below_drewN | apply below_drew1 | refine below_set ?_ GE253.out) | exact HB.out)) hb); clear HO245; clear HO248; clear HO252; clear BK253; clear HB; have HO245 := n0_; have HO248 := n1_; have HO252 := n2_; have BK253 := n3_; have HB := n4_; clear n0_ n1_ n2_ n3_ n4_; (try clear hb); (try clear hb2); (try clear hk); (try clear hi); have hcz24_0 : w23.cell? ⟨gb253, 0, none⟩ = some (.slice Ao13 t243.length co13) := (blk_cell BK253.out 0).trans rfl; have hcz24_1 : w23.cell? ⟨gb253, 1, none⟩ = some (.slice Ao15 t246.length co15) := (blk_cell BK253.out 1).trans rfl; have hcz24_2 : w23.cell? ⟨gb253, 2, none⟩ = some (.int .i64 t249) := (blk_cell BK253.out 2).trans rfl; have hcz24_3 : w23.cell? ⟨gb253, 3, none⟩ = some (.slice Ao16 t250.length co16) := (blk_cell BK253.out 3).trans rfl; have hfz24_0 := blk_frozen BK253.out 0; have hfz24_1 := blk_frozen BK253.out 1; have hfz24_2 := blk_frozen BK253.out 2; have hfz24_3 := blk_frozen BK253.out 3) | (go_at_call 50; (with_reducible refine (gram_Grammar_Text.calls _ _ t243 _ _ t246 t249 _ _ t250 0 t258 _ ?side1 ?side2 ?side3 ?side4 ?side5 ?side6 A10.out).mono ?_); (case side1 => repeat (first | exact (Kd.R_reads' HO245.out).2.2 | (with_reducible refine Kd.C_alloc ?_ _) | (with_reducible refine Kd.C_drewN ?_ _) | (with_reducible refine Kd.C_drew ?_))); (case side2 => exact (Kd.R_reads' HO245.out).2.1); (case side3 => repeat (first | exact (Kd.R_reads' HO248.out).2.2 | (with_reducible refine Kd.C_alloc ?_ _) | (with_reducible refine Kd.C_drewN ?_ _) | (with_reducible refine Kd.C_drew ?_))); (case side4 => exact (Kd.R_reads' HO248.out).2.1); (case side5 => repeat (first | exact (Kd.N_reads' HO252.out).2.2 | (with_reducible refine Kd.C_alloc ?_ _) | (with_reducible refine Kd.C_drewN ?_ _) | (with_reducible refine Kd.C_drew ?_))); (case side6 => exact (Kd.N_reads' HO252.out).2.1); rintro e w25 ⟨rfl, hb⟩; have n0_ := Aside0.mk (Kd.R_below (by (with_reducible repeat (first | apply Kd.R_alloc | apply Kd.R_drewN | apply Kd.R_drew)); exact HO245.out) hb); have n1_ := Aside0.mk (Kd.R_below (by (with_reducible repeat (first | apply Kd.R_alloc | apply Kd.R_drewN | apply Kd.R_drew)); exact HO248.out) hb); have n2_ := Aside0.mk (Kd.N_below (by (with_reducible repeat (first | apply Kd.N_alloc | apply Kd.N_drewN | apply Kd.N_drew)); exact HO252.out) hb); have n3_ := Aside0.mk (blk_below (g := gb253) (o := .cells #[.slice Ao13 t243.length co13, .slice Ao15 t246.length co15, .int .i64 t249, .slice Ao16 t250.length co16] 25 (0, 0)) (by (with_reducible repeat (first | refine blk_drewN ?_ _ | refine blk_drew ?_ | refine blk_alloc ?_ _)); exact BK253.out) hb); have n4_ := Aside0.mk (below_step (by repeat (first | (with_reducible first | exact HB.out | apply below_alloc | apply pw_below_drewN | apply below_drew1 | refine below_set ?_ GE253.out) | exact HB.out)) hb); clear HO245; clear HO248; clear HO252; clear BK253; clear HB; have HO245 := n0_; have HO248 := n1_; have HO252 := n2_; have BK253 := n3_; have HB := n4_; clear n0_ n1_ n2_ n3_ n4_; (try clear hb); (try clear hb2); (try clear hk); (try clear hi)))
     go_ret
     exact ⟨by first | rfl | (simp [errW_none, errW_some] <;> rfl) | (simp [*, errW_none, errW_some] <;> rfl), by repeat (first | (with_reducible first | exact HB.out | apply below_alloc | apply pw_below_drewN | apply below_drew1 | refine below_set ?_ GE253.out) | exact HB.out)⟩
    ·rw [if_neg c9] at H
     have c9b0 : (t257.toList == ([34, 97, 34] : List UInt8)) = false := beq_eq_false_iff_ne.mpr c9
     have c9b1 : (t257.toList != ([34, 97, 34] : List UInt8)) = true := bne_iff_ne.mpr c9
     obtain rfl := Option.some.inj H
     go_enter Tryd.func19, Tryd.ntmps19
     go_wp2_with (first | ((with_reducible refine gate_callee (f := 46) rfl ?_); refine goesL_ (some 2) rfl rfl Tryd.func46 (by kernel_rfl) rfl #[] rfl (by (try simp only [List.map_toArray, List.map_cons, List.map_nil]); first | done | rfl | (simp only [List.length_drop, List.length_take]; rfl)) ?_; (with_reducible refine (wickerlaw02_Example.calls  t243 t246 t249 t250 _ A1.out).mono ?_); rintro e w26 ⟨v244, v247, v251, rfl, ho0, ho1, ho2, hb⟩; refine ⟨_, rfl, ?_⟩; have n0_ := Aside0.mk (Kd.R_lower (Kd.R_mono (ok' := fun k_ => some k_ ≠ (v247 : Value).ownBlock) ho0 (fun _ hk_ => hk_.2)) (below_size (by repeat (first | (with_reducible first | exact HB.out | apply below_alloc | apply pw_below_drewN | apply below_drew1) | exact HB.out)))); have n1_ := Aside0.mk (Kd.R_lower (Kd.R_mono (ok' := fun k_ => some k_ ≠ (v244 : Value).ownBlock) ho1 (fun _ hk_ => hk_.2)) (below_size (by repeat (first | (with_reducible first | exact HB.out | apply below_alloc | apply pw_below_drewN | apply below_drew1) | exact HB.out)))); have n2_ := Aside0.mk (Kd.N_lower (Kd.N_mono (ok' := fun k_ => some k_ ≠ (v244 : Value).ownBlock ∧ some k_ ≠ (v247 : Value).ownBlock) ho2 (fun k_ hk_ => ⟨hk_.2.1, hk_.2.2⟩)) (below_size (by repeat (first | (with_reducible first | exact HB.out | apply below_alloc | apply pw_below_drewN | apply below_drew1) | exact HB.out)))); have n3_ := Aside0.mk (below_step (by repeat (first | (with_reducible first | exact HB.out | apply below_alloc | apply pw_below_drewN | apply below_drew1) | exact HB.out)) hb); clear HB; have HO245 := n0_; have HO248 := n1_; have HO252 := n2_; have HB := n3_; clear n0_ n1_ n2_ n3_; (try clear hb); (try clear hb2); (try clear hk); (try clear hi); (try clear ho0); (try clear ho1); (try clear ho2)) | ((with_reducible refine gate_dst (N := 1) rfl ?_); refine box_event ?hg (N := 1) ?hd (cs := #[.slice none 0 0, .slice none 0 0, .int .i64 0, .slice none 0 0]) (t := 25) ?hr ?_; (case hd => rfl); (case hg => rfl); (case hr => first | (go_simp; done) | (go_simp; rfl)); intro gb253 hg w27 hbox hb; have n0_ := Aside0.mk (Kd.R_below (by (with_reducible repeat (first | apply Kd.R_alloc | apply Kd.R_drewN | apply Kd.R_drew)); exact HO245.out) hb); have n1_ := Aside0.mk (Kd.R_below (by (with_reducible repeat (first | apply Kd.R_alloc | apply Kd.R_drewN | apply Kd.R_drew)); exact HO248.out) hb); have n2_ := Aside0.mk (Kd.N_below (Kd.N_elderB (by (with_reducible repeat (first | apply Kd.N_alloc | apply Kd.N_drewN | apply Kd.N_drew)); exact HO252.out) gb253 (Nat.le_of_eq hg.symm)) hb); have n3_ := Aside0.mk (below_step (by repeat (first | (with_reducible first | exact HB.out | apply below_alloc | apply pw_below_drewN | apply below_drew1) | exact HB.out)) hb); have n4_ := Aside0.mk (hbox); have n5_ := Aside0.mk ((by rw [hg]; exact (below_size (by repeat (first | (with_reducible first | exact HB.out | apply below_alloc | apply pw_below_drewN | apply below_drew1) | exact HB.out))) : w.heap.size ≤ gb253)); have n6_ := Aside0.mk ((by rw [hg]; exact (below_size (by repeat (first | (with_reducible first | exact HB.out | apply below_alloc | apply pw_below_drewN | apply below_drew1) | exact HB.out))) : w.heap.size ≤ gb253)); clear HO245; clear HO248; clear HO252; clear HB; have HO245 := n0_; have HO248 := n1_; have HO252 := n2_; have HB := n3_; have BK253 := n4_; have GW253 := n5_; have GE253 := n6_; clear n0_ n1_ n2_ n3_ n4_ n5_ n6_; clear hb hbox hg; obtain ⟨Ao28, co28, eo28⟩ := Kd.R_slice HO245.out; subst eo28; have hcz29_0 : w27.cell? ⟨gb253, 0, none⟩ = some (.slice none 0 0) := (blk_cell BK253.out 0).trans rfl; have hcz29_1 : w27.cell? ⟨gb253, 1, none⟩ = some (.slice none 0 0) := (blk_cell BK253.out 1).trans rfl; have hcz29_2 : w27.cell? ⟨gb253, 2, none⟩ = some (.int .i64 0) := (blk_cell BK253.out 2).trans rfl; have hcz29_3 : w27.cell? ⟨gb253, 3, none⟩ = some (.slice none 0 0) := (blk_cell BK253.out 3).trans rfl; have hfz29_0 := blk_frozen BK253.out 0; have hfz29_1 := blk_frozen BK253.out 1; have hfz29_2 := blk_frozen BK253.out 2; have hfz29_3 := blk_frozen BK253.out 3; obtain ⟨Ao30, co30, eo30⟩ := Kd.R_slice HO248.out; subst eo30; obtain ⟨Ao31, co31, eo31⟩ := Kd.N_slice HO252.out; subst eo31) | ((with_reducible refine gate_callee (f := 47) rfl ?_); refine goesL_ (some 3) rfl rfl Tryd.func47 (by kernel_rfl) rfl #[] rfl (by (try simp only [List.map_toArray, List.map_cons, List.map_nil]); first | done | rfl | (simp only [List.length_drop, List.length_take]; rfl)) ?_; (with_reducible refine (wickerlaw01_Awake.calls k  true _ ?side1 A2.out).mono ?_); (case side1 => exact Laid.below HG.out (by repeat (first | (with_reducible first | exact HB.out | apply below_alloc | apply pw_below_drewN | apply below_drew1 | refine below_set ?_ GE253.out) | exact HB.out))); rintro e w32 ⟨rfl, hb⟩; refine ⟨_, rfl, ?_⟩; have n0_ := Aside0.mk (Kd.R_below (by (with_reducible repeat (first | apply Kd.R_alloc | apply Kd.R_drewN | apply Kd.R_drew)); exact (Kd.R_mono (Kd.R_far (p := ⟨gb253, 3, none⟩) (Kd.R_far (p := ⟨gb253, 2, none⟩) (Kd.R_far (p := ⟨gb253, 1, none⟩) (Kd.R_far (p := ⟨gb253, 0, none⟩) (Kd.R_types HO245.out BK253.out (by decide)) (fun _ hk => hk.2) (.slice Ao28 t243.length co28)) (fun _ hk => hk.2) (.slice Ao30 t246.length co30)) (fun _ hk => hk.2) (.int .i64 t249)) (fun _ hk => hk.2) (.slice Ao31 t250.length co31)) (fun _ h_ => h_.1))) hb); have n1_ := Aside0.mk (Kd.R_below (by (with_reducible repeat (first | apply Kd.R_alloc | apply Kd.R_drewN | apply Kd.R_drew)); exact (Kd.R_mono (Kd.R_far (p := ⟨gb253, 3, none⟩) (Kd.R_far (p := ⟨gb253, 2, none⟩) (Kd.R_far (p := ⟨gb253, 1, none⟩) (Kd.R_far (p := ⟨gb253, 0, none⟩) (Kd.R_types HO248.out BK253.out (by decide)) (fun _ hk => hk.2) (.slice Ao28 t243.length co28)) (fun _ hk => hk.2) (.slice Ao30 t246.length co30)) (fun _ hk => hk.2) (.int .i64 t249)) (fun _ hk => hk.2) (.slice Ao31 t250.length co31)) (fun _ h_ => h_.1))) hb); have n2_ := Aside0.mk (Kd.N_below (by (with_reducible repeat (first | apply Kd.N_alloc | apply Kd.N_drewN | apply Kd.N_drew)); exact (Kd.N_mono (Kd.N_far (p := ⟨gb253, 3, none⟩) (Kd.N_far (p := ⟨gb253, 2, none⟩) (Kd.N_far (p := ⟨gb253, 1, none⟩) (Kd.N_far (p := ⟨gb253, 0, none⟩) (Kd.N_mono HO252.out (fun k_ hk => (⟨hk, hk.2⟩ : _ ∧ k_ ≠ gb253))) (fun _ hk => hk.2) (.slice Ao28 t243.length co28)) (fun _ hk => hk.2) (.slice Ao30 t246.length co30)) (fun _ hk => hk.2) (.int .i64 t249)) (fun _ hk => hk.2) (.slice Ao31 t250.length co31)) (fun _ h_ => h_.1))) hb); have n3_ := Aside0.mk (blk_below (g := gb253) (o := .cells #[.slice Ao28 t243.length co28, .slice Ao30 t246.length co30, .int .i64 t249, .slice Ao31 t250.length co31] 25 (0, 0)) (by (with_reducible repeat (first | refine blk_drewN ?_ _ | refine blk_drew ?_ | refine blk_alloc ?_ _)); refine blk_put (cs := #[.slice Ao28 t243.length co28, .slice Ao30 t246.length co30, .int .i64 t249, .slice none 0 0]) ?_ 3 _ rfl; (with_reducible repeat (first | refine blk_drewN ?_ _ | refine blk_drew ?_ | refine blk_alloc ?_ _)); refine blk_put (cs := #[.slice Ao28 t243.length co28, .slice Ao30 t246.length co30, .int .i64 0, .slice none 0 0]) ?_ 2 _ rfl; (with_reducible repeat (first | refine blk_drewN ?_ _ | refine blk_drew ?_ | refine blk_alloc ?_ _)); refine blk_put (cs := #[.slice Ao28 t243.length co28, .slice none 0 0, .int .i64 0, .slice none 0 0]) ?_ 1 _ rfl; (with_reducible repeat (first | refine blk_drewN ?_ _ | refine blk_drew ?_ | refine blk_alloc ?_ _)); refine blk_put (cs := #[.slice none 0 0, .slice none 0 0, .int .i64 0, .slice none 0 0]) ?_ 0 _ rfl; (with_reducible repeat (first | refine blk_drewN ?_ _ | refine blk_drew ?_ | refine blk_alloc ?_ _)); exact BK253.out) hb); have n4_ := Aside0.mk (below_step (by repeat (first | (with_reducible first | exact HB.out | apply below_alloc | apply pw_below_drewN | apply below_drew1 | refine below_set ?_ GE253.out) | exact HB.out)) hb); clear HO245; clear HO248; clear HO252; clear BK253; clear HB; have HO245 := n0_; have HO248 := n1_; have HO252 := n2_; have BK253 := n3_; have HB := n4_; clear n0_ n1_ n2_ n3_ n4_; (try clear hb); (try clear hb2); (try clear hk); (try clear hi); have hcz33_0 : w32.cell? ⟨gb253, 0, none⟩ = some (.slice Ao28 t243.length co28) := (blk_cell BK253.out 0).trans rfl; have hcz33_1 : w32.cell? ⟨gb253, 1, none⟩ = some (.slice Ao30 t246.length co30) := (blk_cell BK253.out 1).trans rfl; have hcz33_2 : w32.cell? ⟨gb253, 2, none⟩ = some (.int .i64 t249) := (blk_cell BK253.out 2).trans rfl; have hcz33_3 : w32.cell? ⟨gb253, 3, none⟩ = some (.slice Ao31 t250.length co31) := (blk_cell BK253.out 3).trans rfl; have hfz33_0 := blk_frozen BK253.out 0; have hfz33_1 := blk_frozen BK253.out 1; have hfz33_2 := blk_frozen BK253.out 2; have hfz33_3 := blk_frozen BK253.out 3) | (go_at_call 48; (with_reducible refine (gram_Grammar_Check.calls _ _ t243 _ _ t246 t249 _ _ t250 t255 _ ?side1 ?side2 ?side3 ?side4 ?side5 ?side6 ?side7 A4.out).mono ?_); (case side1 => exact Laid.below HG.out (by repeat (first | (with_reducible first | exact HB.out | apply below_alloc | apply pw_below_drewN | apply below_drew1 | refine below_set ?_ GE253.out) | exact HB.out))); (case side2 => repeat (first | exact (Kd.R_reads' HO245.out).2.2 | (with_reducible refine Kd.C_alloc ?_ _) | (with_reducible refine Kd.C_drewN ?_ _) | (with_reducible refine Kd.C_drew ?_))); (case side3 => exact (Kd.R_reads' HO245.out).2.1); (case side4 => repeat (first | exact (Kd.R_reads' HO248.out).2.2 | (with_reducible refine Kd.C_alloc ?_ _) | (with_reducible refine Kd.C_drewN ?_ _) | (with_reducible refine Kd.C_drew ?_))); (case side5 => exact (Kd.R_reads' HO248.out).2.1); (case side6 => repeat (first | exact (Kd.N_reads' HO252.out).2.2 | (with_reducible refine Kd.C_alloc ?_ _) | (with_reducible refine Kd.C_drewN ?_ _) | (with_reducible refine Kd.C_drew ?_))); (case side7 => exact (Kd.N_reads' HO252.out).2.1); rintro e w34 ⟨rfl, hb⟩; have n0_ := Aside0.mk (Kd.R_below (by (with_reducible repeat (first | apply Kd.R_alloc | apply Kd.R_drewN | apply Kd.R_drew)); exact HO245.out) hb); have n1_ := Aside0.mk (Kd.R_below (by (with_reducible repeat (first | apply Kd.R_alloc | apply Kd.R_drewN | apply Kd.R_drew)); exact HO248.out) hb); have n2_ := Aside0.mk (Kd.N_below (by (with_reducible repeat (first | apply Kd.N_alloc | apply Kd.N_drewN | apply Kd.N_drew)); exact HO252.out) hb); have n3_ := Aside0.mk (blk_below (g := gb253) (o := .cells #[.slice Ao28 t243.length co28, .slice Ao30 t246.length co30, .int .i64 t249, .slice Ao31 t250.length co31] 25 (0, 0)) (by (with_reducible repeat (first | refine blk_drewN ?_ _ | refine blk_drew ?_ | refine blk_alloc ?_ _)); exact BK253.out) hb); have n4_ := Aside0.mk (below_step (by repeat (first | (with_reducible first | exact HB.out | apply below_alloc | apply pw_below_drewN | apply below_drew1 | refine below_set ?_ GE253.out) | exact HB.out)) hb); clear HO245; clear HO248; clear HO252; clear BK253; clear HB; have HO245 := n0_; have HO248 := n1_; have HO252 := n2_; have BK253 := n3_; have HB := n4_; clear n0_ n1_ n2_ n3_ n4_; (try clear hb); (try clear hb2); (try clear hk); (try clear hi); have hcz35_0 : w34.cell? ⟨gb253, 0, none⟩ = some (.slice Ao28 t243.length co28) := (blk_cell BK253.out 0).trans rfl; have hcz35_1 : w34.cell? ⟨gb253, 1, none⟩ = some (.slice Ao30 t246.length co30) := (blk_cell BK253.out 1).trans rfl; have hcz35_2 : w34.cell? ⟨gb253, 2, none⟩ = some (.int .i64 t249) := (blk_cell BK253.out 2).trans rfl; have hcz35_3 : w34.cell? ⟨gb253, 3, none⟩ = some (.slice Ao31 t250.length co31) := (blk_cell BK253.out 3).trans rfl; have hfz35_0 := blk_frozen BK253.out 0; have hfz35_1 := blk_frozen BK253.out 1; have hfz35_2 := blk_frozen BK253.out 2; have hfz35_3 := blk_frozen BK253.out 3) | (go_at_call 49; (with_reducible refine (gram_Grammar_Size.calls k _ _ t243 _ _ t246 t249 _ _ t250 t256 _ ?side1 ?side2 ?side3 ?side4 ?side5 ?side6 A6.out).mono ?_); (case side1 => repeat (first | exact (Kd.R_reads' HO245.out).2.2 | (with_reducible refine Kd.C_alloc ?_ _) | (with_reducible refine Kd.C_drewN ?_ _) | (with_reducible refine Kd.C_drew ?_))); (case side2 => exact (Kd.R_reads' HO245.out).2.1); (case side3 => repeat (first | exact (Kd.R_reads' HO248.out).2.2 | (with_reducible refine Kd.C_alloc ?_ _) | (with_reducible refine Kd.C_drewN ?_ _) | (with_reducible refine Kd.C_drew ?_))); (case side4 => exact (Kd.R_reads' HO248.out).2.1); (case side5 => repeat (first | exact (Kd.N_reads' HO252.out).2.2 | (with_reducible refine Kd.C_alloc ?_ _) | (with_reducible refine Kd.C_drewN ?_ _) | (with_reducible refine Kd.C_drew ?_))); (case side6 => exact (Kd.N_reads' HO252.out).2.1); rintro e w36 ⟨rfl, hb⟩; have n0_ := Aside0.mk (Kd.R_below (by (with_reducible repeat (first | apply Kd.R_alloc | apply Kd.R_drewN | apply Kd.R_drew)); exact HO245.out) hb); have n1_ := Aside0.mk (Kd.R_below (by (with_reducible repeat (first | apply Kd.R_alloc | apply Kd.R_drewN | apply Kd.R_drew)); exact HO248.out) hb); have n2_ := Aside0.mk (Kd.N_below (by (with_reducible repeat (first | apply Kd.N_alloc | apply Kd.N_drewN | apply Kd.N_drew)); exact HO252.out) hb); have n3_ := Aside0.mk (blk_below (g := gb253) (o := .cells #[.slice Ao28 t243.length co28, .slice Ao30 t246.length co30, .int .i64 t249, .slice Ao31 t250.length co31] 25 (0, 0)) (by (with_reducible repeat (first | refine blk_drewN ?_ _ | refine blk_drew ?_ | refine blk_alloc ?_ _)); exact BK253.out) hb); have n4_ := Aside0.mk (below_step (by repeat (first | (with_reducible first | exact HB.out | apply below_alloc | apply pw_below_drewN | apply below_drew1 | refine below_set ?_ GE253.out) | exact HB.out)) hb); clear HO245; clear HO248; clear HO252; clear BK253; clear HB; have HO245 := n0_; have HO248 := n1_; have HO252 := n2_; have BK253 := n3_; have HB := n4_; clear n0_ n1_ n2_ n3_ n4_; (try clear hb); (try clear hb2); (try clear hk); (try clear hi); have hcz37_0 : w36.cell? ⟨gb253, 0, none⟩ = some (.slice Ao28 t243.length co28) := (blk_cell BK253.out 0).trans rfl; have hcz37_1 : w36.cell? ⟨gb253, 1, none⟩ = some (.slice Ao30 t246.length co30) := (blk_cell BK253.out 1).trans rfl; have hcz37_2 : w36.cell? ⟨gb253, 2, none⟩ = some (.int .i64 t249) := (blk_cell BK253.out 2).trans rfl; have hcz37_3 : w36.cell? ⟨gb253, 3, none⟩ = some (.slice Ao31 t250.length co31) := (blk_cell BK253.out 3).trans rfl; have hfz37_0 := blk_frozen BK253.out 0; have hfz37_1 := blk_frozen BK253.out 1; have hfz37_2 := blk_frozen BK253.out 2; have hfz37_3 := blk_frozen BK253.out 3) | (go_at_call 50; (with_reducible refine (gram_Grammar_Text.calls _ _ t243 _ _ t246 t249 _ _ t250 (-1) t257 _ ?side1 ?side2 ?side3 ?side4 ?side5 ?side6 A8.out).mono ?_); (case side1 => repeat (first | exact (Kd.R_reads' HO245.out).2.2 | (with_reducible refine Kd.C_alloc ?_ _) | (with_reducible refine Kd.C_drewN ?_ _) | (with_reducible refine Kd.C_drew ?_))); (case side2 => exact (Kd.R_reads' HO245.out).2.1); (case side3 => repeat (first | exact (Kd.R_reads' HO248.out).2.2 | (with_reducible refine Kd.C_alloc ?_ _) | (with_reducible refine Kd.C_drewN ?_ _) | (with_reducible refine Kd.C_drew ?_))); (case side4 => exact (Kd.R_reads' HO248.out).2.1); (case side5 => repeat (first | exact (Kd.N_reads' HO252.out).2.2 | (with_reducible refine Kd.C_alloc ?_ _) | (with_reducible refine Kd.C_drewN ?_ _) | (with_reducible refine Kd.C_drew ?_))); (case side6 => exact (Kd.N_reads' HO252.out).2.1); rintro e w38 ⟨rfl, hb⟩; have n0_ := Aside0.mk (Kd.R_below (by (with_reducible repeat (first | apply Kd.R_alloc | apply Kd.R_drewN | apply Kd.R_drew)); exact HO245.out) hb); have n1_ := Aside0.mk (Kd.R_below (by (with_reducible repeat (first | apply Kd.R_alloc | apply Kd.R_drewN | apply Kd.R_drew)); exact HO248.out) hb); have n2_ := Aside0.mk (Kd.N_below (by (with_reducible repeat (first | apply Kd.N_alloc | apply Kd.N_drewN | apply Kd.N_drew)); exact HO252.out) hb); have n3_ := Aside0.mk (blk_below (g := gb253) (o := .cells #[.slice Ao28 t243.length co28, .slice Ao30 t246.length co30, .int .i64 t249, .slice Ao31 t250.length co31] 25 (0, 0)) (by (with_reducible repeat (first | refine blk_drewN ?_ _ | refine blk_drew ?_ | refine blk_alloc ?_ _)); exact BK253.out) hb); have n4_ := Aside0.mk (below_step (by repeat (first | (with_reducible first | exact HB.out | apply below_alloc | apply pw_below_drewN | apply below_drew1 | refine below_set ?_ GE253.out) | exact HB.out)) hb); clear HO245; clear HO248; clear HO252; clear BK253; clear HB; have HO245 := n0_; have HO248 := n1_; have HO252 := n2_; have BK253 := n3_; have HB := n4_; clear n0_ n1_ n2_ n3_ n4_; (try clear hb); (try clear hb2); (try clear hk); (try clear hi)))
     go_ret
     exact ⟨by first | rfl | (simp [errW_none, errW_some] <;> rfl) | (simp [*, errW_none, errW_some] <;> rfl), by repeat (first | (with_reducible first | exact HB.out | apply below_alloc | apply pw_below_drewN | apply below_drew1 | refine below_set ?_ GE253.out) | exact HB.out)⟩
   ·rw [if_neg c7] at H
    have c7b0 : (t256 == 4) = false := beq_eq_false_iff_ne.mpr c7
    have c7b1 : (t256 != 4) = true := bne_iff_ne.mpr c7
    obtain rfl := Option.some.inj H
    go_enter Tryd.func19, Tryd.ntmps19
    go_wp2_with (first | ((with_reducible refine gate_callee (f := 46) rfl ?_); refine goesL_ (some 2) rfl rfl Tryd.func46 (by kernel_rfl) rfl #[] rfl (by (try simp only [List.map_toArray, List.map_cons, List.map_nil]); first | done | rfl | (simp only [List.length_drop, List.length_take]; rfl)) ?_; (with_reducible refine (wickerlaw02_Example.calls  t243 t246 t249 t250 _ A1.out).mono ?_); rintro e w39 ⟨v244, v247, v251, rfl, ho0, ho1, ho2, hb⟩; refine ⟨_, rfl, ?_⟩; have n0_ := Aside0.mk (Kd.R_lower (Kd.R_mono (ok' := fun k_ => some k_ ≠ (v247 : Value).ownBlock) ho0 (fun _ hk_ => hk_.2)) (below_size (by repeat (first | (with_reducible first | exact HB.out | apply below_alloc | apply pw_below_drewN | apply below_drew1) | exact HB.out)))); have n1_ := Aside0.mk (Kd.R_lower (Kd.R_mono (ok' := fun k_ => some k_ ≠ (v244 : Value).ownBlock) ho1 (fun _ hk_ => hk_.2)) (below_size (by repeat (first | (with_reducible first | exact HB.out | apply below_alloc | apply pw_below_drewN | apply below_drew1) | exact HB.out)))); have n2_ := Aside0.mk (Kd.N_lower (Kd.N_mono (ok' := fun k_ => some k_ ≠ (v244 : Value).ownBlock ∧ some k_ ≠ (v247 : Value).ownBlock) ho2 (fun k_ hk_ => ⟨hk_.2.1, hk_.2.2⟩)) (below_size (by repeat (first | (with_reducible first | exact HB.out | apply below_alloc | apply pw_below_drewN | apply below_drew1) | exact HB.out)))); have n3_ := Aside0.mk (below_step (by repeat (first | (with_reducible first | exact HB.out | apply below_alloc | apply pw_below_drewN | apply below_drew1) | exact HB.out)) hb); clear HB; have HO245 := n0_; have HO248 := n1_; have HO252 := n2_; have HB := n3_; clear n0_ n1_ n2_ n3_; (try clear hb); (try clear hb2); (try clear hk); (try clear hi); (try clear ho0); (try clear ho1); (try clear ho2)) | ((with_reducible refine gate_dst (N := 1) rfl ?_); refine box_event ?hg (N := 1) ?hd (cs := #[.slice none 0 0, .slice none 0 0, .int .i64 0, .slice none 0 0]) (t := 25) ?hr ?_; (case hd => rfl); (case hg => rfl); (case hr => first | (go_simp; done) | (go_simp; rfl)); intro gb253 hg w40 hbox hb; have n0_ := Aside0.mk (Kd.R_below (by (with_reducible repeat (first | apply Kd.R_alloc | apply Kd.R_drewN | apply Kd.R_drew)); exact HO245.out) hb); have n1_ := Aside0.mk (Kd.R_below (by (with_reducible repeat (first | apply Kd.R_alloc | apply Kd.R_drewN | apply Kd.R_drew)); exact HO248.out) hb); have n2_ := Aside0.mk (Kd.N_below (Kd.N_elderB (by (with_reducible repeat (first | apply Kd.N_alloc | apply Kd.N_drewN | apply Kd.N_drew)); exact HO252.out) gb253 (Nat.le_of_eq hg.symm)) hb); have n3_ := Aside0.mk (below_step (by repeat (first | (with_reducible first | exact HB.out | apply below_alloc | apply pw_below_drewN | apply below_drew1) | exact HB.out)) hb); have n4_ := Aside0.mk (hbox); have n5_ := Aside0.mk ((by rw [hg]; exact (below_size (by repeat (first | (with_reducible first | exact HB.out | apply below_alloc | apply pw_below_drewN | apply below_drew1) | exact HB.out))) : w.heap.size ≤ gb253)); have n6_ := Aside0.mk ((by rw [hg]; exact (below_size (by repeat (first | (with_reducible first | exact HB.out | apply below_alloc | apply pw_below_drewN | apply below_drew1) | exact HB.out))) : w.heap.size ≤ gb253)); clear HO245; clear HO248; clear HO252; clear HB; have HO245 := n0_; have HO248 := n1_; have HO252 := n2_; have HB := n3_; have BK253 := n4_; have GW253 := n5_; have GE253 := n6_; clear n0_ n1_ n2_ n3_ n4_ n5_ n6_; clear hb hbox hg; obtain ⟨Ao41, co41, eo41⟩ := Kd.R_slice HO245.out; subst eo41; have hcz42_0 : w40.cell? ⟨gb253, 0, none⟩ = some (.slice none 0 0) := (blk_cell BK253.out 0).trans rfl; have hcz42_1 : w40.cell? ⟨gb253, 1, none⟩ = some (.slice none 0 0) := (blk_cell BK253.out 1).trans rfl; have hcz42_2 : w40.cell? ⟨gb253, 2, none⟩ = some (.int .i64 0) := (blk_cell BK253.out 2).trans rfl; have hcz42_3 : w40.cell? ⟨gb253, 3, none⟩ = some (.slice none 0 0) := (blk_cell BK253.out 3).trans rfl; have hfz42_0 := blk_frozen BK253.out 0; have hfz42_1 := blk_frozen BK253.out 1; have hfz42_2 := blk_frozen BK253.out 2; have hfz42_3 := blk_frozen BK253.out 3; obtain ⟨Ao43, co43, eo43⟩ := Kd.R_slice HO248.out; subst eo43; obtain ⟨Ao44, co44, eo44⟩ := Kd.N_slice HO252.out; subst eo44) | ((with_reducible refine gate_callee (f := 47) rfl ?_); refine goesL_ (some 3) rfl rfl Tryd.func47 (by kernel_rfl) rfl #[] rfl (by (try simp only [List.map_toArray, List.map_cons, List.map_nil]); first | done | rfl | (simp only [List.length_drop, List.length_take]; rfl)) ?_; (with_reducible refine (wickerlaw01_Awake.calls k  true _ ?side1 A2.out).mono ?_); (case side1 => exact Laid.below HG.out (by repeat (first | (with_reducible first | exact HB.out | apply below_alloc | apply pw_below_drewN | apply below_drew1 | refine below_set ?_ GE253.out) | exact HB.out))); rintro e w45 ⟨rfl, hb⟩; refine ⟨_, rfl, ?_⟩; have n0_ := Aside0.mk (Kd.R_below (by (with_reducible repeat (first | apply Kd.R_alloc | apply Kd.R_drewN | apply Kd.R_drew)); exact (Kd.R_mono (Kd.R_far (p := ⟨gb253, 3, none⟩) (Kd.R_far (p := ⟨gb253, 2, none⟩) (Kd.R_far (p := ⟨gb253, 1, none⟩) (Kd.R_far (p := ⟨gb253, 0, none⟩) (Kd.R_types HO245.out BK253.out (by decide)) (fun _ hk => hk.2) (.slice Ao41 t243.length co41)) (fun _ hk => hk.2) (.slice Ao43 t246.length co43)) (fun _ hk => hk.2) (.int .i64 t249)) (fun _ hk => hk.2) (.slice Ao44 t250.length co44)) (fun _ h_ => h_.1))) hb); have n1_ := Aside0.mk (Kd.R_below (by (with_reducible repeat (first | apply Kd.R_alloc | apply Kd.R_drewN | apply Kd.R_drew)); exact (Kd.R_mono (Kd.R_far (p := ⟨gb253, 3, none⟩) (Kd.R_far (p := ⟨gb253, 2, none⟩) (Kd.R_far (p := ⟨gb253, 1, none⟩) (Kd.R_far (p := ⟨gb253, 0, none⟩) (Kd.R_types HO248.out BK253.out (by decide)) (fun _ hk => hk.2) (.slice Ao41 t243.length co41)) (fun _ hk => hk.2) (.slice Ao43 t246.length co43)) (fun _ hk => hk.2) (.int .i64 t249)) (fun _ hk => hk.2) (.slice Ao44 t250.length co44)) (fun _ h_ => h_.1))) hb); have n2_ := Aside0.mk (Kd.N_below (by (with_reducible repeat (first | apply Kd.N_alloc | apply Kd.N_drewN | apply Kd.N_drew)); exact (Kd.N_mono (Kd.N_far (p := ⟨gb253, 3, none⟩) (Kd.N_far (p := ⟨gb253, 2, none⟩) (Kd.N_far (p := ⟨gb253, 1, none⟩) (Kd.N_far (p := ⟨gb253, 0, none⟩) (Kd.N_mono HO252.out (fun k_ hk => (⟨hk, hk.2⟩ : _ ∧ k_ ≠ gb253))) (fun _ hk => hk.2) (.slice Ao41 t243.length co41)) (fun _ hk => hk.2) (.slice Ao43 t246.length co43)) (fun _ hk => hk.2) (.int .i64 t249)) (fun _ hk => hk.2) (.slice Ao44 t250.length co44)) (fun _ h_ => h_.1))) hb); have n3_ := Aside0.mk (blk_below (g := gb253) (o := .cells #[.slice Ao41 t243.length co41, .slice Ao43 t246.length co43, .int .i64 t249, .slice Ao44 t250.length co44] 25 (0, 0)) (by (with_reducible repeat (first | refine blk_drewN ?_ _ | refine blk_drew ?_ | refine blk_alloc ?_ _)); refine blk_put (cs := #[.slice Ao41 t243.length co41, .slice Ao43 t246.length co43, .int .i64 t249, .slice none 0 0]) ?_ 3 _ rfl; (with_reducible repeat (first | refine blk_drewN ?_ _ | refine blk_drew ?_ | refine blk_alloc ?_ _)); refine blk_put (cs := #[.slice Ao41 t243.length co41, .slice Ao43 t246.length co43, .int .i64 0, .slice none 0 0]) ?_ 2 _ rfl; (with_reducible repeat (first | refine blk_drewN ?_ _ | refine blk_drew ?_ | refine blk_alloc ?_ _)); refine blk_put (cs := #[.slice Ao41 t243.length co41, .slice none 0 0, .int .i64 0, .slice none 0 0]) ?_ 1 _ rfl; (with_reducible repeat (first | refine blk_drewN ?_ _ | refine blk_drew ?_ | refine blk_alloc ?_ _)); refine blk_put (cs := #[.slice none 0 0, .slice none 0 0, .int .i64 0, .slice none 0 0]) ?_ 0 _ rfl; (with_reducible repeat (first | refine blk_drewN ?_ _ | refine blk_drew ?_ | refine blk_alloc ?_ _)); exact BK253.out) hb); have n4_ := Aside0.mk (below_step (by repeat (first | (with_reducible first | exact HB.out | apply below_alloc | apply pw_below_drewN | apply below_drew1 | refine below_set ?_ GE253.out) | exact HB.out)) hb); clear HO245; clear HO248; clear HO252; clear BK253; clear HB; have HO245 := n0_; have HO248 := n1_; have HO252 := n2_; have BK253 := n3_; have HB := n4_; clear n0_ n1_ n2_ n3_ n4_; (try clear hb); (try clear hb2); (try clear hk); (try clear hi); have hcz46_0 : w45.cell? ⟨gb253, 0, none⟩ = some (.slice Ao41 t243.length co41) := (blk_cell BK253.out 0).trans rfl; have hcz46_1 : w45.cell? ⟨gb253, 1, none⟩ = some (.slice Ao43 t246.length co43) := (blk_cell BK253.out 1).trans rfl; have hcz46_2 : w45.cell? ⟨gb253, 2, none⟩ = some (.int .i64 t249) := (blk_cell BK253.out 2).trans rfl; have hcz46_3 : w45.cell? ⟨gb253, 3, none⟩ = some (.slice Ao44 t250.length co44) := (blk_cell BK253.out 3).trans rfl; have hfz46_0 := blk_frozen BK253.out 0; have hfz46_1 := blk_frozen BK253.out 1; have hfz46_2 := blk_frozen BK253.out 2; have hfz46_3 := blk_frozen BK253.out 3) | (go_at_call 48; (with_reducible refine (gram_Grammar_Check.calls _ _ t243 _ _ t246 t249 _ _ t250 t255 _ ?side1 ?side2 ?side3 ?side4 ?side5 ?side6 ?side7 A4.out).mono ?_); (case side1 => exact Laid.below HG.out (by repeat (first | (with_reducible first | exact HB.out | apply below_alloc | apply pw_below_drewN | apply below_drew1 | refine below_set ?_ GE253.out) | exact HB.out))); (case side2 => repeat (first | exact (Kd.R_reads' HO245.out).2.2 | (with_reducible refine Kd.C_alloc ?_ _) | (with_reducible refine Kd.C_drewN ?_ _) | (with_reducible refine Kd.C_drew ?_))); (case side3 => exact (Kd.R_reads' HO245.out).2.1); (case side4 => repeat (first | exact (Kd.R_reads' HO248.out).2.2 | (with_reducible refine Kd.C_alloc ?_ _) | (with_reducible refine Kd.C_drewN ?_ _) | (with_reducible refine Kd.C_drew ?_))); (case side5 => exact (Kd.R_reads' HO248.out).2.1); (case side6 => repeat (first | exact (Kd.N_reads' HO252.out).2.2 | (with_reducible refine Kd.C_alloc ?_ _) | (with_reducible refine Kd.C_drewN ?_ _) | (with_reducible refine Kd.C_drew ?_))); (case side7 => exact (Kd.N_reads' HO252.out).2.1); rintro e w47 ⟨rfl, hb⟩; have n0_ := Aside0.mk (Kd.R_below (by (with_reducible repeat (first | apply Kd.R_alloc | apply Kd.R_drewN | apply Kd.R_drew)); exact HO245.out) hb); have n1_ := Aside0.mk (Kd.R_below (by (with_reducible repeat (first | apply Kd.R_alloc | apply Kd.R_drewN | apply Kd.R_drew)); exact HO248.out) hb); have n2_ := Aside0.mk (Kd.N_below (by (with_reducible repeat (first | apply Kd.N_alloc | apply Kd.N_drewN | apply Kd.N_drew)); exact HO252.out) hb); have n3_ := Aside0.mk (blk_below (g := gb253) (o := .cells #[.slice Ao41 t243.length co41, .slice Ao43 t246.length co43, .int .i64 t249, .slice Ao44 t250.length co44] 25 (0, 0)) (by (with_reducible repeat (first | refine blk_drewN ?_ _ | refine blk_drew ?_ | refine blk_alloc ?_ _)); exact BK253.out) hb); have n4_ := Aside0.mk (below_step (by repeat (first | (with_reducible first | exact HB.out | apply below_alloc | apply pw_below_drewN | apply below_drew1 | refine below_set ?_ GE253.out) | exact HB.out)) hb); clear HO245; clear HO248; clear HO252; clear BK253; clear HB; have HO245 := n0_; have HO248 := n1_; have HO252 := n2_; have BK253 := n3_; have HB := n4_; clear n0_ n1_ n2_ n3_ n4_; (try clear hb); (try clear hb2); (try clear hk); (try clear hi); have hcz48_0 : w47.cell? ⟨gb253, 0, none⟩ = some (.slice Ao41 t243.length co41) := (blk_cell BK253.out 0).trans rfl; have hcz48_1 : w47.cell? ⟨gb253, 1, none⟩ = some (.slice Ao43 t246.length co43) := (blk_cell BK253.out 1).trans rfl; have hcz48_2 : w47.cell? ⟨gb253, 2, none⟩ = some (.int .i64 t249) := (blk_cell BK253.out 2).trans rfl; have hcz48_3 : w47.cell? ⟨gb253, 3, none⟩ = some (.slice Ao44 t250.length co44) := (blk_cell BK253.out 3).trans rfl; have hfz48_0 := blk_frozen BK253.out 0; have hfz48_1 := blk_frozen BK253.out 1; have hfz48_2 := blk_frozen BK253.out 2; have hfz48_3 := blk_frozen BK253.out 3) | (go_at_call 49; (with_reducible refine (gram_Grammar_Size.calls k _ _ t243 _ _ t246 t249 _ _ t250 t256 _ ?side1 ?side2 ?side3 ?side4 ?side5 ?side6 A6.out).mono ?_); (case side1 => repeat (first | exact (Kd.R_reads' HO245.out).2.2 | (with_reducible refine Kd.C_alloc ?_ _) | (with_reducible refine Kd.C_drewN ?_ _) | (with_reducible refine Kd.C_drew ?_))); (case side2 => exact (Kd.R_reads' HO245.out).2.1); (case side3 => repeat (first | exact (Kd.R_reads' HO248.out).2.2 | (with_reducible refine Kd.C_alloc ?_ _) | (with_reducible refine Kd.C_drewN ?_ _) | (with_reducible refine Kd.C_drew ?_))); (case side4 => exact (Kd.R_reads' HO248.out).2.1); (case side5 => repeat (first | exact (Kd.N_reads' HO252.out).2.2 | (with_reducible refine Kd.C_alloc ?_ _) | (with_reducible refine Kd.C_drewN ?_ _) | (with_reducible refine Kd.C_drew ?_))); (case side6 => exact (Kd.N_reads' HO252.out).2.1); rintro e w49 ⟨rfl, hb⟩; have n0_ := Aside0.mk (Kd.R_below (by (with_reducible repeat (first | apply Kd.R_alloc | apply Kd.R_drewN | apply Kd.R_drew)); exact HO245.out) hb); have n1_ := Aside0.mk (Kd.R_below (by (with_reducible repeat (first | apply Kd.R_alloc | apply Kd.R_drewN | apply Kd.R_drew)); exact HO248.out) hb); have n2_ := Aside0.mk (Kd.N_below (by (with_reducible repeat (first | apply Kd.N_alloc | apply Kd.N_drewN | apply Kd.N_drew)); exact HO252.out) hb); have n3_ := Aside0.mk (blk_below (g := gb253) (o := .cells #[.slice Ao41 t243.length co41, .slice Ao43 t246.length co43, .int .i64 t249, .slice Ao44 t250.length co44] 25 (0, 0)) (by (with_reducible repeat (first | refine blk_drewN ?_ _ | refine blk_drew ?_ | refine blk_alloc ?_ _)); exact BK253.out) hb); have n4_ := Aside0.mk (below_step (by repeat (first | (with_reducible first | exact HB.out | apply below_alloc | apply pw_below_drewN | apply below_drew1 | refine below_set ?_ GE253.out) | exact HB.out)) hb); clear HO245; clear HO248; clear HO252; clear BK253; clear HB; have HO245 := n0_; have HO248 := n1_; have HO252 := n2_; have BK253 := n3_; have HB := n4_; clear n0_ n1_ n2_ n3_ n4_; (try clear hb); (try clear hb2); (try clear hk); (try clear hi)))
    go_ret
    exact ⟨by first | rfl | (simp [errW_none, errW_some] <;> rfl) | (simp [*, errW_none, errW_some] <;> rfl), by repeat (first | (with_reducible first | exact HB.out | apply below_alloc | apply pw_below_drewN | apply below_drew1 | refine below_set ?_ GE253.out) | exact HB.out)⟩
  ·rw [if_neg c5] at H
   have c5b0 : (t255 == 0) = false := beq_eq_false_iff_ne.mpr c5
   have c5b1 : (t255 != 0) = true := bne_iff_ne.mpr c5
   obtain rfl := Option.some.inj H
   go_enter Tryd.func19, Tryd.ntmps19
   go_wp2_with (first | ((with_reducible refine gate_callee (f := 46) rfl ?_); refine goesL_ (some 2) rfl rfl Tryd.func46 (by kernel_rfl) rfl #[] rfl (by (try simp only [List.map_toArray, List.map_cons, List.map_nil]); first | done | rfl | (simp only [List.length_drop, List.length_take]; rfl)) ?_; (with_reducible refine (wickerlaw02_Example.calls  t243 t246 t249 t250 _ A1.out).mono ?_); rintro e w50 ⟨v244, v247, v251, rfl, ho0, ho1, ho2, hb⟩; refine ⟨_, rfl, ?_⟩; have n0_ := Aside0.mk (Kd.R_lower (Kd.R_mono (ok' := fun k_ => some k_ ≠ (v247 : Value).ownBlock) ho0 (fun _ hk_ => hk_.2)) (below_size (by repeat (first | (with_reducible first | exact HB.out | apply below_alloc | apply pw_below_drewN | apply below_drew1) | exact HB.out)))); have n1_ := Aside0.mk (Kd.R_lower (Kd.R_mono (ok' := fun k_ => some k_ ≠ (v244 : Value).ownBlock) ho1 (fun _ hk_ => hk_.2)) (below_size (by repeat (first | (with_reducible first | exact HB.out | apply below_alloc | apply pw_below_drewN | apply below_drew1) | exact HB.out)))); have n2_ := Aside0.mk (Kd.N_lower (Kd.N_mono (ok' := fun k_ => some k_ ≠ (v244 : Value).ownBlock ∧ some k_ ≠ (v247 : Value).ownBlock) ho2 (fun k_ hk_ => ⟨hk_.2.1, hk_.2.2⟩)) (below_size (by repeat (first | (with_reducible first | exact HB.out | apply below_alloc | apply pw_below_drewN | apply below_drew1) | exact HB.out)))); have n3_ := Aside0.mk (below_step (by repeat (first | (with_reducible first | exact HB.out | apply below_alloc | apply pw_below_drewN | apply below_drew1) | exact HB.out)) hb); clear HB; have HO245 := n0_; have HO248 := n1_; have HO252 := n2_; have HB := n3_; clear n0_ n1_ n2_ n3_; (try clear hb); (try clear hb2); (try clear hk); (try clear hi); (try clear ho0); (try clear ho1); (try clear ho2)) | ((with_reducible refine gate_dst (N := 1) rfl ?_); refine box_event ?hg (N := 1) ?hd (cs := #[.slice none 0 0, .slice none 0 0, .int .i64 0, .slice none 0 0]) (t := 25) ?hr ?_; (case hd => rfl); (case hg => rfl); (case hr => first | (go_simp; done) | (go_simp; rfl)); intro gb253 hg w51 hbox hb; have n0_ := Aside0.mk (Kd.R_below (by (with_reducible repeat (first | apply Kd.R_alloc | apply Kd.R_drewN | apply Kd.R_drew)); exact HO245.out) hb); have n1_ := Aside0.mk (Kd.R_below (by (with_reducible repeat (first | apply Kd.R_alloc | apply Kd.R_drewN | apply Kd.R_drew)); exact HO248.out) hb); have n2_ := Aside0.mk (Kd.N_below (Kd.N_elderB (by (with_reducible repeat (first | apply Kd.N_alloc | apply Kd.N_drewN | apply Kd.N_drew)); exact HO252.out) gb253 (Nat.le_of_eq hg.symm)) hb); have n3_ := Aside0.mk (below_step (by repeat (first | (with_reducible first | exact HB.out | apply below_alloc | apply pw_below_drewN | apply below_drew1) | exact HB.out)) hb); have n4_ := Aside0.mk (hbox); have n5_ := Aside0.mk ((by rw [hg]; exact (below_size (by repeat (first | (with_reducible first | exact HB.out | apply below_alloc | apply pw_below_drewN | apply below_drew1) | exact HB.out))) : w.heap.size ≤ gb253)); have n6_ := Aside0.mk ((by rw [hg]; exact (below_size (by repeat (first | (with_reducible first | exact HB.out | apply below_alloc | apply pw_below_drewN | apply below_drew1) | exact HB.out))) : w.heap.size ≤ gb253)); clear HO245; clear HO248; clear HO252; clear HB; have HO245 := n0_; have HO248 := n1_; have HO252 := n2_; have HB := n3_; have BK253 := n4_; have GW253 := n5_; have GE253 := n6_; clear n0_ n1_ n2_ n3_ n4_ n5_ n6_; clear hb hbox hg; obtain ⟨Ao52, co52, eo52⟩ := Kd.R_slice HO245.out; subst eo52; have hcz53_0 : w51.cell? ⟨gb253, 0, none⟩ = some (.slice none 0 0) := (blk_cell BK253.out 0).trans rfl; have hcz53_1 : w51.cell? ⟨gb253, 1, none⟩ = some (.slice none 0 0) := (blk_cell BK253.out 1).trans rfl; have hcz53_2 : w51.cell? ⟨gb253, 2, none⟩ = some (.int .i64 0) := (blk_cell BK253.out 2).trans rfl; have hcz53_3 : w51.cell? ⟨gb253, 3, none⟩ = some (.slice none 0 0) := (blk_cell BK253.out 3).trans rfl; have hfz53_0 := blk_frozen BK253.out 0; have hfz53_1 := blk_frozen BK253.out 1; have hfz53_2 := blk_frozen BK253.out 2; have hfz53_3 := blk_frozen BK253.out 3; obtain ⟨Ao54, co54, eo54⟩ := Kd.R_slice HO248.out; subst eo54; obtain ⟨Ao55, co55, eo55⟩ := Kd.N_slice HO252.out; subst eo55) | ((with_reducible refine gate_callee (f := 47) rfl ?_); refine goesL_ (some 3) rfl rfl Tryd.func47 (by kernel_rfl) rfl #[] rfl (by (try simp only [List.map_toArray, List.map_cons, List.map_nil]); first | done | rfl | (simp only [List.length_drop, List.length_take]; rfl)) ?_; (with_reducible refine (wickerlaw01_Awake.calls k  true _ ?side1 A2.out).mono ?_); (case side1 => exact Laid.below HG.out (by repeat (first | (with_reducible first | exact HB.out | apply below_alloc | apply pw_below_drewN | apply below_drew1 | refine below_set ?_ GE253.out) | exact HB.out))); rintro e w56 ⟨rfl, hb⟩; refine ⟨_, rfl, ?_⟩; have n0_ := Aside0.mk (Kd.R_below (by (with_reducible repeat (first | apply Kd.R_alloc | apply Kd.R_drewN | apply Kd.R_drew)); exact (Kd.R_mono (Kd.R_far (p := ⟨gb253, 3, none⟩) (Kd.R_far (p := ⟨gb253, 2, none⟩) (Kd.R_far (p := ⟨gb253, 1, none⟩) (Kd.R_far (p := ⟨gb253, 0, none⟩) (Kd.R_types HO245.out BK253.out (by decide)) (fun _ hk => hk.2) (.slice Ao52 t243.length co52)) (fun _ hk => hk.2) (.slice Ao54 t246.length co54)) (fun _ hk => hk.2) (.int .i64 t249)) (fun _ hk => hk.2) (.slice Ao55 t250.length co55)) (fun _ h_ => h_.1))) hb); have n1_ := Aside0.mk (Kd.R_below (by (with_reducible repeat (first | apply Kd.R_alloc | apply Kd.R_drewN | apply Kd.R_drew)); exact (Kd.R_mono (Kd.R_far (p := ⟨gb253, 3, none⟩) (Kd.R_far (p := ⟨gb253, 2, none⟩) (Kd.R_far (p := ⟨gb253, 1, none⟩) (Kd.R_far (p := ⟨gb253, 0, none⟩) (Kd.R_types HO248.out BK253.out (by decide)) (fun _ hk => hk.2) (.slice Ao52 t243.length co52)) (fun _ hk => hk.2) (.slice Ao54 t246.length co54)) (fun _ hk => hk.2) (.int .i64 t249)) (fun _ hk => hk.2) (.slice Ao55 t250.length co55)) (fun _ h_ => h_.1))) hb); have n2_ := Aside0.mk (Kd.N_below (by (with_reducible repeat (first | apply Kd.N_alloc | apply Kd.N_drewN | apply Kd.N_drew)); exact (Kd.N_mono (Kd.N_far (p := ⟨gb253, 3, none⟩) (Kd.N_far (p := ⟨gb253, 2, none⟩) (Kd.N_far (p := ⟨gb253, 1, none⟩) (Kd.N_far (p := ⟨gb253, 0, none⟩) (Kd.N_mono HO252.out (fun k_ hk => (⟨hk, hk.2⟩ : _ ∧ k_ ≠ gb253))) (fun _ hk => hk.2) (.slice Ao52 t243.length co52)) (fun _ hk => hk.2) (.slice Ao54 t246.length co54)) (fun _ hk => hk.2) (.int .i64 t249)) (fun _ hk => hk.2) (.slice Ao55 t250.length co55)) (fun _ h_ => h_.1))) hb); have n3_ := Aside0.mk (blk_below (g := gb253) (o := .cells #[.slice Ao52 t243.length co52, .slice Ao54 t246.length co54, .int .i64 t249, .slice Ao55 t250.length co55] 25 (0, 0)) (by (with_reducible repeat (first | refine blk_drewN ?_ _ | refine blk_drew ?_ | refine blk_alloc ?_ _)); refine blk_put (cs := #[.slice Ao52 t243.length co52, .slice Ao54 t246.length co54, .int .i64 t249, .slice none 0 0]) ?_ 3 _ rfl; (with_reducible repeat (first | refine blk_drewN ?_ _ | refine blk_drew ?_ | refine blk_alloc ?_ _)); refine blk_put (cs := #[.slice Ao52 t243.length co52, .slice Ao54 t246.length co54, .int .i64 0, .slice none 0 0]) ?_ 2 _ rfl; (with_reducible repeat (first | refine blk_drewN ?_ _ | refine blk_drew ?_ | refine blk_alloc ?_ _)); refine blk_put (cs := #[.slice Ao52 t243.length co52, .slice none 0 0, .int .i64 0, .slice none 0 0]) ?_ 1 _ rfl; (with_reducible repeat (first | refine blk_drewN ?_ _ | refine blk_drew ?_ | refine blk_alloc ?_ _)); refine blk_put (cs := #[.slice none 0 0, .slice none 0 0, .int .i64 0, .slice none 0 0]) ?_ 0 _ rfl; (with_reducible repeat (first | refine blk_drewN ?_ _ | refine blk_drew ?_ | refine blk_alloc ?_ _)); exact BK253.out) hb); have n4_ := Aside0.mk (below_step (by repeat (first | (with_reducible first | exact HB.out | apply below_alloc | apply pw_below_drewN | apply below_drew1 | refine below_set ?_ GE253.out) | exact HB.out)) hb); clear HO245; clear HO248; clear HO252; clear BK253; clear HB; have HO245 := n0_; have HO248 := n1_; have HO252 := n2_; have BK253 := n3_; have HB := n4_; clear n0_ n1_ n2_ n3_ n4_; (try clear hb); (try clear hb2); (try clear hk); (try clear hi); have hcz57_0 : w56.cell? ⟨gb253, 0, none⟩ = some (.slice Ao52 t243.length co52) := (blk_cell BK253.out 0).trans rfl; have hcz57_1 : w56.cell? ⟨gb253, 1, none⟩ = some (.slice Ao54 t246.length co54) := (blk_cell BK253.out 1).trans rfl; have hcz57_2 : w56.cell? ⟨gb253, 2, none⟩ = some (.int .i64 t249) := (blk_cell BK253.out 2).trans rfl; have hcz57_3 : w56.cell? ⟨gb253, 3, none⟩ = some (.slice Ao55 t250.length co55) := (blk_cell BK253.out 3).trans rfl; have hfz57_0 := blk_frozen BK253.out 0; have hfz57_1 := blk_frozen BK253.out 1; have hfz57_2 := blk_frozen BK253.out 2; have hfz57_3 := blk_frozen BK253.out 3) | (go_at_call 48; (with_reducible refine (gram_Grammar_Check.calls _ _ t243 _ _ t246 t249 _ _ t250 t255 _ ?side1 ?side2 ?side3 ?side4 ?side5 ?side6 ?side7 A4.out).mono ?_); (case side1 => exact Laid.below HG.out (by repeat (first | (with_reducible first | exact HB.out | apply below_alloc | apply pw_below_drewN | apply below_drew1 | refine below_set ?_ GE253.out) | exact HB.out))); (case side2 => repeat (first | exact (Kd.R_reads' HO245.out).2.2 | (with_reducible refine Kd.C_alloc ?_ _) | (with_reducible refine Kd.C_drewN ?_ _) | (with_reducible refine Kd.C_drew ?_))); (case side3 => exact (Kd.R_reads' HO245.out).2.1); (case side4 => repeat (first | exact (Kd.R_reads' HO248.out).2.2 | (with_reducible refine Kd.C_alloc ?_ _) | (with_reducible refine Kd.C_drewN ?_ _) | (with_reducible refine Kd.C_drew ?_))); (case side5 => exact (Kd.R_reads' HO248.out).2.1); (case side6 => repeat (first | exact (Kd.N_reads' HO252.out).2.2 | (with_reducible refine Kd.C_alloc ?_ _) | (with_reducible refine Kd.C_drewN ?_ _) | (with_reducible refine Kd.C_drew ?_))); (case side7 => exact (Kd.N_reads' HO252.out).2.1); rintro e w58 ⟨rfl, hb⟩; have n0_ := Aside0.mk (Kd.R_below (by (with_reducible repeat (first | apply Kd.R_alloc | apply Kd.R_drewN | apply Kd.R_drew)); exact HO245.out) hb); have n1_ := Aside0.mk (Kd.R_below (by (with_reducible repeat (first | apply Kd.R_alloc | apply Kd.R_drewN | apply Kd.R_drew)); exact HO248.out) hb); have n2_ := Aside0.mk (Kd.N_below (by (with_reducible repeat (first | apply Kd.N_alloc | apply Kd.N_drewN | apply Kd.N_drew)); exact HO252.out) hb); have n3_ := Aside0.mk (blk_below (g := gb253) (o := .cells #[.slice Ao52 t243.length co52, .slice Ao54 t246.length co54, .int .i64 t249, .slice Ao55 t250.length co55] 25 (0, 0)) (by (with_reducible repeat (first | refine blk_drewN ?_ _ | refine blk_drew ?_ | refine blk_alloc ?_ _)); exact BK253.out) hb); have n4_ := Aside0.mk (below_step (by repeat (first | (with_reducible first | exact HB.out | apply below_alloc | apply pw_below_drewN | apply below_drew1 | refine below_set ?_ GE253.out) | exact HB.out)) hb); clear HO245; clear HO248; clear HO252; clear BK253; clear HB; have HO245 := n0_; have HO248 := n1_; have HO252 := n2_; have BK253 := n3_; have HB := n4_; clear n0_ n1_ n2_ n3_ n4_; (try clear hb); (try clear hb2); (try clear hk); (try clear hi)))
   go_ret
   exact ⟨by first | rfl | (simp [errW_none, errW_some] <;> rfl) | (simp [*, errW_none, errW_some] <;> rfl), by repeat (first | (with_reducible first | exact HB.out | apply below_alloc | apply pw_below_drewN | apply below_drew1 | refine below_set ?_ GE253.out) | exact HB.out)⟩
 ·replace c3 := Bool.eq_false_iff.mpr c3
  subst c3
  have H1 : (some false) = some r := by rw [if_neg (show ¬ (false = true) by decide)] at H; exact H
  clear H
  have H := H1
  clear H1
  obtain rfl := Option.some.inj H
  go_enter Tryd.func19, Tryd.ntmps19
  go_wp2_with (first | ((with_reducible refine gate_callee (f := 46) rfl ?_); refine goesL_ (some 2) rfl rfl Tryd.func46 (by kernel_rfl) rfl #[] rfl (by (try simp only [List.map_toArray, List.map_cons, List.map_nil]); first | done | rfl | (simp only [List.length_drop, List.length_take]; rfl)) ?_; (with_reducible refine (wickerlaw02_Example.calls  t243 t246 t249 t250 _ A1.out).mono ?_); rintro e w59 ⟨v244, v247, v251, rfl, ho0, ho1, ho2, hb⟩; refine ⟨_, rfl, ?_⟩; have n0_ := Aside0.mk (Kd.R_lower (Kd.R_mono (ok' := fun k_ => some k_ ≠ (v247 : Value).ownBlock) ho0 (fun _ hk_ => hk_.2)) (below_size (by repeat (first | (with_reducible first | exact HB.out | apply below_alloc | apply pw_below_drewN | apply below_drew1) | exact HB.out)))); have n1_ := Aside0.mk (Kd.R_lower (Kd.R_mono (ok' := fun k_ => some k_ ≠ (v244 : Value).ownBlock) ho1 (fun _ hk_ => hk_.2)) (below_size (by repeat (first | (with_reducible first | exact HB.out | apply below_alloc | apply pw_below_drewN | apply below_drew1) | exact HB.out)))); have n2_ := Aside0.mk (Kd.N_lower (Kd.N_mono (ok' := fun k_ => some k_ ≠ (v244 : Value).ownBlock ∧ some k_ ≠ (v247 : Value).ownBlock) ho2 (fun k_ hk_ => ⟨hk_.2.1, hk_.2.2⟩)) (below_size (by repeat (first | (with_reducible first | exact HB.out | apply below_alloc | apply pw_below_drewN | apply below_drew1) | exact HB.out)))); have n3_ := Aside0.mk (below_step (by repeat (first | (with_reducible first | exact HB.out | apply below_alloc | apply pw_below_drewN | apply below_drew1) | exact HB.out)) hb); clear HB; have HO245 := n0_; have HO248 := n1_; have HO252 := n2_; have HB := n3_; clear n0_ n1_ n2_ n3_; (try clear hb); (try clear hb2); (try clear hk); (try clear hi); (try clear ho0); (try clear ho1); (try clear ho2)) | ((with_reducible refine gate_dst (N := 1) rfl ?_); refine box_event ?hg (N := 1) ?hd (cs := #[.slice none 0 0, .slice none 0 0, .int .i64 0, .slice none 0 0]) (t := 25) ?hr ?_; (case hd => rfl); (case hg => rfl); (case hr => first | (go_simp; done) | (go_simp; rfl)); intro gb253 hg w60 hbox hb; have n0_ := Aside0.mk (Kd.R_below (by (with_reducible repeat (first | apply Kd.R_alloc | apply Kd.R_drewN | apply Kd.R_drew)); exact HO245.out) hb); have n1_ := Aside0.mk (Kd.R_below (by (with_reducible repeat (first | apply Kd.R_alloc | apply Kd.R_drewN | apply Kd.R_drew)); exact HO248.out) hb); have n2_ := Aside0.mk (Kd.N_below (Kd.N_elderB (by (with_reducible repeat (first | apply Kd.N_alloc | apply Kd.N_drewN | apply Kd.N_drew)); exact HO252.out) gb253 (Nat.le_of_eq hg.symm)) hb); have n3_ := Aside0.mk (below_step (by repeat (first | (with_reducible first | exact HB.out | apply below_alloc | apply pw_below_drewN | apply below_drew1) | exact HB.out)) hb); have n4_ := Aside0.mk (hbox); have n5_ := Aside0.mk ((by rw [hg]; exact (below_size (by repeat (first | (with_reducible first | exact HB.out | apply below_alloc | apply pw_below_drewN | apply below_drew1) | exact HB.out))) : w.heap.size ≤ gb253)); have n6_ := Aside0.mk ((by rw [hg]; exact (below_size (by repeat (first | (with_reducible first | exact HB.out | apply below_alloc | apply pw_below_drewN | apply below_drew1) | exact HB.out))) : w.heap.size ≤ gb253)); clear HO245; clear HO248; clear HO252; clear HB; have HO245 := n0_; have HO248 := n1_; have HO252 := n2_; have HB := n3_; have BK253 := n4_; have GW253 := n5_; have GE253 := n6_; clear n0_ n1_ n2_ n3_ n4_ n5_ n6_; clear hb hbox hg; obtain ⟨Ao61, co61, eo61⟩ := Kd.R_slice HO245.out; subst eo61; have hcz62_0 : w60.cell? ⟨gb253, 0, none⟩ = some (.slice none 0 0) := (blk_cell BK253.out 0).trans rfl; have hcz62_1 : w60.cell? ⟨gb253, 1, none⟩ = some (.slice none 0 0) := (blk_cell BK253.out 1).trans rfl; have hcz62_2 : w60.cell? ⟨gb253, 2, none⟩ = some (.int .i64 0) := (blk_cell BK253.out 2).trans rfl; have hcz62_3 : w60.cell? ⟨gb253, 3, none⟩ = some (.slice none 0 0) := (blk_cell BK253.out 3).trans rfl; have hfz62_0 := blk_frozen BK253.out 0; have hfz62_1 := blk_frozen BK253.out 1; have hfz62_2 := blk_frozen BK253.out 2; have hfz62_3 := blk_frozen BK253.out 3; obtain ⟨Ao63, co63, eo63⟩ := Kd.R_slice HO248.out; subst eo63; obtain ⟨Ao64, co64, eo64⟩ := Kd.N_slice HO252.out; subst eo64) | ((with_reducible refine gate_callee (f := 47) rfl ?_); refine goesL_ (some 3) rfl rfl Tryd.func47 (by kernel_rfl) rfl #[] rfl (by (try simp only [List.map_toArray, List.map_cons, List.map_nil]); first | done | rfl | (simp only [List.length_drop, List.length_take]; rfl)) ?_; (with_reducible refine (wickerlaw01_Awake.calls k  false _ ?side1 A2.out).mono ?_); (case side1 => exact Laid.below HG.out (by repeat (first | (with_reducible first | exact HB.out | apply below_alloc | apply pw_below_drewN | apply below_drew1 | refine below_set ?_ GE253.out) | exact HB.out))); rintro e w65 ⟨rfl, hb⟩; refine ⟨_, rfl, ?_⟩; have n0_ := Aside0.mk (Kd.R_below (by (with_reducible repeat (first | apply Kd.R_alloc | apply Kd.R_drewN | apply Kd.R_drew)); exact (Kd.R_mono (Kd.R_far (p := ⟨gb253, 3, none⟩) (Kd.R_far (p := ⟨gb253, 2, none⟩) (Kd.R_far (p := ⟨gb253, 1, none⟩) (Kd.R_far (p := ⟨gb253, 0, none⟩) (Kd.R_types HO245.out BK253.out (by decide)) (fun _ hk => hk.2) (.slice Ao61 t243.length co61)) (fun _ hk => hk.2) (.slice Ao63 t246.length co63)) (fun _ hk => hk.2) (.int .i64 t249)) (fun _ hk => hk.2) (.slice Ao64 t250.length co64)) (fun _ h_ => h_.1))) hb); have n1_ := Aside0.mk (Kd.R_below (by (with_reducible repeat (first | apply Kd.R_alloc | apply Kd.R_drewN | apply Kd.R_drew)); exact (Kd.R_mono (Kd.R_far (p := ⟨gb253, 3, none⟩) (Kd.R_far (p := ⟨gb253, 2, none⟩) (Kd.R_far (p := ⟨gb253, 1, none⟩) (Kd.R_far (p := ⟨gb253, 0, none⟩) (Kd.R_types HO248.out BK253.out (by decide)) (fun _ hk => hk.2) (.slice Ao61 t243.length co61)) (fun _ hk => hk.2) (.slice Ao63 t246.length co63)) (fun _ hk => hk.2) (.int .i64 t249)) (fun _ hk => hk.2) (.slice Ao64 t250.length co64)) (fun _ h_ => h_.1))) hb); have n2_ := Aside0.mk (Kd.N_below (by (with_reducible repeat (first | apply Kd.N_alloc | apply Kd.N_drewN | apply Kd.N_drew)); exact (Kd.N_mono (Kd.N_far (p := ⟨gb253, 3, none⟩) (Kd.N_far (p := ⟨gb253, 2, none⟩) (Kd.N_far (p := ⟨gb253, 1, none⟩) (Kd.N_far (p := ⟨gb253, 0, none⟩) (Kd.N_mono HO252.out (fun k_ hk => (⟨hk, hk.2⟩ : _ ∧ k_ ≠ gb253))) (fun _ hk => hk.2) (.slice Ao61 t243.length co61)) (fun _ hk => hk.2) (.slice Ao63 t246.length co63)) (fun _ hk => hk.2) (.int .i64 t249)) (fun _ hk => hk.2) (.slice Ao64 t250.length co64)) (fun _ h_ => h_.1))) hb); have n3_ := Aside0.mk (blk_below (g := gb253) (o := .cells #[.slice Ao61 t243.length co61, .slice Ao63 t246.length co63, .int .i64 t249, .slice Ao64 t250.length co64] 25 (0, 0)) (by (with_reducible repeat (first | refine blk_drewN ?_ _ | refine blk_drew ?_ | refine blk_alloc ?_ _)); refine blk_put (cs := #[.slice Ao61 t243.length co61, .slice Ao63 t246.length co63, .int .i64 t249, .slice none 0 0]) ?_ 3 _ rfl; (with_reducible repeat (first | refine blk_drewN ?_ _ | refine blk_drew ?_ | refine blk_alloc ?_ _)); refine blk_put (cs := #[.slice Ao61 t243.length co61, .slice Ao63 t246.length co63, .int .i64 0, .slice none 0 0]) ?_ 2 _ rfl; (with_reducible repeat (first | refine blk_drewN ?_ _ | refine blk_drew ?_ | refine blk_alloc ?_ _)); refine blk_put (cs := #[.slice Ao61 t243.length co61, .slice none 0 0, .int .i64 0, .slice none 0 0]) ?_ 1 _ rfl; (with_reducible repeat (first | refine blk_drewN ?_ _ | refine blk_drew ?_ | refine blk_alloc ?_ _)); refine blk_put (cs := #[.slice none 0 0, .slice none 0 0, .int .i64 0, .slice none 0 0]) ?_ 0 _ rfl; (with_reducible repeat (first | refine blk_drewN ?_ _ | refine blk_drew ?_ | refine blk_alloc ?_ _)); exact BK253.out) hb); have n4_ := Aside0.mk (below_step (by repeat (first | (with_reducible first | exact HB.out | apply below_alloc | apply pw_below_drewN | apply below_drew1 | refine below_set ?_ GE253.out) | exact HB.out)) hb); clear HO245; clear HO248; clear HO252; clear BK253; clear HB; have HO245 := n0_; have HO248 := n1_; have HO252 := n2_; have BK253 := n3_; have HB := n4_; clear n0_ n1_ n2_ n3_ n4_; (try clear hb); (try clear hb2); (try clear hk); (try clear hi)))
  go_ret
  exact ⟨by first | rfl | (simp [errW_none, errW_some] <;> rfl) | (simp [*, errW_none, errW_some] <;> rfl), by repeat (first | (with_reducible first | exact HB.out | apply below_alloc | apply pw_below_drewN | apply below_drew1 | refine below_set ?_ GE253.out) | exact HB.out)⟩
def wickerlaw02_OfRule.l0 : Nat → List Int → Int → Int → Int → List Int → Option (Int × List Int)
 | 0, _, _, _, _, _ => none
 | k + 1, x10, x11, x12, x262000, x262001 => if x12 < x11 then (if 0 ≤ x12 then (if x12 < (x10.length : Int) then (if x262001.length < 17592186044416 then (wickerlaw02_OfRule.l0 k x10 x11 (wrap64 (x12 + 1)) x262000 (x262001 ++ [rd x10 x12])) else (none)) else (none)) else (none)) else (some (x262000, x262001))
def wickerlaw02_OfRule.f (k : Nat) (a0_0 : Int) (l0_1 : List Int) : Option (Int × List Int) := wickerlaw02_OfRule.l0 k l0_1 (l0_1.length : Int) 0 a0_0 ([] : List Int)
set_option maxHeartbeats 8000000 in
set_option maxRecDepth 100000 in
theorem wickerlaw02_OfRule.calls (k : Nat) (a0_0 : Int) (A0_1 : Option Addr) (c0_1 : Nat) (l0_1 : List Int) (r1 : Int) (r2 : List Int) (w : World) (hr0_1 : Kd.C (Kd.int .i64) w A0_1 l0_1.length l0_1) (hc0_1 : l0_1.length ≤ c0_1) (h : wickerlaw02_OfRule.f k a0_0 l0_1 = some (r1, r2)) :
  Calls Tryd.prog 23 #[.agg #[.int .i64 a0_0, .slice A0_1 l0_1.length c0_1]] w fun e w' => ∃ v1_ : Value, e = .returned (.agg #[.int .i64 r1, v1_]) ∧ Kd.R (Kd.int .i64) 3 w' w.heap.size (fun _ => True) v1_ r2 ∧ Below w.heap.size w w' := by
 have hu35 := Tryd.underlying35
 have hu38 := Tryd.underlying38
 have HR0_1 := Aside0.mk hr0_1
 have HC0_1 := Aside0.mk hc0_1
 clear hr0_1 hc0_1
 have HB := Aside0.mk (Below.refl w.heap.size w)
 have H : (wickerlaw02_OfRule.l0 k l0_1 (l0_1.length : Int) 0 a0_0 ([] : List Int)) = some (r1, r2) := h
 clear h
 have H' := Aside0.mk H
 clear H
 go_enter Tryd.func23, Tryd.ntmps23
 go_wp2_with (first | ((with_reducible refine gate_dst (N := 1) rfl ?_); refine box_event ?hg (N := 1) ?hd (cs := #[.int .i64 a0_0, .slice A0_1 l0_1.length c0_1]) (t := 35) ?hr ?_; (case hd => rfl); (case hg => rfl); (case hr => first | (go_simp; done) | (go_simp; rfl)); intro gb259 hg w2 hbox hb; have n0_ := Aside0.mk (below_step (by repeat (first | (with_reducible first | exact HB.out | apply below_alloc | apply pw_below_drewN | apply below_drew1) | exact HB.out)) hb); have n1_ := Aside0.mk (hbox); have n2_ := Aside0.mk ((by rw [hg]; exact (below_size (by repeat (first | (with_reducible first | exact HB.out | apply below_alloc | apply pw_below_drewN | apply below_drew1) | exact HB.out))) : w.heap.size ≤ gb259)); have n3_ := Aside0.mk ((by rw [hg]; exact (below_size (by repeat (first | (with_reducible first | exact HB.out | apply below_alloc | apply pw_below_drewN | apply below_drew1) | exact HB.out))) : w.heap.size ≤ gb259)); clear HB; have HB := n0_; have BK259 := n1_; have GW259 := n2_; have GE259 := n3_; clear n0_ n1_ n2_ n3_; clear hb hbox hg) | ((with_reducible refine gate_dst (N := 2) rfl ?_); refine box_event ?hg (N := 2) ?hd (cs := #[.int .i64 0, .slice none 0 0]) (t := 38) ?hr ?_; (case hd => rfl); (case hg => rfl); (case hr => first | (go_simp; done) | (go_simp; rfl)); intro gb260 hg w3 hbox hb; have n0_ := Aside0.mk (blk_below (g := gb259) (o := .cells #[.int .i64 a0_0, .slice A0_1 l0_1.length c0_1] 35 (0, 0)) (by (with_reducible repeat (first | refine blk_drewN ?_ _ | refine blk_drew ?_ | refine blk_alloc ?_ _)); exact BK259.out) hb); have n1_ := Aside0.mk (below_step (by repeat (first | (with_reducible first | exact HB.out | apply below_alloc | apply pw_below_drewN | apply below_drew1 | refine below_set ?_ GE259.out) | exact HB.out)) hb); have n2_ := Aside0.mk (hbox); have n3_ := Aside0.mk ((by rw [hg]; exact (below_size (by repeat (first | (with_reducible first | exact HB.out | apply below_alloc | apply pw_below_drewN | apply below_drew1 | refine below_set ?_ GE259.out) | exact HB.out))) : w.heap.size ≤ gb260)); have n4_ := Aside0.mk ((by rw [hg]; exact (below_size (by repeat (first | (with_reducible first | exact HB.out | apply below_alloc | apply pw_below_drewN | apply below_drew1 | refine below_set ?_ GE259.out) | exact HB.out))) : w.heap.size ≤ gb260)); have n5_ := Aside0.mk ((by rw [hg]; exact Nat.ne_of_lt (blk_lt (g := gb259) (o := .cells #[.int .i64 a0_0, .slice A0_1 l0_1.length c0_1] 35 (0, 0)) (by (with_reducible repeat (first | refine blk_drewN ?_ _ | refine blk_drew ?_ | refine blk_alloc ?_ _)); exact BK259.out)) : gb259 ≠ gb260)); have n6_ := Aside0.mk ((by rw [hg]; exact Nat.ne_of_gt (blk_lt (g := gb259) (o := .cells #[.int .i64 a0_0, .slice A0_1 l0_1.length c0_1] 35 (0, 0)) (by (with_reducible repeat (first | refine blk_drewN ?_ _ | refine blk_drew ?_ | refine blk_alloc ?_ _)); exact BK259.out)) : gb260 ≠ gb259)); clear BK259; clear HB; have BK259 := n0_; have HB := n1_; have BK260 := n2_; have GW260 := n3_; have GE260 := n4_; have NB259_260 := n5_; have NB260_259 := n6_; clear n0_ n1_ n2_ n3_ n4_ n5_ n6_; clear hb hbox hg; have hnb4 := NB259_260.out; have hnc4 := NB260_259.out; have hcz5_0 : w3.cell? ⟨gb259, 0, none⟩ = some (.int .i64 a0_0) := (blk_cell BK259.out 0).trans rfl; have hcz5_1 : w3.cell? ⟨gb259, 1, none⟩ = some (.slice A0_1 l0_1.length c0_1) := (blk_cell BK259.out 1).trans rfl; have hfz5_0 := blk_frozen BK259.out 0; have hfz5_1 := blk_frozen BK259.out 1) | ((with_reducible refine gate_dst (N := 3) rfl ?_); refine box_event ?hg (N := 3) ?hd (cs := #[.int .i64 0, .slice none 0 0]) (t := 38) ?hr ?_; (case hd => rfl); (case hg => rfl); (case hr => first | (go_simp; done) | (go_simp; rfl)); intro gb261 hg w6 hbox hb; have n0_ := Aside0.mk (blk_below (g := gb259) (o := .cells #[.int .i64 a0_0, .slice A0_1 l0_1.length c0_1] 35 (0, 0)) (by (with_reducible repeat (first | refine blk_drewN ?_ _ | refine blk_drew ?_ | refine blk_alloc ?_ _)); exact BK259.out) hb); have n1_ := Aside0.mk (blk_below (g := gb260) (o := .cells #[.int .i64 0, .slice none 0 0] 38 (0, 0)) (by (with_reducible repeat (first | refine blk_drewN ?_ _ | refine blk_drew ?_ | refine blk_alloc ?_ _)); exact BK260.out) hb); have n2_ := Aside0.mk (below_step (by repeat (first | (with_reducible first | exact HB.out | apply below_alloc | apply pw_below_drewN | apply below_drew1 | refine below_set ?_ GE259.out | refine below_set ?_ GE260.out) | exact HB.out)) hb); have n3_ := Aside0.mk (hbox); have n4_ := Aside0.mk ((by rw [hg]; exact (below_size (by repeat (first | (with_reducible first | exact HB.out | apply below_alloc | apply pw_below_drewN | apply below_drew1 | refine below_set ?_ GE259.out | refine below_set ?_ GE260.out) | exact HB.out))) : w.heap.size ≤ gb261)); have n5_ := Aside0.mk ((by rw [hg]; exact (below_size (by repeat (first | (with_reducible first | exact HB.out | apply below_alloc | apply pw_below_drewN | apply below_drew1 | refine below_set ?_ GE259.out | refine below_set ?_ GE260.out) | exact HB.out))) : w.heap.size ≤ gb261)); have n6_ := Aside0.mk ((by rw [hg]; exact Nat.ne_of_lt (blk_lt (g := gb259) (o := .cells #[.int .i64 a0_0, .slice A0_1 l0_1.length c0_1] 35 (0, 0)) (by (with_reducible repeat (first | refine blk_drewN ?_ _ | refine blk_drew ?_ | refine blk_alloc ?_ _)); exact BK259.out)) : gb259 ≠ gb261)); have n7_ := Aside0.mk ((by rw [hg]; exact Nat.ne_of_gt (blk_lt (g := gb259) (o := .cells #[.int .i64 a0_0, .slice A0_1 l0_1.length c0_1] 35 (0, 0)) (by (with_reducible repeat (first | refine blk_drewN ?_ _ | refine blk_drew ?_ | refine blk_alloc ?_ _)); exact BK259.out)) : gb261 ≠ gb259)); have n8_ := Aside0.mk ((by rw [hg]; exact Nat.ne_of_lt (blk_lt (g := gb260) (o := .cells #[.int .i64 0, .slice none 0 0] 38 (0, 0)) (by (with_reducible repeat (first | refine blk_drewN ?_ _ | refine blk_drew ?_ | refine blk_alloc ?_ _)); exact BK260.out)) : gb260 ≠ gb261)); have n9_ := Aside0.mk ((by rw [hg]; exact Nat.ne_of_gt (blk_lt (g := gb260) (o := .cells #[.int .i64 0, .slice none 0 0] 38 (0, 0)) (by (with_reducible repeat (first | refine blk_drewN ?_ _ | refine blk_drew ?_ | refine blk_alloc ?_ _)); exact BK260.out)) : gb261 ≠ gb260)); clear BK259; clear BK260; clear HB; have BK259 := n0_; have BK260 := n1_; have HB := n2_; have BK261 := n3_; have GW261 := n4_; have GE261 := n5_; have NB259_261 := n6_; have NB261_259 := n7_; have NB260_261 := n8_; have NB261_260 := n9_; clear n0_ n1_ n2_ n3_ n4_ n5_ n6_ n7_ n8_ n9_; clear hb hbox hg; have hnb7 := NB261_259.out; have hnc7 := NB259_261.out; have hnb8 := NB261_260.out; have hnc8 := NB260_261.out; have hcz9_0 : w6.cell? ⟨gb261, 0, none⟩ = some (.int .i64 0) := (blk_cell BK261.out 0).trans rfl; have hcz9_1 : w6.cell? ⟨gb261, 1, none⟩ = some (.slice none 0 0) := (blk_cell BK261.out 1).trans rfl; have hfz9_0 := blk_frozen BK261.out 0; have hfz9_1 := blk_frozen BK261.out 1; have hcz10_0 : w6.cell? ⟨gb259, 0, none⟩ = some (.int .i64 a0_0) := (blk_cell BK259.out 0).trans rfl; have hcz10_1 : w6.cell? ⟨gb259, 1, none⟩ = some (.slice A0_1 l0_1.length c0_1) := (blk_cell BK259.out 1).trans rfl; have hfz10_0 := blk_frozen BK259.out 0; have hfz10_1 := blk_frozen BK259.out 1))
 go_loopg [12] k (fun kq v12 w' => ∃ (x12_1 : Int) (x262001_1 : List Int) (u262001 : Value), v12 = .int .i64 x12_1 ∧ Aside0 (wickerlaw02_OfRule.l0 kq l0_1 (l0_1.length : Int) x12_1 a0_0 x262001_1 = some (r1, r2)) ∧ Aside0 (kq ≤ k) ∧ Aside0 (Kd.R (Kd.int .i64) 3 w' w.heap.size (fun _ => True) u262001 x262001_1) ∧ Aside0 (w'.heap[gb259]? = some (.cells #[.int .i64 a0_0, (.slice A0_1 l0_1.length c0_1)] 35 (0, 0))) ∧ Aside0 (w'.heap[gb260]? = some (.cells #[.int .i64 0, (.slice none 0 0)] 38 (0, 0))) ∧ Aside0 (w'.heap[gb261]? = some (.cells #[.int .i64 a0_0, u262001] 38 (0, 0))) ∧ Aside0 (Below w.heap.size w w'))
 case atStart => exact ⟨(0), (([] : List Int)), (.slice none 0 0), (by first | rfl | (simp; done) | (simp [*]; done)), H', ⟨Nat.le_refl _⟩, ⟨by first | exact Kd.R_nil _ _ _ _ _ | exact Kd.N_nil _ _ _ _ _ | exact Kd.V_nil _ _ _ _ _ | exact Kd.Q_nil _ _ _ _ _ | exact Kd.S_nil _ _ _ _ _⟩, ⟨by (with_reducible repeat (first | refine blk_drewN ?_ _ | refine blk_drew ?_ | refine blk_alloc ?_ _)); refine blk_far ?_ NB259_261.out _; (with_reducible repeat (first | refine blk_drewN ?_ _ | refine blk_drew ?_ | refine blk_alloc ?_ _)); refine blk_far ?_ NB259_261.out _; (with_reducible repeat (first | refine blk_drewN ?_ _ | refine blk_drew ?_ | refine blk_alloc ?_ _)); exact BK259.out⟩, ⟨by (with_reducible repeat (first | refine blk_drewN ?_ _ | refine blk_drew ?_ | refine blk_alloc ?_ _)); refine blk_far ?_ NB260_261.out _; (with_reducible repeat (first | refine blk_drewN ?_ _ | refine blk_drew ?_ | refine blk_alloc ?_ _)); refine blk_far ?_ NB260_261.out _; (with_reducible repeat (first | refine blk_drewN ?_ _ | refine blk_drew ?_ | refine blk_alloc ?_ _)); exact BK260.out⟩, ⟨by (with_reducible repeat (first | refine blk_drewN ?_ _ | refine blk_drew ?_ | refine blk_alloc ?_ _)); refine blk_put (cs := #[.int .i64 a0_0, .slice none 0 0]) ?_ 1 _ rfl; (with_reducible repeat (first | refine blk_drewN ?_ _ | refine blk_drew ?_ | refine blk_alloc ?_ _)); refine blk_put (cs := #[.int .i64 0, .slice none 0 0]) ?_ 0 _ rfl; (with_reducible repeat (first | refine blk_drewN ?_ _ | refine blk_drew ?_ | refine blk_alloc ?_ _)); exact BK261.out⟩, ⟨by repeat (first | (with_reducible first | exact HB.out | apply below_alloc | apply pw_below_drewN | apply below_drew1 | refine below_set ?_ GE259.out | refine below_set ?_ GE260.out | refine below_set ?_ GE261.out) | exact HB.out)⟩⟩
 case round =>
  clear H'
  try clear c2
  try clear p2
  try clear c4
  try clear c7
  try clear c8
  try clear hcz10_0
  try clear hcz10_1
  try clear hcz5_0
  try clear hcz5_1
  try clear hcz9_0
  try clear hcz9_1
  try clear hfz10_0
  try clear hfz10_1
  try clear hfz5_0
  try clear hfz5_1
  try clear hfz9_0
  try clear hfz9_1
  obtain ⟨x12_1, x262001_1, u262001, rfl, HA, HK1, HO_262001, BK259, BK260, BK261, HB⟩ := hrel
  cases gk with
  | zero => exact absurd HA.out (by simp [wickerlaw02_OfRule.l0])
  | succ k1 =>
   have H := HA.out
   clear HA
   simp only [wickerlaw02_OfRule.l0] at H
   by_cases c11 : x12_1 < (l0_1.length : Int)
   ·rw [if_pos c11] at H
    have c11b0 : decide (x12_1 < (l0_1.length : Int)) = true := decide_eq_true c11
    clear c11
    by_cases c12 : 0 ≤ x12_1
    ·rw [if_pos c12] at H
     have c12b0 : decide (0 ≤ x12_1) = true := decide_eq_true c12
     clear c12
     by_cases c13 : x12_1 < (l0_1.length : Int)
     ·rw [if_pos c13] at H
      have c13b0 : decide (x12_1 < (l0_1.length : Int)) = true := decide_eq_true c13
      clear c13
      by_cases c14 : x262001_1.length < 17592186044416
      ·rw [if_pos c14] at H
       have LMc14 := Aside0.mk c14
       clear c14
       obtain ⟨y263, hy263⟩ : ∃ y_ : List Int, y_ = (x262001_1 ++ [rd l0_1 x12_1]) := ⟨_, rfl⟩
       replace H : (wickerlaw02_OfRule.l0 k1 l0_1 (l0_1.length : Int) (wrap64 (x12_1 + 1)) a0_0 y263) = some (r1, r2) := by first | (rw [hy263]; with_reducible exact H) | (have H2_ := (Option.bind_some _ _).symm.trans H; rw [hy263]; with_reducible exact H2_) | (have H2_ := (Option.bind_some _ _).symm.trans H; with_reducible exact H2_) | with_reducible exact H | (rw [hy263]; exact H) | exact H
       have Ny263 := Aside0.mk hy263
       clear hy263
       have H' := Aside0.mk H
       clear H
       have p262 : 0 ≤ (x12_1 : Int) := of_decide_eq_true (by first | (with_reducible assumption) | assumption)
       have q262 : x12_1 < (l0_1.length : Int) := of_decide_eq_true (by first | (with_reducible assumption) | assumption)
       obtain ⟨ad262, e262, hx262_0⟩ := Kd.at_int HR0_1.out x12_1 p262 q262
       cases e262
       replace hx262_0 := (HB.out.cell (World.block_lt_of_cell? w _ hx262_0)).trans hx262_0
       replace p262 := eq_true p262
       replace q262 := eq_true q262
       have hnb15 := NB261_259.out
       have hnc15 := NB259_261.out
       have hnb16 := NB261_260.out
       have hnc16 := NB260_261.out
       have hcz17_0 : wr.cell? ⟨gb261, 0, none⟩ = some (.int .i64 a0_0) := (blk_cell BK261.out 0).trans rfl
       have hcz17_1 : wr.cell? ⟨gb261, 1, none⟩ = some (u262001) := (blk_cell BK261.out 1).trans rfl
       have hfz17_0 := blk_frozen BK261.out 0
       have hfz17_1 := blk_frozen BK261.out 1
       go_wp2_with (first | ((with_reducible refine gate_builtin (b := .append) (xs := #[.tmp 17, .tmp 19]) rfl ?_); at_builtin; refine Kd.R_append (Kd.int .i64) (w0 := w) w.heap.size rfl (.tmp 17) (.tmp 19) 36 3 (.int .i64 0) 8 rfl Tryd.underlying36 info3 rfl (by decide) (by omega) u262001 x262001_1 (rd l0_1 x12_1) [.int .i64 (rd l0_1 x12_1)] (fun _ => True) (fun _ => False) rfl rfl ?aP (fun _ hk => hk.elim) ?aF ?aO ?aB ?aS ?aL ?_; (case aP => exact rfl); (case aB => exact (by repeat (first | (with_reducible first | exact HB.out | apply below_alloc | apply pw_below_drewN | apply below_drew1 | refine below_set ?_ GE259.out | refine below_set ?_ GE260.out | refine below_set ?_ GE261.out) | exact HB.out))); (case aF => exact (fun _ _ => trivial)); (case aO => exact (by (with_reducible repeat (first | apply Kd.R_alloc | apply Kd.R_drewN | apply Kd.R_drew)); exact HO_262001.out)); (case aS => exact (below_size (by repeat (first | (with_reducible first | exact HB.out | apply below_alloc | apply pw_below_drewN | apply below_drew1 | refine below_set ?_ GE259.out | refine below_set ?_ GE260.out | refine below_set ?_ GE261.out) | exact HB.out)))); (case aL => have := LMc14.out; omega); intro v264 w18 ho hb hg hat; rw [← Ny263.out] at ho; have n0_ := Aside0.mk (blk_grown (g := gb259) (o := .cells #[.int .i64 a0_0, .slice (some ad262) l0_1.length c0_1] 35 (0, 0)) (by (with_reducible repeat (first | refine blk_drewN ?_ _ | refine blk_drew ?_ | refine blk_alloc ?_ _)); exact BK259.out) hg (Kd.R_ne HO_262001.out BK259.out (by decide))); have n1_ := Aside0.mk (blk_grown (g := gb260) (o := .cells #[.int .i64 0, .slice none 0 0] 38 (0, 0)) (by (with_reducible repeat (first | refine blk_drewN ?_ _ | refine blk_drew ?_ | refine blk_alloc ?_ _)); exact BK260.out) hg (Kd.R_ne HO_262001.out BK260.out (by decide))); have n2_ := Aside0.mk (blk_grown (g := gb261) (o := .cells #[.int .i64 a0_0, u262001] 38 (0, 0)) (by (with_reducible repeat (first | refine blk_drewN ?_ _ | refine blk_drew ?_ | refine blk_alloc ?_ _)); exact BK261.out) hg (Kd.R_ne HO_262001.out BK261.out (by decide))); have n3_ := Aside0.mk (hb); have n4_ := Aside0.mk (ho); clear BK259; clear BK260; clear BK261; clear HB; clear HO_262001; have BK259 := n0_; have BK260 := n1_; have BK261 := n2_; have HB := n3_; have HO265 := n4_; clear n0_ n1_ n2_ n3_ n4_; clear ho hb hg hat; obtain ⟨Ao19, co19, eo19⟩ := Kd.R_slice HO265.out; subst eo19; have hcz20_0 : w18.cell? ⟨gb261, 0, none⟩ = some (.int .i64 a0_0) := (blk_cell BK261.out 0).trans rfl; have hcz20_1 : w18.cell? ⟨gb261, 1, none⟩ = some (u262001) := (blk_cell BK261.out 1).trans rfl; have hfz20_0 := blk_frozen BK261.out 0; have hfz20_1 := blk_frozen BK261.out 1))
       go_roundg k1
       case measure => have := HK1.out; omega
       case rel => exact ⟨(wrap64 (x12_1 + 1)), (y263), (.slice Ao19 y263.length co19), (by first | rfl | (simp; done) | (simp [*]; done)), H', ⟨by have := HK1.out; omega⟩, ⟨by (with_reducible repeat (first | apply Kd.R_alloc | apply Kd.R_drewN | apply Kd.R_drew)); exact Kd.R_mono (Kd.R_far (p := ⟨gb261, 1, none⟩) (Kd.R_types HO265.out BK261.out (by decide)) (fun _ hk => hk.2) (.slice Ao19 y263.length co19)) (fun _ hk => trivial)⟩, ⟨by (with_reducible repeat (first | refine blk_drewN ?_ _ | refine blk_drew ?_ | refine blk_alloc ?_ _)); refine blk_far ?_ NB259_261.out _; (with_reducible repeat (first | refine blk_drewN ?_ _ | refine blk_drew ?_ | refine blk_alloc ?_ _)); exact BK259.out⟩, ⟨by (with_reducible repeat (first | refine blk_drewN ?_ _ | refine blk_drew ?_ | refine blk_alloc ?_ _)); refine blk_far ?_ NB260_261.out _; (with_reducible repeat (first | refine blk_drewN ?_ _ | refine blk_drew ?_ | refine blk_alloc ?_ _)); exact BK260.out⟩, ⟨by (with_reducible repeat (first | refine blk_drewN ?_ _ | refine blk_drew ?_ | refine blk_alloc ?_ _)); refine blk_put (cs := #[.int .i64 a0_0, u262001]) ?_ 1 _ rfl; (with_reducible repeat (first | refine blk_drewN ?_ _ | refine blk_drew ?_ | refine blk_alloc ?_ _)); exact BK261.out⟩, ⟨by repeat (first | (with_reducible first | exact HB.out | apply below_alloc | apply pw_below_drewN | apply below_drew1 | refine below_set ?_ GE259.out | refine below_set ?_ GE260.out | refine below_set ?_ GE261.out) | exact HB.out)⟩⟩
      ·rw [if_neg c14] at H
       exact absurd H (by simp)
     ·rw [if_neg c13] at H
      exact absurd H (by simp)
    ·rw [if_neg c12] at H
     exact absurd H (by simp)
   ·rw [if_neg c11] at H
    have c11b0 : decide (x12_1 < (l0_1.length : Int)) = false := decide_eq_false c11
    clear c11
    simp only [Option.some.injEq, Prod.mk.injEq] at H
    obtain ⟨rfl, rfl⟩ := H
    have hnb21 := NB261_259.out
    have hnc21 := NB259_261.out
    have hnb22 := NB261_260.out
    have hnc22 := NB260_261.out
    have hcz23_0 : wr.cell? ⟨gb261, 0, none⟩ = some (.int .i64 a0_0) := (blk_cell BK261.out 0).trans rfl
    have hcz23_1 : wr.cell? ⟨gb261, 1, none⟩ = some (u262001) := (blk_cell BK261.out 1).trans rfl
    have hfz23_0 := blk_frozen BK261.out 0
    have hfz23_1 := blk_frozen BK261.out 1
    have hnb24 := NB260_259.out
    have hnc24 := NB259_260.out
    have hcz25_0 : wr.cell? ⟨gb260, 0, none⟩ = some (.int .i64 0) := (blk_cell BK260.out 0).trans rfl
    have hcz25_1 : wr.cell? ⟨gb260, 1, none⟩ = some (.slice none 0 0) := (blk_cell BK260.out 1).trans rfl
    have hfz25_0 := blk_frozen BK260.out 0
    have hfz25_1 := blk_frozen BK260.out 1
    obtain ⟨Ao26, co26, eo26⟩ := Kd.R_slice HO_262001.out
    subst eo26
    go_wp2
    refine bodyPost_ret (results_cell_row rfl _ _ gb260 38 #[.int .i64 a0_0, .slice Ao26 x262001_1.length co26] (0, 0) _ rfl (by (with_reducible repeat (first | refine blk_drewN ?_ _ | refine blk_drew ?_ | refine blk_alloc ?_ _)); refine blk_put (cs := #[.int .i64 a0_0, .slice none 0 0]) ?_ 1 _ rfl; (with_reducible repeat (first | refine blk_drewN ?_ _ | refine blk_drew ?_ | refine blk_alloc ?_ _)); refine blk_put (cs := #[.int .i64 0, .slice none 0 0]) ?_ 0 _ rfl; (with_reducible repeat (first | refine blk_drewN ?_ _ | refine blk_drew ?_ | refine blk_alloc ?_ _)); exact BK260.out) Tryd.underlying38 rfl (by kernel_rfl)) rfl ?_
    exact ⟨_, by first | rfl | (simp [errW_none, errW_some] <;> rfl) | (simp [*, errW_none, errW_some] <;> rfl), by (with_reducible repeat (first | apply Kd.R_alloc | apply Kd.R_drewN | apply Kd.R_drew)); exact Kd.R_mono (Kd.R_far (p := ⟨gb260, 1, none⟩) (Kd.R_far (p := ⟨gb260, 0, none⟩) (Kd.R_types HO_262001.out BK260.out (by decide)) (fun _ hk => hk.2) (.int .i64 a0_0)) (fun _ hk => hk.2) (.slice Ao26 x262001_1.length co26)) (fun _ hk => trivial), by repeat (first | (with_reducible first | exact HB.out | apply below_alloc | apply pw_below_drewN | apply below_drew1 | refine below_set ?_ GE259.out | refine below_set ?_ GE260.out | refine below_set ?_ GE261.out) | exact HB.out)⟩
end Go.Proofs.YtgdcnmpcfoomiaaDoor.G
end
section
set_option linter.unusedVariables false
set_option linter.unusedSimpArgs false
namespace Go.Proofs.YtgdcnmpcfoomiaaDoor.G
open Go Go.RowKit Go.Proofs.YtgdcnmpcfoomiaaDoorW.PrintWords Go.Proofs.YtgdcnmpcfoomiaaDoor.Pure
structure GIn (l0 l1 : List ByteArray) (a2 : Int) (l3 : List GRule) : Prop where
  n0 : l0.length ≤ 140737488355328
  n1 : l1.length ≤ 140737488355328
  n3 : l3.length ≤ 140737488355328
  s0 : ∀ s ∈ l0, s.size ≤ 140737488355328
  s1 : ∀ s ∈ l1, s.size ≤ 140737488355328
  i2 : symOk a2 = true
  r3 : ∀ r ∈ l3, symOk r.f0 = true ∧ r.f1.length ≤ 140737488355328 ∧ ∀ s ∈ r.f1, symOk s = true
def sizeR (l : List GRule) : Nat := (l.map fun r => 1 + r.f1.length).sum
def sixt (l : List ByteArray) : Nat := (l.map fun s => s.size / 16).sum
def smallB (l0 l1 : List ByteArray) (l3 : List GRule) : Bool := decide (sizeR l3 + sixt l0 + sixt l1 ≤ 600 ∧ l0.length ≤ 60 ∧ l1.length ≤ 60 ∧ l3.length ≤ 120)
theorem le_sum_of_mem {α : Type} (f : α → Nat) : ∀ {l : List α} {x : α}, x ∈ l → f x ≤ (l.map f).sum := by
  intro l
  induction l with
  | nil => intro x h; exact absurd h (by simp)
  | cons a l ih =>
    intro x h
    rw [List.map_cons, List.sum_cons]
    rcases List.mem_cons.1 h with rfl | h
    · omega
    · have := ih h; omega
theorem sum_le_of {α : Type} (f : α → Nat) (m : Nat) : ∀ {l : List α}, (∀ x ∈ l, f x ≤ m) → (l.map f).sum ≤ l.length * m := by
  intro l
  induction l with
  | nil => intro _; simp
  | cons a l ih =>
    intro h
    have h1 := h a (by simp)
    have h2 := ih (fun x hx => h x (List.mem_cons_of_mem _ hx))
    rw [List.map_cons, List.sum_cons, List.length_cons, Nat.add_mul]; omega
theorem small_ok {l0 l1 : List ByteArray} {a2 : Int} {l3 : List GRule} (h : GIn l0 l1 a2 l3) (hs : smallB l0 l1 l3 = true) :
    gramOk l0 l1 a2 l3 = true ∧ l0.length ≤ 60 ∧ l1.length ≤ 60 ∧ l3.length ≤ 120 ∧ sizeR l3 ≤ 600 ∧ (∀ s ∈ l0, s.size ≤ 10000) ∧ (∀ s ∈ l1, s.size ≤ 10000) ∧ ∀ r ∈ l3, r.f1.length ≤ 600 := by
  have hs := of_decide_eq_true hs
  have k0 : ∀ s ∈ l0, s.size ≤ 10000 := fun s hm => by
    have := le_sum_of_mem (fun s : ByteArray => s.size / 16) hm
    have e : s.size / 16 ≤ _ := this; unfold sixt at hs; omega
  have k1 : ∀ s ∈ l1, s.size ≤ 10000 := fun s hm => by
    have := le_sum_of_mem (fun s : ByteArray => s.size / 16) hm
    have e : s.size / 16 ≤ _ := this; unfold sixt at hs; omega
  have k3 : ∀ r ∈ l3, r.f1.length ≤ 600 := fun r hm => by
    have := le_sum_of_mem (fun r : GRule => 1 + r.f1.length) hm
    have e : 1 + r.f1.length ≤ _ := this; unfold sizeR at hs; omega
  refine ⟨?_, hs.2.1, hs.2.2.1, hs.2.2.2, by omega, k0, k1, k3⟩
  simp only [gramOk, Bool.and_eq_true, decide_eq_true_eq, List.all_eq_true]
  refine ⟨⟨⟨⟨⟨⟨by omega, by omega⟩, by omega⟩, fun s hm => by have := k0 s hm; omega⟩, fun s hm => by have := k1 s hm; omega⟩, h.i2⟩, fun r hm => ?_⟩
  simp only [ruleOk, Bool.and_eq_true, decide_eq_true_eq, List.all_eq_true]
  exact ⟨⟨(h.r3 r hm).1, by have := k3 r hm; omega⟩, (h.r3 r hm).2.2⟩
theorem rdG (l : List GRule) (i : Nat) (h : i < l.length) : rd_T35 l (i : Int) = l[i] := by
  rw [rd_T35, Int.toNat_natCast, List.getD_eq_getElem?_getD, List.getElem?_eq_getElem h]; rfl
theorem rdBy (l : List ByteArray) (i : Nat) (h : i < l.length) : rdOf ByteArray.empty l (i : Int) = l[i] := by
  rw [rdOf, Int.toNat_natCast, List.getD_eq_getElem?_getD, List.getElem?_eq_getElem h]; rfl
theorem wsucc {i : Nat} (h : i ≤ 1000000000000000) : wrap64 ((i : Int) + 1) = ((i + 1 : Nat) : Int) := by rw [w64 (by omega) (by omega)]; rfl
section
variable (l0 l1 : List ByteArray) (a2 : Int) (l3 : List GRule) (h : GIn l0 l1 a2 l3)
def finS (y : Int) : Bool := decide (y ≤ 600 ∧ l0.length ≤ 60 ∧ l1.length ≤ 60 ∧ l3.length ≤ 120)
include h
theorem small_l2 : ∀ (d i : Nat), i + d = l1.length → ∀ x : Int, ∃ y : Int, (0 ≤ x → x + (sixt (l1.drop i) : Int) ≤ 9223372036854775807 → y = x + (sixt (l1.drop i) : Int)) ∧ Ev (fun k => wickerlaw02_Small.l2 k x l1 (l1.length : Int) (i : Int) l0 l1 a2 l3) (finS l0 l1 l3 y) := by
  have hn := h.n1
  intro d
  induction d with
  | zero =>
    intro i hi x
    refine ⟨x, fun _ _ => by rw [List.drop_eq_nil_of_le (by omega)]; simp [sixt], ev_nowS fun k => ?_⟩
    rw [wickerlaw02_Small.l2, if_neg (by omega)]
    unfold finS
    by_cases c1 : x ≤ 600
    · rw [if_pos c1]
      by_cases c2 : l0.length ≤ 60
      · rw [if_pos (by omega)]
        by_cases c3 : l1.length ≤ 60
        · rw [if_pos (by omega)]
          by_cases c4 : l3.length ≤ 120
          · rw [decide_eq_true (by omega), decide_eq_true ⟨c1, c2, c3, c4⟩]
          · rw [decide_eq_false (by omega), decide_eq_false (fun hh => c4 hh.2.2.2)]
        · rw [if_neg (by omega), decide_eq_false (fun hh => c3 hh.2.2.1)]
      · rw [if_neg (by omega), decide_eq_false (fun hh => c2 hh.2.1)]
    · rw [if_neg c1, decide_eq_false (fun hh => c1 hh.1)]
  | succ d ih =>
    intro i hi x
    have hi1 : i < l1.length := by omega
    have hs := h.s1 _ (List.getElem_mem hi1)
    obtain ⟨y, hy, hev⟩ := ih (i + 1) (by omega) (wrap64 (x + ((l1[i].size / 16 : Nat) : Int)))
    refine ⟨y, fun hx hb => ?_, Ev.step (fun k => ?_) hev⟩
    · have e : sixt (l1.drop i) = l1[i].size / 16 + sixt (l1.drop (i + 1)) := by rw [List.drop_eq_getElem_cons hi1]; simp only [sixt, List.map_cons, List.sum_cons]
      rw [e] at hb ⊢
      rw [w64 (by omega) (by omega)] at hy
      rw [hy (by omega) (by omega)]; omega
    · rw [wickerlaw02_Small.l2, if_pos (by omega), if_pos (by omega), if_pos (by omega), rdBy l1 i hi1, w64 (i := ((l1[i].size : Int) / 16)) (by omega) (by omega), wsucc (by omega), show ((l1[i].size : Int) / 16) = ((l1[i].size / 16 : Nat) : Int) by omega]
theorem small_l1 : ∀ (d i : Nat), i + d = l0.length → ∀ x : Int, ∃ y : Int, (0 ≤ x → x + (sixt (l0.drop i) : Int) + (sixt l1 : Int) ≤ 9223372036854775807 → y = x + (sixt (l0.drop i) : Int) + (sixt l1 : Int)) ∧ Ev (fun k => wickerlaw02_Small.l1 k x l0 (l0.length : Int) (i : Int) l0 l1 a2 l3) (finS l0 l1 l3 y) := by
  have hn := h.n0
  intro d
  induction d with
  | zero =>
    intro i hi x
    obtain ⟨y, hy, hev⟩ := small_l2 l0 l1 a2 l3 h l1.length 0 (by omega) x
    rw [List.drop_zero] at hy
    refine ⟨y, fun h1 h2 => ?_, Ev.step (fun k => ?_) hev⟩
    · rw [List.drop_eq_nil_of_le (by omega)] at h2 ⊢
      simp only [sixt, List.map_nil, List.sum_nil] at h2 ⊢
      rw [hy h1 (by unfold sixt; omega)]; unfold sixt; omega
    · rw [wickerlaw02_Small.l1, if_neg (by omega)]; rfl
  | succ d ih =>
    intro i hi x
    have hi1 : i < l0.length := by omega
    have hs := h.s0 _ (List.getElem_mem hi1)
    obtain ⟨y, hy, hev⟩ := ih (i + 1) (by omega) (wrap64 (x + ((l0[i].size / 16 : Nat) : Int)))
    refine ⟨y, fun hx hb => ?_, Ev.step (fun k => ?_) hev⟩
    · have e : sixt (l0.drop i) = l0[i].size / 16 + sixt (l0.drop (i + 1)) := by rw [List.drop_eq_getElem_cons hi1]; simp only [sixt, List.map_cons, List.sum_cons]
      rw [e] at hb ⊢
      rw [w64 (by omega) (by omega)] at hy
      rw [hy (by omega) (by omega)]; omega
    · rw [wickerlaw02_Small.l1, if_pos (by omega), if_pos (by omega), if_pos (by omega), rdBy l0 i hi1, w64 (i := ((l0[i].size : Int) / 16)) (by omega) (by omega), wsucc (by omega), show ((l0[i].size : Int) / 16) = ((l0[i].size / 16 : Nat) : Int) by omega]
theorem small_l0 : ∀ (d i : Nat), i + d = l3.length → ∀ x : Int, ∃ y : Int, (0 ≤ x → x + (sizeR (l3.drop i) : Int) + (sixt l0 : Int) + (sixt l1 : Int) ≤ 9223372036854775807 → y = x + (sizeR (l3.drop i) : Int) + (sixt l0 : Int) + (sixt l1 : Int)) ∧ Ev (fun k => wickerlaw02_Small.l0 k x l3 (l3.length : Int) (i : Int) l0 l1 a2 l3) (finS l0 l1 l3 y) := by
  have hn := h.n3
  intro d
  induction d with
  | zero =>
    intro i hi x
    obtain ⟨y, hy, hev⟩ := small_l1 l0 l1 a2 l3 h l0.length 0 (by omega) x
    rw [List.drop_zero] at hy
    refine ⟨y, fun h1 h2 => ?_, Ev.step (fun k => ?_) hev⟩
    · rw [List.drop_eq_nil_of_le (by omega)] at h2 ⊢
      simp only [sizeR, List.map_nil, List.sum_nil] at h2 ⊢
      rw [hy h1 (by omega)]; omega
    · rw [wickerlaw02_Small.l0, if_neg (by omega)]; rfl
  | succ d ih =>
    intro i hi x
    have hi1 : i < l3.length := by omega
    have hs := (h.r3 _ (List.getElem_mem hi1)).2.1
    obtain ⟨y, hy, hev⟩ := ih (i + 1) (by omega) (wrap64 (x + ((1 + l3[i].f1.length : Nat) : Int)))
    refine ⟨y, fun hx hb => ?_, Ev.step (fun k => ?_) hev⟩
    · have e : sizeR (l3.drop i) = (1 + l3[i].f1.length) + sizeR (l3.drop (i + 1)) := by rw [List.drop_eq_getElem_cons hi1]; simp only [sizeR, List.map_cons, List.sum_cons]
      rw [e] at hb ⊢
      rw [w64 (by omega) (by omega)] at hy
      rw [hy (by omega) (by omega)]; omega
    · rw [wickerlaw02_Small.l0, if_pos (by omega), if_pos (by omega), if_pos (by omega), rdG l3 i hi1, w64 (i := 1 + (l3[i].f1.length : Int)) (by omega) (by omega), wsucc (by omega), show 1 + (l3[i].f1.length : Int) = ((1 + l3[i].f1.length : Nat) : Int) by omega]
theorem small_f : Ev (fun k => wickerlaw02_Small.f k l0 l1 a2 l3) (smallB l0 l1 l3) := by
  obtain ⟨y, hy, hev⟩ := small_l0 l0 l1 a2 l3 h l3.length 0 (by omega) 0
  rw [List.drop_zero] at hy
  refine Ev.eq (show Ev (fun k => wickerlaw02_Small.f k l0 l1 a2 l3) _ from hev) ?_
  unfold finS smallB
  by_cases hb : l0.length ≤ 60 ∧ l1.length ≤ 60 ∧ l3.length ≤ 120
  · have b3 := sum_le_of (fun r : GRule => 1 + r.f1.length) 140737488355329 (l := l3) (fun r hr => by have := (h.r3 r hr).2.1; omega)
    have b0 := sum_le_of (fun s : ByteArray => s.size / 16) 140737488355328 (l := l0) (fun s hs => by have := h.s0 s hs; omega)
    have b1 := sum_le_of (fun s : ByteArray => s.size / 16) 140737488355328 (l := l1) (fun s hs => by have := h.s1 s hs; omega)
    have e := hy (by omega) (by unfold sizeR sixt; omega)
    rw [e]
    congr 1
    apply propext
    constructor
    · intro hh; omega
    · intro hh; omega
  · rw [decide_eq_false (fun hh => hb hh.2), decide_eq_false (fun hh => hb hh.2)]
end
end Go.Proofs.YtgdcnmpcfoomiaaDoor.G
end
section
set_option linter.unusedVariables false
set_option linter.unusedSimpArgs false
namespace Go.Proofs.YtgdcnmpcfoomiaaDoorOpen
open Go Go.RowKit Go.ChangeShapes Go.Deep Go.Proofs.YtgdcnmpcfoomiaaDoorW.PrintWords
def OpensS {α : Type} (P : Program) (W : World) (t : TypeId) (d : Kd α) (G : α → Prop) : Prop :=
  ∀ (H : Type) (enc : TypeId × Value → H) (base : Nat) (sp : Nat → Bool) (held : Bool) (fuel : Nat) (cs : List Value) (x : DataW H × List MemPlace), DataW.trod enc P W base sp held fuel t cs = some x →
    (∀ n ∈ x.1.weights P t, n ≤ reachBytes) → ∃ y, d.K W y cs ∧ G y
section
variable {P : Program} {W : World} {t : TypeId}
theorem opensS_string (ht : P.underlying t = some .string) : OpensS P W t Kd.string (fun s => s.size ≤ reachBytes) := by
  intro H enc base sp held fuel cs x h hw
  obtain ⟨s, rfl, rfl, hs⟩ := DataW.trod_string ht h
  exact ⟨s, rfl, by have := hw s.data.toList.length (by simp [DataW.weights]); rwa [Array.length_toList] at this⟩
theorem opensS_int {k : IntKind} (ht : P.underlying t = some (.int k)) : OpensS P W t (Kd.int k) (fun n => (Lit.int k n).wf = true) := by
  intro H enc base sp held fuel cs x h hw
  obtain ⟨n, rfl, _, hn⟩ := DataW.trod_int ht h
  exact ⟨n, rfl, hn⟩
theorem mem_weightsAll {H : Type} {e : TypeId} {d : DataW H} : ∀ {l : List (DataW H)}, d ∈ l → ∀ n ∈ d.weights P e, n ∈ DataW.weightsAll P e l
  | [], h, _, _ => (List.not_mem_nil h).elim
  | x :: r, h, n, hn => by
    simp only [DataW.weightsAll, List.mem_append]
    rcases List.mem_cons.1 h with rfl | h
    · exact .inl hn
    · exact .inr (mem_weightsAll h n hn)
theorem opensS_slice {α : Type} [Inhabited α] {e : TypeId} {d : Kd α} {G : α → Prop} (ht : P.underlying t = some (.slice e)) (hc : P.cellsOf e = d.sz) (he : OpensS P W e d G) :
    OpensS P W t (Kd.slice e d) (fun l => (∀ y ∈ l, G y) ∧ l.length * P.bytesOf e ≤ reachBytes ∧ l.length ≤ maxLen) := by
  intro H enc base sp held fuel cs x h hw
  rcases Deep.open_slice ht h with ⟨rfl, _⟩ | ⟨a, len, cap, m, n, D, Pl, rfl, hb, hl, hm, hmm, rfl, hx⟩
  · exact ⟨[], ⟨none, 0, rfl, Nat.le_refl _, Kd.C_nil d W⟩, ⟨fun y hy => (List.not_mem_nil hy).elim, by simp, Nat.zero_le _⟩⟩
  have hlm : len ≤ m := by rw [hmm]; split <;> omega
  simp only [DataW.weights, ht] at hw
  have hsz : len * P.bytesOf e ≤ reachBytes := by
    have h1 := hw _ List.mem_cons_self
    rw [List.length_map, List.length_map, List.length_range, List.length_range] at h1
    exact Nat.le_trans (Nat.mul_le_mul_right _ (by omega)) h1
  obtain ⟨Y, hY⟩ := Deep.choose_lt (α := α) (n := len) (p := fun i y => (∃ c, c.length = d.sz ∧ d.K W y c ∧ ∀ j u, c[j]? = some u → W.cell? (a.add (i * d.sz + j)) = some u) ∧ G y) (fun i hi => by
    obtain ⟨cs', h1, h2⟩ := hx i (by omega)
    rw [hc] at h1
    obtain ⟨_, hlen, hcell⟩ := World.cells?_some h1
    obtain ⟨y, hy, hg⟩ := he H enc base sp held n cs' _ h2 (fun k hk => hw k (List.mem_cons_of_mem _ (List.mem_append_left _ (mem_weightsAll (d := D i) (List.mem_map.2 ⟨i, List.mem_range.2 hi, rfl⟩) k hk))))
    refine ⟨y, ⟨cs', hlen, hy, fun j u hj => ?_⟩, hg⟩
    have hjl : j < d.sz := by rw [← hlen]; exact (List.getElem?_eq_some_iff.1 hj).1
    have := hcell j hjl
    rw [Deep.add_add] at this
    rw [this]; exact hj)
  have hl2 : ((List.range len).map Y).length = len := by simp
  refine ⟨(List.range len).map Y, ⟨some a, cap, by rw [hl2], by rw [hl2]; exact hl, ⟨rfl, ?_, fun _ => ⟨a, rfl, fun j p hj => ?_⟩⟩⟩, ⟨fun y hy => ?_, by rw [hl2]; exact hsz, ?_⟩⟩
  · rw [hl2]; unfold maxLen at hm; omega
  · have hjl : j < len := by have := (List.getElem?_eq_some_iff.1 hj).1; simpa using this
    rw [List.getElem?_map, List.getElem?_range hjl] at hj
    obtain rfl := Option.some.inj hj
    exact (hY j hjl).1
  · obtain ⟨i, hi, rfl⟩ := List.mem_map.1 hy
    exact (hY i (List.mem_range.1 hi)).2
  · rw [hl2]; omega
theorem opensS_mono {α : Type} {d : Kd α} {G G' : α → Prop} (h : OpensS P W t d G) (hg : ∀ y, G y → G' y) : OpensS P W t d G' := by
  intro H enc base sp held fuel cs x hx hw
  obtain ⟨y, hy, hG⟩ := h H enc base sp held fuel cs x hx hw
  exact ⟨y, hy, hg y hG⟩
theorem opensS_two {α β γ : Type} {f0 f1 : Field} {a : Kd α} {b : Kd β} {Ga : α → Prop} {Gb : β → Prop} (ht : P.underlying t = some (.struct #[f0, f1])) (hone : oneCellFields P #[f0, f1] = true) (hC : P.cellsOf t = 2)
    (ha : OpensS P W f0.type a Ga) (hb : OpensS P W f1.type b Gb) (f : γ → α × β) (g : α → β → γ) (hfg : ∀ x y, f (g x y) = (x, y)) : OpensS P W t (Kd.iso (Kd.pair a b) f) (fun z => Ga (f z).1 ∧ Gb (f z).2) := by
  intro H enc base sp held fuel cs x h hw
  obtain ⟨y0, y1, n, rfl, hl, h0, h1⟩ := trod_struct2 ht h
  obtain ⟨o0, k0⟩ := Deep.hone_of hone 0 f0 rfl
  obtain ⟨o1, k1⟩ := Deep.hone_of hone 1 f1 rfl
  rw [hC] at hl
  obtain ⟨c0, c1, rfl⟩ : ∃ c0 c1, cs = [c0, c1] := by
    match cs, hl with
    | [c0, c1], _ => exact ⟨c0, c1, rfl⟩
  simp only [DataW.weights, ht, List.map_cons, List.map_nil, DataW.weightsEach, List.append_nil, List.mem_append] at hw
  obtain ⟨x0, hx0, g0⟩ := ha H enc base sp held n [c0] y0 (by simpa [o0, k0] using h0) (fun k hk => hw k (.inl hk))
  obtain ⟨x1, hx1, g1⟩ := hb H enc base sp held n [c1] y1 (by simpa [o1, k1] using h1) (fun k hk => hw k (.inr hk))
  refine ⟨g x0 x1, ?_, ?_⟩
  · show (Kd.pair a b).K W (f (g x0 x1)) [c0, c1]
    rw [hfg]
    exact ⟨[c0], [c1], rfl, hx0, hx1⟩
  · show Ga (f (g x0 x1)).1 ∧ Gb (f (g x0 x1)).2
    rw [hfg]; exact ⟨g0, g1⟩
theorem weigh {H : Type} {ts : List TypeId} {ds : List (DataW H)} (h : (DataW.weightsEach P ts ds).all (· ≤ reachBytes) = true) {j : Nat} {d : DataW H} (ht : ts[j]? = some t) (hd : ds[j]? = some d) : ∀ n ∈ d.weights P t, n ≤ reachBytes := fun n hn =>
  of_decide_eq_true (List.all_eq_true.1 h n (DataW.weights_mem_each ht hd n hn))
end
end Go.Proofs.YtgdcnmpcfoomiaaDoorOpen
end
section
set_option linter.unusedVariables false
set_option linter.unusedSimpArgs false
namespace Go.Proofs.YtgdcnmpcfoomiaaDoor.G
open Go Go.RowKit Go.ChangeShapes Go.Deep Go.Proofs.YtgdcnmpcfoomiaaDoorOpen Go.Proofs.YtgdcnmpcfoomiaaDoorW.PrintWords
instance : Inhabited GRule := ⟨⟨0, []⟩⟩
theorem wf_sym (n : Int) (h : (Lit.int .i64 n).wf = true) : symOk n = true := by
  have e1 : IntKind.i64.min = -9223372036854775808 := by decide
  have e2 : IntKind.i64.max = 9223372036854775807 := by decide
  simp only [Lit.wf, Bool.and_eq_true, decide_eq_true_eq, e1, e2] at h
  unfold symOk
  rw [decide_eq_true_eq]
  omega
theorem opens_rule (W : World) : OpensS Tryd.prog W 35 k35 (fun r => symOk r.f0 = true ∧ r.f1.length ≤ 140737488355328 ∧ ∀ s ∈ r.f1, symOk s = true) := by
  have hi := wf_sym
  have h1 : OpensS Tryd.prog W 33 (Kd.slice 55 (Kd.int .i64)) (fun l => (∀ y ∈ l, (Lit.int .i64 y).wf = true) ∧ l.length * Tryd.prog.bytesOf 55 ≤ reachBytes ∧ l.length ≤ maxLen) :=
    opensS_slice Tryd.underlying33 (by kernel_rfl) (opensS_int Tryd.underlying55)
  have hb : Tryd.prog.bytesOf 55 = 8 := by kernel_rfl
  refine opensS_mono (opensS_two (f := fun x : GRule => (x.f0, x.f1)) (g := fun a b => ⟨a, b⟩) Tryd.underlying35 (by kernel_rfl) (by kernel_rfl) (opensS_int Tryd.underlying3) h1 (fun _ _ => rfl)) ?_
  rintro r ⟨g0, g1, g2, _⟩
  rw [hb] at g2
  unfold reachBytes at g2
  have g2' : r.f1.length * 8 ≤ 0x7ffffffff000 := g2
  exact ⟨hi _ g0, by omega, fun s hs => hi _ (g1 s hs)⟩
set_option maxRecDepth 100000 in
theorem open_gram {H : Type} {enc : TypeId × Value → H} {W : World} {base b0 : Nat} {sp : Nat → Bool} {held : Bool} {r : Reach} {v : Value} {D : DataW H} {p : List MemPlace} (hv : Value.okWide Tryd.prog W r b0 25 v) (h : DataW.Trod enc Tryd.prog W base sp held 25 v D p)
    (hw : ∀ n ∈ D.weights Tryd.prog 25, n ≤ reachBytes) :
    ∃ (A0 : Option Addr) (c0 : Nat) (l0 : List ByteArray) (A1 : Option Addr) (c1 : Nat) (l1 : List ByteArray) (a2 : Int) (A3 : Option Addr) (c3 : Nat) (l3 : List GRule), v = .agg #[.slice A0 l0.length c0, .slice A1 l1.length c1, .int .i64 a2, .slice A3 l3.length c3] ∧
      (Kd.C Kd.string W A0 l0.length l0 ∧ l0.length ≤ c0) ∧ (Kd.C Kd.string W A1 l1.length l1 ∧ l1.length ≤ c1) ∧ (Kd.C k35 W A3 l3.length l3 ∧ l3.length ≤ c3) ∧ GIn l0 l1 a2 l3 := by
  obtain ⟨v0, v1, v2, v3, y0, y1, y2, y3, n, rfl, rfl, rfl, h0, h1, h2, h3⟩ := Joins.open_agg4 Tryd.underlying25 (by kernel_rfl) (by kernel_rfl) hv h
  simp only [DataW.weights, Tryd.underlying25, List.map_cons, List.map_nil, DataW.weightsEach, List.append_nil, List.mem_append] at hw
  have hi := wf_sym
  have hs : OpensS Tryd.prog W 22 (Kd.slice 9 Kd.string) (fun l => (∀ y ∈ l, y.size ≤ reachBytes) ∧ l.length * Tryd.prog.bytesOf 9 ≤ reachBytes ∧ l.length ≤ maxLen) :=
    opensS_slice Tryd.underlying22 (by kernel_rfl) (opensS_string Tryd.underlying9)
  have hr : OpensS Tryd.prog W 23 (Kd.slice 35 k35) (fun l => (∀ r ∈ l, symOk r.f0 = true ∧ r.f1.length ≤ 140737488355328 ∧ ∀ s ∈ r.f1, symOk s = true) ∧ l.length * Tryd.prog.bytesOf 35 ≤ reachBytes ∧ l.length ≤ maxLen) :=
    opensS_slice Tryd.underlying23 (by kernel_rfl) (opens_rule W)
  have hb0 : Tryd.prog.bytesOf 9 = 16 := by kernel_rfl
  have hb3 : Tryd.prog.bytesOf 35 = 32 := by kernel_rfl
  obtain ⟨l0, ⟨A0, c0, e0, hc0, hC0⟩, g0, g0', _⟩ := hs H enc base sp held n [v0] y0 h0 (fun k hk => hw k (.inl hk))
  obtain ⟨l1, ⟨A1, c1, e1, hc1, hC1⟩, g1, g1', _⟩ := hs H enc base sp held n [v1] y1 h1 (fun k hk => hw k (.inr (.inl hk)))
  obtain ⟨a2, e2, g2⟩ := opensS_int Tryd.underlying3 H enc base sp held n [v2] y2 h2 (fun k hk => hw k (.inr (.inr (.inl hk))))
  obtain ⟨l3, ⟨A3, c3, e3, hc3, hC3⟩, g3, g3', _⟩ := hr H enc base sp held n [v3] y3 h3 (fun k hk => hw k (.inr (.inr (.inr hk))))
  injection e0 with e0; injection e1 with e1; injection e2 with e2; injection e3 with e3
  subst e0; subst e1; subst e2; subst e3
  rw [hb0] at g0' g1'
  rw [hb3] at g3'
  unfold reachBytes at g0 g1 g0' g1' g3'
  exact ⟨A0, c0, l0, A1, c1, l1, a2, A3, c3, l3, rfl, ⟨hC0, hc0⟩, ⟨hC1, hc1⟩, ⟨hC3, hc3⟩, ⟨by omega, by omega, by omega, fun s hm => by have := g0 s hm; omega, fun s hm => by have := g1 s hm; omega, hi _ g2, g3⟩⟩
end Go.Proofs.YtgdcnmpcfoomiaaDoor.G
end
section
namespace Go.Proofs.YtgdcnmpcfoomiaaDoor.G
open Go.RowKit Go.Proofs.YtgdcnmpcfoomiaaDoorW.PrintWords Go.Proofs.YtgdcnmpcfoomiaaDoorW.PrintLast Go.Proofs.YtgdcnmpcfoomiaaDoorW.PrintMore
attribute [local go_sem] max2_int min2_int max_two min_two max_three min_three max_four min_four
attribute [local go_sem] Go.Proofs.YtgdcnmpcfoomiaaDoorOwn.isSome_setCell
set_option linter.unusedVariables false
set_option linter.unusedSimpArgs false
def corner_has.f (l0_0 : List ByteArray) (l0_1 : List ByteArray) (a0_2 : Int) (l0_3 : List (S35)) (a1 : Int) : Option (Bool) := (gram_Grammar_Check.f l0_0 l0_1 a0_2 l0_3).bind fun t140 => (if t140 = 0 then (if a1 ≥ 0 then (some (decide (a1 < (l0_0.length : Int)))) else (some false)) else (some false))
set_option maxHeartbeats 8000000 in
set_option maxRecDepth 100000 in
theorem corner_has.calls (A0_0 : Option Addr) (c0_0 : Nat) (l0_0 : List ByteArray) (A0_1 : Option Addr) (c0_1 : Nat) (l0_1 : List ByteArray) (a0_2 : Int) (A0_3 : Option Addr) (c0_3 : Nat) (l0_3 : List (S35)) (a1 : Int) (r : Bool) (w : World) (hG : Laid w) (hr0_0 : Kd.C Kd.string w A0_0 l0_0.length l0_0) (hc0_0 : l0_0.length ≤ c0_0) (hr0_1 : Kd.C Kd.string w A0_1 l0_1.length l0_1) (hc0_1 : l0_1.length ≤ c0_1) (hr0_3 : Kd.C k35 w A0_3 l0_3.length l0_3) (hc0_3 : l0_3.length ≤ c0_3) (h : corner_has.f l0_0 l0_1 a0_2 l0_3 a1 = some r) :
  Calls Tryd.prog 85 #[.agg #[.slice A0_0 l0_0.length c0_0, .slice A0_1 l0_1.length c0_1, .int .i64 a0_2, .slice A0_3 l0_3.length c0_3], .int .i64 a1] w fun e w' => e = .returned (.bool r) ∧ Below w.heap.size w w' := by
 have hu25 := Tryd.underlying25
 have HG := Aside0.mk hG
 clear hG
 have HR0_0 := Aside0.mk hr0_0
 have HC0_0 := Aside0.mk hc0_0
 clear hr0_0 hc0_0
 have HR0_1 := Aside0.mk hr0_1
 have HC0_1 := Aside0.mk hc0_1
 clear hr0_1 hc0_1
 have HR0_3 := Aside0.mk hr0_3
 have HC0_3 := Aside0.mk hc0_3
 clear hr0_3 hc0_3
 have HB := Aside0.mk (Below.refl w.heap.size w)
 have H : ((gram_Grammar_Check.f l0_0 l0_1 a0_2 l0_3).bind fun t140 => (if t140 = 0 then (if a1 ≥ 0 then (some (decide (a1 < (l0_0.length : Int)))) else (some false)) else (some false))) = some r := h
 clear h
 replace H := Option.bind_eq_some_iff.mp H
 obtain ⟨t140, A30, H⟩ := H
 replace H : (if t140 = 0 then (if a1 ≥ 0 then (some (decide (a1 < (l0_0.length : Int)))) else (some false)) else (some false)) = some r := H
 have A3 := Aside0.mk A30
 clear A30
 by_cases c4 : t140 = 0
 ·rw [if_pos c4] at H
  have c4b0 : (t140 == 0) = true := beq_iff_eq.mpr c4
  have c4b1 : (t140 != 0) = false := bne_eq_false_iff_eq.mpr c4
  clear c4
  by_cases c5 : a1 ≥ 0
  ·rw [if_pos c5] at H
   have c5b0 : decide (0 ≤ a1) = true := decide_eq_true c5
   clear c5
   obtain rfl := Option.some.inj H
   go_enter Tryd.func85, Tryd.ntmps85
   go_wp2_with (first | ((with_reducible refine gate_dst (N := 2) rfl ?_); (try (refine gate_guard (by rfl) ?_; dsimp only)); refine box_event ?hg (N := 2) ?hd (cs := #[.slice A0_0 l0_0.length c0_0, .slice A0_1 l0_1.length c0_1, .int .i64 a0_2, .slice A0_3 l0_3.length c0_3]) (t := 25) ?hr ?_; (case hd => rfl); (case hg => rfl); (case hr => first | (go_simp; done) | (go_simp; rfl)); intro gb139 hg w6 hbox hb; have n0_ := Aside0.mk (below_step (by repeat (first | (with_reducible first | exact HB.out | apply below_alloc | apply pw_below_drewN | apply below_drew1) | exact HB.out)) hb); have n1_ := Aside0.mk (hbox); have n2_ := Aside0.mk ((by rw [hg]; exact (below_size (by repeat (first | (with_reducible first | exact HB.out | apply below_alloc | apply pw_below_drewN | apply below_drew1) | exact HB.out))) : w.heap.size ≤ gb139)); have n3_ := Aside0.mk ((by rw [hg]; exact (below_size (by repeat (first | (with_reducible first | exact HB.out | apply below_alloc | apply pw_below_drewN | apply below_drew1) | exact HB.out))) : w.heap.size ≤ gb139)); clear HB; have HB := n0_; have BK139 := n1_; have GW139 := n2_; have GE139 := n3_; clear n0_ n1_ n2_ n3_; clear hb hbox hg; have hcz7_0 : w6.cell? ⟨gb139, 0, none⟩ = some (.slice A0_0 l0_0.length c0_0) := (blk_cell BK139.out 0).trans rfl; have hcz7_1 : w6.cell? ⟨gb139, 1, none⟩ = some (.slice A0_1 l0_1.length c0_1) := (blk_cell BK139.out 1).trans rfl; have hcz7_2 : w6.cell? ⟨gb139, 2, none⟩ = some (.int .i64 a0_2) := (blk_cell BK139.out 2).trans rfl; have hcz7_3 : w6.cell? ⟨gb139, 3, none⟩ = some (.slice A0_3 l0_3.length c0_3) := (blk_cell BK139.out 3).trans rfl; have hfz7_0 := blk_frozen BK139.out 0; have hfz7_1 := blk_frozen BK139.out 1; have hfz7_2 := blk_frozen BK139.out 2; have hfz7_3 := blk_frozen BK139.out 3) | ((with_reducible refine gate_callee (f := 48) rfl ?_); refine goesL_ (some 6) rfl rfl Tryd.func48 (by kernel_rfl) rfl #[.agg #[.slice A0_0 l0_0.length c0_0, .slice A0_1 l0_1.length c0_1, .int .i64 a0_2, .slice A0_3 l0_3.length c0_3]] rfl (by (try simp only [List.map_toArray, List.map_cons, List.map_nil]); first | done | rfl | (simp only [List.length_drop, List.length_take]; rfl)) ?_; (with_reducible refine (gram_Grammar_Check.calls _ _ l0_0 _ _ l0_1 a0_2 _ _ l0_3 t140 _ ?side1 ?side2 ?side3 ?side4 ?side5 ?side6 ?side7 A3.out).mono ?_); (case side1 => exact Laid.below HG.out (by repeat (first | (with_reducible first | exact HB.out | apply below_alloc | apply pw_below_drewN | apply below_drew1 | refine below_set ?_ GE139.out) | exact HB.out))); (case side2 => repeat (first | exact (Kd.C_below HR0_0.out HB.out) | (with_reducible refine Kd.C_alloc ?_ _) | (with_reducible refine Kd.C_drewN ?_ _) | (with_reducible refine Kd.C_drew ?_))); (case side3 => exact HC0_0.out); (case side4 => repeat (first | exact (Kd.C_below HR0_1.out HB.out) | (with_reducible refine Kd.C_alloc ?_ _) | (with_reducible refine Kd.C_drewN ?_ _) | (with_reducible refine Kd.C_drew ?_))); (case side5 => exact HC0_1.out); (case side6 => repeat (first | exact (Kd.C_below HR0_3.out HB.out) | (with_reducible refine Kd.C_alloc ?_ _) | (with_reducible refine Kd.C_drewN ?_ _) | (with_reducible refine Kd.C_drew ?_))); (case side7 => exact HC0_3.out); rintro e w8 ⟨rfl, hb⟩; refine ⟨_, rfl, ?_⟩; have n0_ := Aside0.mk (blk_below (g := gb139) (o := .cells #[.slice A0_0 l0_0.length c0_0, .slice A0_1 l0_1.length c0_1, .int .i64 a0_2, .slice A0_3 l0_3.length c0_3] 25 (0, 0)) (by (with_reducible repeat (first | refine blk_drewN ?_ _ | refine blk_drew ?_ | refine blk_alloc ?_ _)); exact BK139.out) hb); have n1_ := Aside0.mk (below_step (by repeat (first | (with_reducible first | exact HB.out | apply below_alloc | apply pw_below_drewN | apply below_drew1 | refine below_set ?_ GE139.out) | exact HB.out)) hb); clear BK139; clear HB; have BK139 := n0_; have HB := n1_; clear n0_ n1_; (try clear hb); (try clear hb2); (try clear hk); (try clear hi); have hcz9_0 : w8.cell? ⟨gb139, 0, none⟩ = some (.slice A0_0 l0_0.length c0_0) := (blk_cell BK139.out 0).trans rfl; have hcz9_1 : w8.cell? ⟨gb139, 1, none⟩ = some (.slice A0_1 l0_1.length c0_1) := (blk_cell BK139.out 1).trans rfl; have hcz9_2 : w8.cell? ⟨gb139, 2, none⟩ = some (.int .i64 a0_2) := (blk_cell BK139.out 2).trans rfl; have hcz9_3 : w8.cell? ⟨gb139, 3, none⟩ = some (.slice A0_3 l0_3.length c0_3) := (blk_cell BK139.out 3).trans rfl; have hfz9_0 := blk_frozen BK139.out 0; have hfz9_1 := blk_frozen BK139.out 1; have hfz9_2 := blk_frozen BK139.out 2; have hfz9_3 := blk_frozen BK139.out 3))
   go_ret
   exact ⟨by first | rfl | (simp [errW_none, errW_some] <;> rfl) | (simp [*, errW_none, errW_some] <;> rfl), by repeat (first | (with_reducible first | exact HB.out | apply below_alloc | apply pw_below_drewN | apply below_drew1 | refine below_set ?_ GE139.out) | exact HB.out)⟩
  ·rw [if_neg c5] at H
   have c5b0 : decide (0 ≤ a1) = false := decide_eq_false c5
   clear c5
   obtain rfl := Option.some.inj H
   go_enter Tryd.func85, Tryd.ntmps85
   go_wp2_with (first | ((with_reducible refine gate_dst (N := 2) rfl ?_); (try (refine gate_guard (by rfl) ?_; dsimp only)); refine box_event ?hg (N := 2) ?hd (cs := #[.slice A0_0 l0_0.length c0_0, .slice A0_1 l0_1.length c0_1, .int .i64 a0_2, .slice A0_3 l0_3.length c0_3]) (t := 25) ?hr ?_; (case hd => rfl); (case hg => rfl); (case hr => first | (go_simp; done) | (go_simp; rfl)); intro gb139 hg w10 hbox hb; have n0_ := Aside0.mk (below_step (by repeat (first | (with_reducible first | exact HB.out | apply below_alloc | apply pw_below_drewN | apply below_drew1) | exact HB.out)) hb); have n1_ := Aside0.mk (hbox); have n2_ := Aside0.mk ((by rw [hg]; exact (below_size (by repeat (first | (with_reducible first | exact HB.out | apply below_alloc | apply pw_below_drewN | apply below_drew1) | exact HB.out))) : w.heap.size ≤ gb139)); have n3_ := Aside0.mk ((by rw [hg]; exact (below_size (by repeat (first | (with_reducible first | exact HB.out | apply below_alloc | apply pw_below_drewN | apply below_drew1) | exact HB.out))) : w.heap.size ≤ gb139)); clear HB; have HB := n0_; have BK139 := n1_; have GW139 := n2_; have GE139 := n3_; clear n0_ n1_ n2_ n3_; clear hb hbox hg; have hcz11_0 : w10.cell? ⟨gb139, 0, none⟩ = some (.slice A0_0 l0_0.length c0_0) := (blk_cell BK139.out 0).trans rfl; have hcz11_1 : w10.cell? ⟨gb139, 1, none⟩ = some (.slice A0_1 l0_1.length c0_1) := (blk_cell BK139.out 1).trans rfl; have hcz11_2 : w10.cell? ⟨gb139, 2, none⟩ = some (.int .i64 a0_2) := (blk_cell BK139.out 2).trans rfl; have hcz11_3 : w10.cell? ⟨gb139, 3, none⟩ = some (.slice A0_3 l0_3.length c0_3) := (blk_cell BK139.out 3).trans rfl; have hfz11_0 := blk_frozen BK139.out 0; have hfz11_1 := blk_frozen BK139.out 1; have hfz11_2 := blk_frozen BK139.out 2; have hfz11_3 := blk_frozen BK139.out 3) | ((with_reducible refine gate_callee (f := 48) rfl ?_); refine goesL_ (some 6) rfl rfl Tryd.func48 (by kernel_rfl) rfl #[.agg #[.slice A0_0 l0_0.length c0_0, .slice A0_1 l0_1.length c0_1, .int .i64 a0_2, .slice A0_3 l0_3.length c0_3]] rfl (by (try simp only [List.map_toArray, List.map_cons, List.map_nil]); first | done | rfl | (simp only [List.length_drop, List.length_take]; rfl)) ?_; (with_reducible refine (gram_Grammar_Check.calls _ _ l0_0 _ _ l0_1 a0_2 _ _ l0_3 t140 _ ?side1 ?side2 ?side3 ?side4 ?side5 ?side6 ?side7 A3.out).mono ?_); (case side1 => exact Laid.below HG.out (by repeat (first | (with_reducible first | exact HB.out | apply below_alloc | apply pw_below_drewN | apply below_drew1 | refine below_set ?_ GE139.out) | exact HB.out))); (case side2 => repeat (first | exact (Kd.C_below HR0_0.out HB.out) | (with_reducible refine Kd.C_alloc ?_ _) | (with_reducible refine Kd.C_drewN ?_ _) | (with_reducible refine Kd.C_drew ?_))); (case side3 => exact HC0_0.out); (case side4 => repeat (first | exact (Kd.C_below HR0_1.out HB.out) | (with_reducible refine Kd.C_alloc ?_ _) | (with_reducible refine Kd.C_drewN ?_ _) | (with_reducible refine Kd.C_drew ?_))); (case side5 => exact HC0_1.out); (case side6 => repeat (first | exact (Kd.C_below HR0_3.out HB.out) | (with_reducible refine Kd.C_alloc ?_ _) | (with_reducible refine Kd.C_drewN ?_ _) | (with_reducible refine Kd.C_drew ?_))); (case side7 => exact HC0_3.out); rintro e w12 ⟨rfl, hb⟩; refine ⟨_, rfl, ?_⟩; have n0_ := Aside0.mk (blk_below (g := gb139) (o := .cells #[.slice A0_0 l0_0.length c0_0, .slice A0_1 l0_1.length c0_1, .int .i64 a0_2, .slice A0_3 l0_3.length c0_3] 25 (0, 0)) (by (with_reducible repeat (first | refine blk_drewN ?_ _ | refine blk_drew ?_ | refine blk_alloc ?_ _)); exact BK139.out) hb); have n1_ := Aside0.mk (below_step (by repeat (first | (with_reducible first | exact HB.out | apply below_alloc | apply pw_below_drewN | apply below_drew1 | refine below_set ?_ GE139.out) | exact HB.out)) hb); clear BK139; clear HB; have BK139 := n0_; have HB := n1_; clear n0_ n1_; (try clear hb); (try clear hb2); (try clear hk); (try clear hi)))
   go_ret
   exact ⟨by first | rfl | (simp [errW_none, errW_some] <;> rfl) | (simp [*, errW_none, errW_some] <;> rfl), by repeat (first | (with_reducible first | exact HB.out | apply below_alloc | apply pw_below_drewN | apply below_drew1 | refine below_set ?_ GE139.out) | exact HB.out)⟩
 ·rw [if_neg c4] at H
  have c4b0 : (t140 == 0) = false := beq_eq_false_iff_ne.mpr c4
  have c4b1 : (t140 != 0) = true := bne_iff_ne.mpr c4
  obtain rfl := Option.some.inj H
  go_enter Tryd.func85, Tryd.ntmps85
  go_wp2_with (first | ((with_reducible refine gate_dst (N := 2) rfl ?_); (try (refine gate_guard (by rfl) ?_; dsimp only)); refine box_event ?hg (N := 2) ?hd (cs := #[.slice A0_0 l0_0.length c0_0, .slice A0_1 l0_1.length c0_1, .int .i64 a0_2, .slice A0_3 l0_3.length c0_3]) (t := 25) ?hr ?_; (case hd => rfl); (case hg => rfl); (case hr => first | (go_simp; done) | (go_simp; rfl)); intro gb139 hg w13 hbox hb; have n0_ := Aside0.mk (below_step (by repeat (first | (with_reducible first | exact HB.out | apply below_alloc | apply pw_below_drewN | apply below_drew1) | exact HB.out)) hb); have n1_ := Aside0.mk (hbox); have n2_ := Aside0.mk ((by rw [hg]; exact (below_size (by repeat (first | (with_reducible first | exact HB.out | apply below_alloc | apply pw_below_drewN | apply below_drew1) | exact HB.out))) : w.heap.size ≤ gb139)); have n3_ := Aside0.mk ((by rw [hg]; exact (below_size (by repeat (first | (with_reducible first | exact HB.out | apply below_alloc | apply pw_below_drewN | apply below_drew1) | exact HB.out))) : w.heap.size ≤ gb139)); clear HB; have HB := n0_; have BK139 := n1_; have GW139 := n2_; have GE139 := n3_; clear n0_ n1_ n2_ n3_; clear hb hbox hg; have hcz14_0 : w13.cell? ⟨gb139, 0, none⟩ = some (.slice A0_0 l0_0.length c0_0) := (blk_cell BK139.out 0).trans rfl; have hcz14_1 : w13.cell? ⟨gb139, 1, none⟩ = some (.slice A0_1 l0_1.length c0_1) := (blk_cell BK139.out 1).trans rfl; have hcz14_2 : w13.cell? ⟨gb139, 2, none⟩ = some (.int .i64 a0_2) := (blk_cell BK139.out 2).trans rfl; have hcz14_3 : w13.cell? ⟨gb139, 3, none⟩ = some (.slice A0_3 l0_3.length c0_3) := (blk_cell BK139.out 3).trans rfl; have hfz14_0 := blk_frozen BK139.out 0; have hfz14_1 := blk_frozen BK139.out 1; have hfz14_2 := blk_frozen BK139.out 2; have hfz14_3 := blk_frozen BK139.out 3) | ((with_reducible refine gate_callee (f := 48) rfl ?_); refine goesL_ (some 6) rfl rfl Tryd.func48 (by kernel_rfl) rfl #[.agg #[.slice A0_0 l0_0.length c0_0, .slice A0_1 l0_1.length c0_1, .int .i64 a0_2, .slice A0_3 l0_3.length c0_3]] rfl (by (try simp only [List.map_toArray, List.map_cons, List.map_nil]); first | done | rfl | (simp only [List.length_drop, List.length_take]; rfl)) ?_; (with_reducible refine (gram_Grammar_Check.calls _ _ l0_0 _ _ l0_1 a0_2 _ _ l0_3 t140 _ ?side1 ?side2 ?side3 ?side4 ?side5 ?side6 ?side7 A3.out).mono ?_); (case side1 => exact Laid.below HG.out (by repeat (first | (with_reducible first | exact HB.out | apply below_alloc | apply pw_below_drewN | apply below_drew1 | refine below_set ?_ GE139.out) | exact HB.out))); (case side2 => repeat (first | exact (Kd.C_below HR0_0.out HB.out) | (with_reducible refine Kd.C_alloc ?_ _) | (with_reducible refine Kd.C_drewN ?_ _) | (with_reducible refine Kd.C_drew ?_))); (case side3 => exact HC0_0.out); (case side4 => repeat (first | exact (Kd.C_below HR0_1.out HB.out) | (with_reducible refine Kd.C_alloc ?_ _) | (with_reducible refine Kd.C_drewN ?_ _) | (with_reducible refine Kd.C_drew ?_))); (case side5 => exact HC0_1.out); (case side6 => repeat (first | exact (Kd.C_below HR0_3.out HB.out) | (with_reducible refine Kd.C_alloc ?_ _) | (with_reducible refine Kd.C_drewN ?_ _) | (with_reducible refine Kd.C_drew ?_))); (case side7 => exact HC0_3.out); rintro e w15 ⟨rfl, hb⟩; refine ⟨_, rfl, ?_⟩; have n0_ := Aside0.mk (blk_below (g := gb139) (o := .cells #[.slice A0_0 l0_0.length c0_0, .slice A0_1 l0_1.length c0_1, .int .i64 a0_2, .slice A0_3 l0_3.length c0_3] 25 (0, 0)) (by (with_reducible repeat (first | refine blk_drewN ?_ _ | refine blk_drew ?_ | refine blk_alloc ?_ _)); exact BK139.out) hb); have n1_ := Aside0.mk (below_step (by repeat (first | (with_reducible first | exact HB.out | apply below_alloc | apply pw_below_drewN | apply below_drew1 | refine below_set ?_ GE139.out) | exact HB.out)) hb); clear BK139; clear HB; have BK139 := n0_; have HB := n1_; clear n0_ n1_; (try clear hb); (try clear hb2); (try clear hk); (try clear hi)))
  go_ret
  exact ⟨by first | rfl | (simp [errW_none, errW_some] <;> rfl) | (simp [*, errW_none, errW_some] <;> rfl), by repeat (first | (with_reducible first | exact HB.out | apply below_alloc | apply pw_below_drewN | apply below_drew1 | refine below_set ?_ GE139.out) | exact HB.out)⟩
def corner_first.f (a0_0 : Int) (l0_1 : List Int) : Option (Int) := if (l0_1.length : Int) = 0 then (some (-1)) else (if 0 < (l0_1.length : Int) then ((gram_Sym_IsTerm.f (rd l0_1 0)).bind fun t143 => (if t143 = true then (some (-1)) else ((gram_Sym_Place.f (rd l0_1 0)).bind fun t145 => (some t145)))) else (none))
set_option maxHeartbeats 8000000 in
set_option maxRecDepth 100000 in
theorem corner_first.calls (a0_0 : Int) (A0_1 : Option Addr) (c0_1 : Nat) (l0_1 : List Int) (r : Int) (w : World) (hr0_1 : Kd.C (Kd.int .i64) w A0_1 l0_1.length l0_1) (hc0_1 : l0_1.length ≤ c0_1) (h : corner_first.f a0_0 l0_1 = some r) :
  Calls Tryd.prog 86 #[.agg #[.int .i64 a0_0, .slice A0_1 l0_1.length c0_1]] w fun e w' => e = .returned (.int .i64 r) ∧ Below w.heap.size w w' := by
 have hu35 := Tryd.underlying35
 have HR0_1 := Aside0.mk hr0_1
 have HC0_1 := Aside0.mk hc0_1
 clear hr0_1 hc0_1
 have HB := Aside0.mk (Below.refl w.heap.size w)
 have H : (if (l0_1.length : Int) = 0 then (some (-1)) else (if 0 < (l0_1.length : Int) then ((gram_Sym_IsTerm.f (rd l0_1 0)).bind fun t143 => (if t143 = true then (some (-1)) else ((gram_Sym_Place.f (rd l0_1 0)).bind fun t145 => (some t145)))) else (none))) = some r := h
 clear h
 by_cases c2 : (l0_1.length : Int) = 0
 ·rw [if_pos c2] at H
  have c2b0 : ((l0_1.length : Int) == 0) = true := beq_iff_eq.mpr c2
  have c2b1 : ((l0_1.length : Int) != 0) = false := bne_eq_false_iff_eq.mpr c2
  clear c2
  obtain rfl := Option.some.inj H
  go_enter Tryd.func86, Tryd.ntmps86
  go_wp2_with (first | ((with_reducible refine gate_dst (N := 1) rfl ?_); refine box_event ?hg (N := 1) ?hd (cs := #[.int .i64 a0_0, .slice A0_1 l0_1.length c0_1]) (t := 35) ?hr ?_; (case hd => rfl); (case hg => rfl); (case hr => first | (go_simp; done) | (go_simp; rfl)); intro gb141 hg w3 hbox hb; have n0_ := Aside0.mk (below_step (by repeat (first | (with_reducible first | exact HB.out | apply below_alloc | apply pw_below_drewN | apply below_drew1) | exact HB.out)) hb); have n1_ := Aside0.mk (hbox); have n2_ := Aside0.mk ((by rw [hg]; exact (below_size (by repeat (first | (with_reducible first | exact HB.out | apply below_alloc | apply pw_below_drewN | apply below_drew1) | exact HB.out))) : w.heap.size ≤ gb141)); have n3_ := Aside0.mk ((by rw [hg]; exact (below_size (by repeat (first | (with_reducible first | exact HB.out | apply below_alloc | apply pw_below_drewN | apply below_drew1) | exact HB.out))) : w.heap.size ≤ gb141)); clear HB; have HB := n0_; have BK141 := n1_; have GW141 := n2_; have GE141 := n3_; clear n0_ n1_ n2_ n3_; clear hb hbox hg; have hcz4_0 : w3.cell? ⟨gb141, 0, none⟩ = some (.int .i64 a0_0) := (blk_cell BK141.out 0).trans rfl; have hcz4_1 : w3.cell? ⟨gb141, 1, none⟩ = some (.slice A0_1 l0_1.length c0_1) := (blk_cell BK141.out 1).trans rfl; have hfz4_0 := blk_frozen BK141.out 0; have hfz4_1 := blk_frozen BK141.out 1))
  go_ret
  exact ⟨by first | rfl | (simp [errW_none, errW_some] <;> rfl) | (simp [*, errW_none, errW_some] <;> rfl), by repeat (first | (with_reducible first | exact HB.out | apply below_alloc | apply pw_below_drewN | apply below_drew1 | refine below_set ?_ GE141.out) | exact HB.out)⟩
 ·rw [if_neg c2] at H
  have c2b0 : ((l0_1.length : Int) == 0) = false := beq_eq_false_iff_ne.mpr c2
  have c2b1 : ((l0_1.length : Int) != 0) = true := bne_iff_ne.mpr c2
  have c2b2 : ¬ (l0_1 = []) := fun h_ => c2 (by rw [h_]; rfl)
  by_cases c5 : 0 < (l0_1.length : Int)
  ·rw [if_pos c5] at H
   have c5b0 : decide (0 < (l0_1.length : Int)) = true := decide_eq_true c5
   have c5b1 : decide (0 < l0_1.length) = true := decide_eq_true (by omega)
   clear c5
   replace H := Option.bind_eq_some_iff.mp H
   obtain ⟨t143, A60, H⟩ := H
   replace H : (if t143 = true then (some (-1)) else ((gram_Sym_Place.f (rd l0_1 0)).bind fun t145 => (some t145))) = some r := H
   have A6 := Aside0.mk A60
   clear A60
   by_cases c7 : t143 = true
   ·subst c7
    have H1 : (some (-1)) = some r := by rw [if_pos rfl] at H; exact H
    clear H
    have H := H1
    clear H1
    obtain rfl := Option.some.inj H
    go_enter Tryd.func86, Tryd.ntmps86
    go_wp2_with (first | ((with_reducible refine gate_dst (N := 1) rfl ?_); refine box_event ?hg (N := 1) ?hd (cs := #[.int .i64 a0_0, .slice A0_1 l0_1.length c0_1]) (t := 35) ?hr ?_; (case hd => rfl); (case hg => rfl); (case hr => first | (go_simp; done) | (go_simp; rfl)); intro gb141 hg w8 hbox hb; have n0_ := Aside0.mk (below_step (by repeat (first | (with_reducible first | exact HB.out | apply below_alloc | apply pw_below_drewN | apply below_drew1) | exact HB.out)) hb); have n1_ := Aside0.mk (hbox); have n2_ := Aside0.mk ((by rw [hg]; exact (below_size (by repeat (first | (with_reducible first | exact HB.out | apply below_alloc | apply pw_below_drewN | apply below_drew1) | exact HB.out))) : w.heap.size ≤ gb141)); have n3_ := Aside0.mk ((by rw [hg]; exact (below_size (by repeat (first | (with_reducible first | exact HB.out | apply below_alloc | apply pw_below_drewN | apply below_drew1) | exact HB.out))) : w.heap.size ≤ gb141)); clear HB; have HB := n0_; have BK141 := n1_; have GW141 := n2_; have GE141 := n3_; clear n0_ n1_ n2_ n3_; clear hb hbox hg; have hcz9_0 : w8.cell? ⟨gb141, 0, none⟩ = some (.int .i64 a0_0) := (blk_cell BK141.out 0).trans rfl; have hcz9_1 : w8.cell? ⟨gb141, 1, none⟩ = some (.slice A0_1 l0_1.length c0_1) := (blk_cell BK141.out 1).trans rfl; have hfz9_0 := blk_frozen BK141.out 0; have hfz9_1 := blk_frozen BK141.out 1; have p142 : 0 ≤ (0 : Int) := (by omega); have q142 : 0 < (l0_1.length : Int) := of_decide_eq_true (by first | (with_reducible assumption) | assumption); obtain ⟨ad142, e142, hx142_0⟩ := Kd.at_int HR0_1.out 0 p142 q142; cases e142; have qi142 : (0 < l0_1.length) = True := eq_true (by omega); (try rw [show ((0 : Int)).toNat = 0 from rfl] at hx142_0); (try rw [Addr.add_zero'] at hx142_0); replace hx142_0 := (HB.out.cell (World.block_lt_of_cell? w _ hx142_0)).trans hx142_0; replace p142 := eq_true p142; replace q142 := eq_true q142) | (go_at_call 33; (with_reducible refine (gram_Sym_IsTerm.calls (rd l0_1 0) true _ A6.out).mono ?_); rintro e w' ⟨rfl, ⟨nd, rfl⟩⟩))
    go_ret
    exact ⟨by first | rfl | (simp [errW_none, errW_some] <;> rfl) | (simp [*, errW_none, errW_some] <;> rfl), by repeat (first | (with_reducible first | exact HB.out | apply below_alloc | apply pw_below_drewN | apply below_drew1 | refine below_set ?_ GE141.out) | exact HB.out)⟩
   ·replace c7 := Bool.eq_false_iff.mpr c7
    subst c7
    have H1 : ((gram_Sym_Place.f (rd l0_1 0)).bind fun t145 => (some t145)) = some r := by rw [if_neg (show ¬ (false = true) by decide)] at H; exact H
    clear H
    have H := H1
    clear H1
    replace H := Option.bind_eq_some_iff.mp H
    obtain ⟨t145, A100, H⟩ := H
    replace H : (some t145) = some r := H
    have A10 := Aside0.mk A100
    clear A100
    obtain rfl := Option.some.inj H
    go_enter Tryd.func86, Tryd.ntmps86
    go_wp2_with (first | ((with_reducible refine gate_dst (N := 1) rfl ?_); refine box_event ?hg (N := 1) ?hd (cs := #[.int .i64 a0_0, .slice A0_1 l0_1.length c0_1]) (t := 35) ?hr ?_; (case hd => rfl); (case hg => rfl); (case hr => first | (go_simp; done) | (go_simp; rfl)); intro gb141 hg w11 hbox hb; have n0_ := Aside0.mk (below_step (by repeat (first | (with_reducible first | exact HB.out | apply below_alloc | apply pw_below_drewN | apply below_drew1) | exact HB.out)) hb); have n1_ := Aside0.mk (hbox); have n2_ := Aside0.mk ((by rw [hg]; exact (below_size (by repeat (first | (with_reducible first | exact HB.out | apply below_alloc | apply pw_below_drewN | apply below_drew1) | exact HB.out))) : w.heap.size ≤ gb141)); have n3_ := Aside0.mk ((by rw [hg]; exact (below_size (by repeat (first | (with_reducible first | exact HB.out | apply below_alloc | apply pw_below_drewN | apply below_drew1) | exact HB.out))) : w.heap.size ≤ gb141)); clear HB; have HB := n0_; have BK141 := n1_; have GW141 := n2_; have GE141 := n3_; clear n0_ n1_ n2_ n3_; clear hb hbox hg; have hcz12_0 : w11.cell? ⟨gb141, 0, none⟩ = some (.int .i64 a0_0) := (blk_cell BK141.out 0).trans rfl; have hcz12_1 : w11.cell? ⟨gb141, 1, none⟩ = some (.slice A0_1 l0_1.length c0_1) := (blk_cell BK141.out 1).trans rfl; have hfz12_0 := blk_frozen BK141.out 0; have hfz12_1 := blk_frozen BK141.out 1; have p142 : 0 ≤ (0 : Int) := (by omega); have q142 : 0 < (l0_1.length : Int) := of_decide_eq_true (by first | (with_reducible assumption) | assumption); obtain ⟨ad142, e142, hx142_0⟩ := Kd.at_int HR0_1.out 0 p142 q142; cases e142; have qi142 : (0 < l0_1.length) = True := eq_true (by omega); (try rw [show ((0 : Int)).toNat = 0 from rfl] at hx142_0); (try rw [Addr.add_zero'] at hx142_0); replace hx142_0 := (HB.out.cell (World.block_lt_of_cell? w _ hx142_0)).trans hx142_0; replace p142 := eq_true p142; replace q142 := eq_true q142) | (go_at_call 33; (with_reducible refine (gram_Sym_IsTerm.calls (rd l0_1 0) false _ A6.out).mono ?_); rintro e w' ⟨rfl, ⟨nd, rfl⟩⟩; have p144 : 0 ≤ (0 : Int) := (by omega); have q144 : 0 < (l0_1.length : Int) := of_decide_eq_true (by first | (with_reducible assumption) | assumption); obtain ⟨ad144, e144, hx144_0⟩ := Kd.at_int HR0_1.out 0 p144 q144; obtain rfl : ad142 = ad144 := (by injection e144); have qi144 : (0 < l0_1.length) = True := eq_true (by omega); (try rw [show ((0 : Int)).toNat = 0 from rfl] at hx144_0); (try rw [Addr.add_zero'] at hx144_0); replace hx144_0 := (HB.out.cell (World.block_lt_of_cell? w _ hx144_0)).trans hx144_0; replace p144 := eq_true p144; replace q144 := eq_true q144) | ((with_reducible refine gate_callee (f := 34) rfl ?_); refine goesL_ (some 18) rfl rfl Tryd.func34 (by kernel_rfl) rfl #[.int .i64 (rd l0_1 0)] rfl (by (try simp only [List.map_toArray, List.map_cons, List.map_nil]); first | done | rfl | (simp only [List.length_drop, List.length_take]; rfl)) ?_; (with_reducible refine (gram_Sym_Place.calls (rd l0_1 0) t145 _ A10.out).mono ?_); rintro e w' ⟨rfl, ⟨nd, rfl⟩⟩; refine ⟨_, rfl, ?_⟩))
    go_ret
    exact ⟨by first | rfl | (simp [errW_none, errW_some] <;> rfl) | (simp [*, errW_none, errW_some] <;> rfl), by repeat (first | (with_reducible first | exact HB.out | apply below_alloc | apply pw_below_drewN | apply below_drew1 | refine below_set ?_ GE141.out) | exact HB.out)⟩
  ·rw [if_neg c5] at H
   exact absurd H (by simp)
end Go.Proofs.YtgdcnmpcfoomiaaDoor.G
end
section
set_option linter.unusedVariables false
set_option linter.unusedSimpArgs false
namespace Go.Proofs.YtgdcnmpcfoomiaaDoor.G
open Go Go.Proofs Go.RowKit Go.Proofs.YtgdcnmpcfoomiaaDoorW.PrintWords
def firstI (r : GRule) : Int := match r.f1 with
  | [] => -1
  | s :: _ => if s < 0 then -1 else s
def hitB (a : Int) (out : List Bool) (r : GRule) : Bool := decide (0 ≤ firstI r) && (!(out.getD (firstI r).toNat true) && (decide (r.f0 = a) || out.getD r.f0.toNat false))
def bloop (a : Int) (l3 : List GRule) : Nat → List Bool → List Bool
  | 0, out => out
  | k + 1, out => match l3.find? (hitB a out) with
    | none => out
    | some r => bloop a l3 k (out.set (firstI r).toNat true)
def begC (l0 l1 : List ByteArray) (a2 : Int) (l3 : List GRule) (a : Int) : List Bool :=
  if checkC nmB mkB l0 l1 a2 l3 = 0 ∧ 0 ≤ a ∧ a < l0.length then bloop a l3 l0.length (List.replicate l0.length false) else []
theorem first_f (r : GRule) (h : ruleOk r = true) : corner_first.f r.f0 r.f1 = some (firstI r) := by
  obtain ⟨f0, l⟩ := r
  unfold corner_first.f firstI
  cases l with
  | nil => simp
  | cons s l =>
    have hs : symOk s = true := by
      simp only [ruleOk, Bool.and_eq_true] at h
      exact List.all_eq_true.1 h.2 s (by simp)
    rw [if_neg (by simp; omega), if_pos (by simp), show rd (s :: l) 0 = s from rfl, isTerm_f, Option.bind_some, place_f s hs]
    by_cases h0 : s < 0
    · rw [if_pos (decide_eq_true h0)]; simp [h0]
    · rw [if_neg (by simp [h0])]; simp [h0]
theorem cornhas_f (l0 l1 : List ByteArray) (a2 : Int) (l3 : List GRule) (a : Int) (h : gramOk l0 l1 a2 l3 = true) : corner_has.f l0 l1 a2 l3 a = some (decide (checkC nmB mkB l0 l1 a2 l3 = 0 ∧ 0 ≤ a ∧ a < l0.length)) := by
  unfold corner_has.f gram_Grammar_Check.f
  rw [if_pos h, Option.bind_some]
  by_cases hc : checkC nmB mkB l0 l1 a2 l3 = 0
  · rw [if_pos hc]
    by_cases ha : 0 ≤ a
    · rw [if_pos (show a ≥ 0 from ha)]; simp [hc, ha]
    · rw [if_neg (show ¬ a ≥ 0 from ha)]; simp [ha]
  · rw [if_neg hc]; simp [hc]
theorem check_zero {l0 l1 : List ByteArray} {a2 : Int} {l3 : List GRule} (h : checkC nmB mkB l0 l1 a2 l3 = 0) :
    1 ≤ l0.length ∧ l0.length ≤ 2048 ∧ l1.length ≤ 2048 ∧ l3.length ≤ 8192 ∧ 0 ≤ a2 ∧ a2 < l0.length ∧ (∀ r ∈ l3, 0 ≤ r.f0 ∧ r.f0 < l0.length ∧ r.f1.length ≤ 64 ∧ ∀ s ∈ r.f1, hasB l0.length l1.length s = true) ∧ l3.Nodup := by
  unfold checkC at h
  split at h
  · cases h
  rename_i h1
  split at h
  · cases h
  split at h
  · cases h
  split at h
  · cases h
  rename_i h4
  have hr : (∀ r ∈ l3, ruleC l0.length l1.length r = 0) ∧ l3.Nodup := by
    unfold rulesC at h
    split at h
    · rename_i r hf
      have := List.find?_some hf
      simp [h] at this
    · rename_i hf
      refine ⟨fun r hr => ?_, ?_⟩
      · have := List.find?_eq_none.1 hf r hr
        simpa using this
      · split at h
        · assumption
        · cases h
  refine ⟨by omega, by omega, by omega, by omega, by omega, by omega, fun r hm => ?_, hr.2⟩
  have h5 := hr.1 r hm
  unfold ruleC at h5
  split at h5
  · cases h5
  rename_i h6
  split at h5
  · cases h5
  rename_i h7
  have h8 : r.f1.all (hasB l0.length l1.length) = true := by
    by_cases h9 : r.f1.all (hasB l0.length l1.length) = true
    · exact h9
    · exact absurd (.inr (.inr h9)) h6
  exact ⟨by omega, by omega, by omega, fun s hs => List.all_eq_true.1 h8 s hs⟩
theorem first_lt {n m : Nat} {r : GRule} (h : ∀ s ∈ r.f1, hasB n m s = true) : firstI r < n ∨ firstI r = -1 := by
  unfold firstI
  split
  · exact .inr rfl
  · rename_i s l hl
    have := h s (by rw [hl]; simp)
    unfold hasB at this
    by_cases h0 : s < 0
    · rw [if_pos h0]; exact .inr rfl
    · rw [if_neg h0] at this ⊢
      exact .inl (of_decide_eq_true this)
theorem R_shape {α : Type} {d : Kd α} {e base : Nat} {ok : Nat → Prop} {w : World} {v : Value} {xs : List α} (h : Kd.R d e w base ok v xs) (hn : 0 < xs.length) : ∃ g cap, v = .slice (some ⟨g, 0, none⟩) xs.length cap ∧ base ≤ g := by
  obtain ⟨inner, ho⟩ := Kd.R_own h
  rcases ho.2 with ⟨_, h0⟩ | ⟨g, cap, cur, hv, hg, _⟩
  · omega
  · exact ⟨g, cap, hv, hg⟩
theorem getD_set_true (xs : List Bool) (i j : Nat) (z : Bool) : (xs.set i true).getD j z = if i = j ∧ i < xs.length then true else xs.getD j z := by
  rw [List.getD_eq_getElem?_getD, List.getElem?_set, List.getD_eq_getElem?_getD]
  by_cases h : i = j
  · subst h
    by_cases h2 : i < xs.length
    · simp [h2]
    · simp [h2]
  · simp [h]
theorem count_set_true : ∀ (xs : List Bool) (i : Nat), i < xs.length → xs.getD i true = false → (xs.set i true).count false + 1 = xs.count false := by
  intro xs
  induction xs with
  | nil => intro i h; exact absurd h (by simp)
  | cons a xs ih =>
    intro i h hf
    cases i with
    | zero =>
      simp at hf
      subst hf
      simp
    | succ i =>
      have := ih i (by simpa using h) (by simpa using hf)
      simp only [List.set_cons_succ, List.count_cons]
      omega
theorem count_pos_false {xs : List Bool} {i : Nat} (h : i < xs.length) (hf : xs.getD i true = false) : 1 ≤ xs.count false := by
  have := count_set_true xs i h hf; omega
theorem rdOf_getD {α : Type} (z : α) (l : List α) (i : Nat) : rdOf z l (i : Int) = l.getD i z := by rw [rdOf, Int.toNat_natCast]
theorem getD_any {xs : List Bool} {i : Nat} (h : i < xs.length) (a b : Bool) : xs.getD i a = xs.getD i b := by
  rw [List.getD_eq_getElem?_getD, List.getD_eq_getElem?_getD, List.getElem?_eq_getElem h]; rfl
theorem find_at {α : Type} {p : α → Bool} {l : List α} {j : Nat} (h : ∀ x ∈ l.take j, p x = false) (hj : j < l.length) (hp : p l[j] = true) : l.find? p = some l[j] := by
  rw [List.find?_eq_some_iff_append]
  refine ⟨hp, l.take j, l.drop (j + 1), ?_, fun a ha => by rw [h a ha]; rfl⟩
  rw [← List.drop_eq_getElem_cons hj, List.take_append_drop]
theorem gram_rules_ok {l0 l1 : List ByteArray} {a2 : Int} {l3 : List GRule} (h : gramOk l0 l1 a2 l3 = true) : l3.all ruleOk = true := by
  simp only [gramOk, Bool.and_eq_true] at h
  exact h.2
set_option maxHeartbeats 8000000 in
set_option maxRecDepth 100000 in
theorem begins_calls (A0 : Option Addr) (c0 : Nat) (l0 : List ByteArray) (A1 : Option Addr) (c1 : Nat) (l1 : List ByteArray) (a2 : Int) (A3 : Option Addr) (c3 : Nat) (l3 : List GRule) (a : Int) (hok : gramOk l0 l1 a2 l3 = true)
    (w : World) (hG : Laid w) (hr0 : Kd.C Kd.string w A0 l0.length l0) (hc0 : l0.length ≤ c0) (hr1 : Kd.C Kd.string w A1 l1.length l1) (hc1 : l1.length ≤ c1) (hr3 : Kd.C k35 w A3 l3.length l3) (hc3 : l3.length ≤ c3) :
    Calls Tryd.prog 84 #[.agg #[.slice A0 l0.length c0, .slice A1 l1.length c1, .int .i64 a2, .slice A3 l3.length c3], .int .i64 a] w fun e w' => ∃ v0_ : Value, e = .returned (v0_) ∧ Kd.R Kd.bool 4 w' w.heap.size (fun _ => True) v0_ (begC l0 l1 a2 l3 a) ∧ Below w.heap.size w w' := by
  have hu := Tryd.underlying25
  have hu2 := Tryd.underlying35
  have OK := Lib.hid hok
  have HG := Lib.hid hG
  have HF := Lib.hid (cornhas_f l0 l1 a2 l3 a hok)
  obtain ⟨b, hb⟩ : ∃ b : Bool, decide (checkC nmB mkB l0 l1 a2 l3 = 0 ∧ 0 ≤ a ∧ a < l0.length) = b := ⟨_, rfl⟩
  rw [hb] at HF
  have HBB := Lib.hid hb
  have hB0 : Below w.heap.size w (w.alloc (.cells #[.slice A0 l0.length c0, .slice A1 l1.length c1, .int .i64 a2, .slice A3 l3.length c3] 25)) := (Below.refl _ _).alloc (Nat.le_refl _) _
  have HB0 := Lib.hid hB0
  have HBX : Hid (InBox w.heap.size A0 c0 l0 A1 c1 l1 a2 A3 c3 l3 (w.alloc (.cells #[.slice A0 l0.length c0, .slice A1 l1.length c1, .int .i64 a2, .slice A3 l3.length c3] 25))) := Lib.hid ⟨blk_new w _, Kd.C_alloc hr0 _, Kd.C_alloc hr1 _, Kd.C_alloc hr3 _⟩
  have HR0 := Lib.hid hr0
  have HR3 := Lib.hid hr3
  clear hok hG hb hB0
  go_enter Tryd.func84, Tryd.ntmps84
  go_wp2_with fail
  go_step3
  go_wp2_with fail
  refine (corner_has.calls A0 c0 l0 A1 c1 l1 a2 A3 c3 l3 a _ _ (Laid.below HG.out HB0.out) HBX.out.2.1 hc0 HBX.out.2.2.1 hc1 HBX.out.2.2.2 hc3 HF.out).mono ?_
  rintro e w2 ⟨rfl, hb2⟩
  have hB2 : Below w.heap.size w w2 := HB0.out.trans (hb2.mono HB0.out.size)
  have hbx : w2.heap[w.heap.size]? = some (.cells #[.slice A0 l0.length c0, .slice A1 l1.length c1, .int .i64 a2, .slice A3 l3.length c3] 25 (0, 0)) := blk_below HBX.out.1 hb2
  clear hb2 HBX HB0 hr0 hr1 hr3
  cases b with
  | false =>
    go_wp2
    try rw [Exit.noGoto_ret]
    refine bodyPost_ret (v := .slice none 0 0) (by simp [results, Tryd.results84, go_sem]) rfl ⟨_, rfl, ?_, hB2⟩
    rw [begC, if_neg (of_decide_eq_false HBB.out)]
    exact Kd.R_nil _ _ _ _ _
  | true =>
    have HC := of_decide_eq_true HBB.out
    have HZ := check_zero HC.1
    have hn1 := HZ.1
    have hn2 := HZ.2.1
    have hn3 := HZ.2.2.2.1
    have HV := Lib.hid HZ.2.2.2.2.2.2.1
    have HE : Hid (begC l0 l1 a2 l3 a = bloop a l3 l0.length (List.replicate l0.length false)) := Lib.hid (by rw [begC, if_pos HC])
    clear HC HZ HBB HF
    have hz0 : w2.cell? ⟨w.heap.size, 0, none⟩ = some (.slice A0 l0.length c0) := (blk_cell hbx 0).trans rfl
    have HBX := Lib.hid hbx
    clear hbx
    go_wp2_with ((with_reducible refine gate_dst (N := 16) rfl ?_); refine Kd.R_make Kd.bool _ 4 rfl (N := 16) rfl 57 _ _ rfl (l0.length : Int) rfl rfl Tryd.underlying57 (.bool false) 1 info4 rfl (by decide) (by omega) false (ok := fun _ => True) (okp := fun _ => True) rfl (fun _ hk => hk) trivial (by omega) (by omega) (Below.refl _ _) (Nat.le_refl _) ?_; intro v3 w3 ho3 hb3 hg3 hnew3; clear hg3 hnew3)
    clear hz0
    rw [Int.toNat_natCast] at ho3
    have hB3 : Below w.heap.size w w3 := hB2.trans (hb3.mono hB2.size)
    have hbx : w3.heap[w.heap.size]? = some (.cells #[.slice A0 l0.length c0, .slice A1 l1.length c1, .int .i64 a2, .slice A3 l3.length c3] 25 (0, 0)) := blk_below HBX.out hb3
    have ho4 := Kd.R_lower ho3 hB2.size
    clear ho3 hb3 hB2
    have hw4 : w3.heap.size = w3.heap.size := rfl
    obtain ⟨g, cap, hv3, hg3⟩ := R_shape ho4 (by rw [List.length_replicate]; omega)
    rw [List.length_replicate] at hv3
    subst hv3
    have hcnt : (List.replicate l0.length false).count false ≤ l0.length := by rw [List.count_replicate_self]; exact Nat.le_refl _
    clear hw4
    go_step3
    go_wp2
    go_loopg [] l0.length (fun q wr => ∃ xs : List Bool, Hid (xs.length = l0.length ∧ xs.count false ≤ q ∧ bloop a l3 q xs = begC l0 l1 a2 l3 a) ∧ Hid (Kd.R Kd.bool 4 wr w.heap.size (fun _ => True) (.slice (some ⟨g, 0, none⟩) l0.length cap) xs) ∧ Hid (wr.heap[w.heap.size]? = some (.cells #[.slice A0 l0.length c0, .slice A1 l1.length c1, .int .i64 a2, .slice A3 l3.length c3] 25 (0, 0))) ∧ Below w.heap.size w wr)
    case atStart => exact ⟨_, Lib.hid ⟨List.length_replicate, hcnt, HE.out.symm⟩, Lib.hid ho4, Lib.hid hbx, hB3⟩
    case round =>
      obtain ⟨xs, HX, HO, HBX, hB⟩ := hrel
      obtain ⟨q, rfl⟩ : ∃ q : Nat, q = gk := ⟨_, rfl⟩
      obtain ⟨wo, rfl⟩ : ∃ wo : World, wo = wr := ⟨_, rfl⟩
      clear hcnt ho4 hbx hB3
      have hz3 : wo.cell? ⟨w.heap.size, 3, none⟩ = some (.slice A3 l3.length c3) := (blk_cell HBX.out 3).trans rfl
      go_wp2
      clear hz3
      go_loopg [20] l3.length (fun q2 s20 wx => ∃ j : Nat, j + q2 = l3.length ∧ s20 = .int .i64 j ∧ Hid (∀ r ∈ l3.take j, hitB a xs r = false) ∧ Hid (Kd.R Kd.bool 4 wx w.heap.size (fun _ => True) (.slice (some ⟨g, 0, none⟩) l0.length cap) xs) ∧ Hid (wx.heap[w.heap.size]? = some (.cells #[.slice A0 l0.length c0, .slice A1 l1.length c1, .int .i64 a2, .slice A3 l3.length c3] 25 (0, 0))) ∧ Below w.heap.size w wx)
      case atStart => exact ⟨0, by omega, rfl, Lib.hid (by simp), HO, HBX, hB⟩
      case round =>
        clear HO HBX hB
        obtain ⟨j, hj, rfl, HT, HO, HBX, hB⟩ := hrel
        cases gk with
        | zero =>
          obtain rfl : j = l3.length := by omega
          have HQ : Hid (begC l0 l1 a2 l3 a = xs) := Lib.hid (by
            rw [← HX.out.2.2]
            have hn : l3.find? (hitB a xs) = none := List.find?_eq_none.2 fun r hr => by rw [HT.out r (by rwa [List.take_length])]; simp
            cases q with
            | zero => rfl
            | succ q => rw [bloop, hn])
          go_wp2
          try rw [Exit.noGoto_ret]
          refine bodyPost_ret (v := .slice (some ⟨g, 0, none⟩) l0.length cap) (by simp [results, Tryd.results84, go_sem]) rfl ⟨_, rfl, ?_, hB⟩
          rw [HQ.out]
          exact HO.out
        | succ q2 =>
          have hjl : j < l3.length := by omega
          obtain ⟨r, hr⟩ : ∃ r, r = l3[j] := ⟨_, rfl⟩
          have hmem : r ∈ l3 := by rw [hr]; exact List.getElem_mem _
          obtain ⟨ad, B1, d1, e0, hx0, hx1, hl1, hi1⟩ := at_T35 HR3.out (j : Int) (by omega) (by omega)
          subst e0
          have hrd : rd_T35 l3 (j : Int) = r := by rw [hr, rd_T35, Int.toNat_natCast, List.getD_eq_getElem?_getD, List.getElem?_eq_getElem hjl]; rfl
          rw [hrd] at hx0 hx1 hl1 hi1
          rw [Int.toNat_natCast] at hx0 hx1
          have hy0 := (hB.cell (World.block_lt_of_cell? w _ hx0)).trans hx0
          have hy1 := (hB.cell (World.block_lt_of_cell? w _ hx1)).trans hx1
          have HRR := Lib.hid hr
          have HM := Lib.hid hmem
          clear hx0 hx1 hrd hr hmem
          obtain ⟨v0, v1, v2, v3⟩ := HV.out r HM.out
          have HFF := Lib.hid (first_f r (List.all_eq_true.1 (gram_rules_ok OK.out) r HM.out))
          go_wp2_with fail
          refine (corner_first.calls r.f0 B1 d1 r.f1 _ _ (Kd.C_alloc (Kd.C_below hi1 hB) _) hl1 HFF.out).mono ?_
          rintro e w5 ⟨rfl, hb5⟩
          have hB5 : Below w.heap.size w w5 := (hB.alloc hB.size _).trans (hb5.mono (below_alloc hB _).size)
          have hbx5 : w5.heap[w.heap.size]? = some (.cells #[.slice A0 l0.length c0, .slice A1 l1.length c1, .int .i64 a2, .slice (some ad) l3.length c3] 25 (0, 0)) := blk_below (blk_alloc HBX.out _) hb5
          have hO5 := Kd.R_below (Kd.R_alloc HO.out (.cells #[.int .i64 r.f0, .slice B1 r.f1.length d1] 35)) hb5
          have hrx5 := blk_below (blk_new wr (.cells #[.int .i64 r.f0, .slice B1 r.f1.length d1] 35)) hb5
          have hk0 : w5.cell? ⟨wr.heap.size, 0, none⟩ = some (.int .i64 r.f0) := (blk_cell hrx5 0).trans rfl
          have HB5 := Lib.hid hbx5
          have HO5 := Lib.hid hO5
          obtain ⟨b, hb⟩ : ∃ b, firstI r = b := ⟨_, rfl⟩
          have hbl := first_lt (n := l0.length) (m := l1.length) v3
          rw [hb] at hbl ⊢
          have HBF := Lib.hid hb
          clear hb5 hbx5 hO5 hrx5 hy0 hy1 hi1 hb
          by_cases hb0 : b < 0
          · have n0 : decide (0 ≤ b) = false := decide_eq_false (by omega)
            have HB0 := Lib.hid hb0
            clear hb0 hbl
            have HMISS : Hid (hitB a xs r = false) := Lib.hid (by unfold hitB; rw [HBF.out, decide_eq_false (by have := HB0.out; omega)]; rfl)
            go_wp2
            go_roundg q2
            case measure => omega
            case rel => exact ⟨j + 1, by omega, by go_num, Lib.hid (by
              intro x hx
              rw [List.take_succ_eq_append_getElem hjl] at hx
              rcases List.mem_append.1 hx with h | h
              · exact HT.out x h
              · rw [List.mem_singleton.1 h, ← HRR.out]
                exact HMISS.out), HO5, HB5, hB5⟩
          have n0 : decide (0 ≤ b) = true := decide_eq_true (by omega)
          have p0 : 0 ≤ b := by omega
          have p1 : b < (l0.length : Int) := by omega
          have HLT : Hid (b.toNat < l0.length) := Lib.hid (by omega)
          have HNE : Hid (w.heap.size ≠ g) := Lib.hid (fun e => Kd.R_ne HO5.out HB5.out (by decide) (by rw [e]; rfl))
          have HGE : Hid (w.heap.size ≤ g) := Lib.hid hg3
          clear hb0 hbl
          obtain ⟨hcell, hfroz⟩ := Kd.R_celln false HO5.out b p0 p1
          obtain ⟨o, ho⟩ : ∃ o, rdOf false xs b = o := ⟨_, rfl⟩
          have ho' : xs.getD b.toNat false = o := ho
          rw [ho] at hcell
          have HOV := Lib.hid ho'
          clear ho ho'
          cases o with
          | true =>
            have HMISS : Hid (hitB a xs r = false) := Lib.hid (by unfold hitB; rw [HBF.out, getD_any (by rw [HX.out.1]; exact HLT.out) true false, HOV.out]; simp)
            go_wp2
            go_roundg q2
            case measure => omega
            case rel => exact ⟨j + 1, by omega, by go_num, Lib.hid (by
              intro x hx
              rw [List.take_succ_eq_append_getElem hjl] at hx
              rcases List.mem_append.1 hx with h | h
              · exact HT.out x h
              · rw [List.mem_singleton.1 h, ← HRR.out]
                exact HMISS.out), HO5, HB5, hB5⟩
          | false =>
          by_cases ha : r.f0 = a
          · have ha1 : (r.f0 == a) = true := by simp [ha]
            have HHIT : Hid (hitB a xs r = true) := Lib.hid (by
              unfold hitB
              rw [HBF.out, getD_any (by rw [HX.out.1]; exact HLT.out) true false, HOV.out, ha]; simp [p0])
            clear ha
            have hlt2 : b.toNat < xs.length := by rw [HX.out.1]; exact HLT.out
            have hf2 : xs.getD b.toNat true = false := by rw [getD_any hlt2 true false]; exact HOV.out
            obtain ⟨q', rfl⟩ : ∃ q', q = q' + 1 := ⟨q - 1, by have := HX.out.2.1; have := count_pos_false hlt2 hf2; omega⟩
            have hnx : bloop a l3 q' (xs.set b.toNat true) = begC l0 l1 a2 l3 a := by
              rw [← HX.out.2.2, bloop, find_at HT.out hjl (by rw [← HRR.out]; exact HHIT.out), ← HRR.out]; simp only [HBF.out]
            have hcn : (xs.set b.toNat true).count false ≤ q' := by have := count_set_true xs b.toNat hlt2 hf2; have := HX.out.2.1; omega
            have HNX := Lib.hid hnx
            have HCN := Lib.hid hcn
            clear hlt2 hf2 hnx hcn
            go_wp2
            go_roundg q'
            case measure => omega
            case rel => exact ⟨xs.set b.toNat true, Lib.hid ⟨by rw [List.length_set]; exact HX.out.1, HCN.out, HNX.out⟩, Lib.hid (Kd.R_putg HO5.out b true).1, Lib.hid (blk_far HB5.out (p := ⟨g, b.toNat, none⟩) HNE.out _), hB5.setCell HGE.out _⟩
          have ha1 : (r.f0 == a) = false := by simp [ha]
          have HNA := Lib.hid ha
          clear ha
          obtain ⟨hcell2, _⟩ := Kd.R_celln false HO5.out r.f0 v0 v1
          obtain ⟨o, ho⟩ : ∃ o, rdOf false xs r.f0 = o := ⟨_, rfl⟩
          have ho' : xs.getD r.f0.toNat false = o := ho
          rw [ho] at hcell2
          have HOW := Lib.hid ho'
          clear ho ho'
          cases o with
          | true =>
            have HHIT : Hid (hitB a xs r = true) := Lib.hid (by
              unfold hitB
              rw [HBF.out, getD_any (by rw [HX.out.1]; exact HLT.out) true false, HOV.out, HOW.out]; simp [p0])
            have hlt2 : b.toNat < xs.length := by rw [HX.out.1]; exact HLT.out
            have hf2 : xs.getD b.toNat true = false := by rw [getD_any hlt2 true false]; exact HOV.out
            obtain ⟨q', rfl⟩ : ∃ q', q = q' + 1 := ⟨q - 1, by have := HX.out.2.1; have := count_pos_false hlt2 hf2; omega⟩
            have hnx : bloop a l3 q' (xs.set b.toNat true) = begC l0 l1 a2 l3 a := by
              rw [← HX.out.2.2, bloop, find_at HT.out hjl (by rw [← HRR.out]; exact HHIT.out), ← HRR.out]; simp only [HBF.out]
            have hcn : (xs.set b.toNat true).count false ≤ q' := by have := count_set_true xs b.toNat hlt2 hf2; have := HX.out.2.1; omega
            have HNX := Lib.hid hnx
            have HCN := Lib.hid hcn
            clear hlt2 hf2 hnx hcn
            go_wp2
            go_roundg q'
            case measure => omega
            case rel => exact ⟨xs.set b.toNat true, Lib.hid ⟨by rw [List.length_set]; exact HX.out.1, HCN.out, HNX.out⟩, Lib.hid (Kd.R_putg HO5.out b true).1, Lib.hid (blk_far HB5.out (p := ⟨g, b.toNat, none⟩) HNE.out _), hB5.setCell HGE.out _⟩
          | false =>
            have HMISS : Hid (hitB a xs r = false) := Lib.hid (by unfold hitB; rw [HOW.out, decide_eq_false HNA.out]; simp)
            go_wp2
            go_roundg q2
            case measure => omega
            case rel => exact ⟨j + 1, by omega, by go_num, Lib.hid (by
              intro x hx
              rw [List.take_succ_eq_append_getElem hjl] at hx
              rcases List.mem_append.1 hx with h | h
              · exact HT.out x h
              · rw [List.mem_singleton.1 h, ← HRR.out]
                exact HMISS.out), HO5, HB5, hB5⟩
end Go.Proofs.YtgdcnmpcfoomiaaDoor.G
end
section
namespace Go.Proofs.YtgdcnmpcfoomiaaDoor.G
open Go.RowKit Go.Proofs.YtgdcnmpcfoomiaaDoorW.PrintWords Go.Proofs.YtgdcnmpcfoomiaaDoorW.PrintLast Go.Proofs.YtgdcnmpcfoomiaaDoorW.PrintMore
attribute [local go_sem] max2_int min2_int max_two min_two max_three min_three max_four min_four
attribute [local go_sem] Go.Proofs.YtgdcnmpcfoomiaaDoorOwn.isSome_setCell
set_option linter.unusedVariables false
set_option linter.unusedSimpArgs false
def corner_Begins.f (l0_0 : List ByteArray) (l0_1 : List ByteArray) (a0_2 : Int) (l0_3 : List GRule) (a1 : Int) : Option (List Bool) := if gramOk l0_0 l0_1 a0_2 l0_3 = true then some (begC l0_0 l0_1 a0_2 l0_3 a1) else none
theorem corner_Begins.calls (A0_0 : Option Addr) (c0_0 : Nat) (l0_0 : List ByteArray) (A0_1 : Option Addr) (c0_1 : Nat) (l0_1 : List ByteArray) (a0_2 : Int) (A0_3 : Option Addr) (c0_3 : Nat) (l0_3 : List GRule) (a1 : Int) (r : List Bool) (w : World) (hG : Laid w) (hr0_0 : Kd.C Kd.string w A0_0 l0_0.length l0_0) (hc0_0 : l0_0.length ≤ c0_0) (hr0_1 : Kd.C Kd.string w A0_1 l0_1.length l0_1) (hc0_1 : l0_1.length ≤ c0_1) (hr0_3 : Kd.C k35 w A0_3 l0_3.length l0_3) (hc0_3 : l0_3.length ≤ c0_3) (h : corner_Begins.f l0_0 l0_1 a0_2 l0_3 a1 = some r) :
  Calls Tryd.prog 84 #[.agg #[.slice A0_0 l0_0.length c0_0, .slice A0_1 l0_1.length c0_1, .int .i64 a0_2, .slice A0_3 l0_3.length c0_3], .int .i64 a1] w fun e w' => ∃ v0_ : Value, e = .returned (v0_) ∧ Kd.R Kd.bool 4 w' w.heap.size (fun _ => True) v0_ r ∧ Below w.heap.size w w' := by
 unfold corner_Begins.f at h
 split at h
 ·rename_i hok
  obtain rfl := Option.some.inj h
  exact begins_calls A0_0 c0_0 l0_0 A0_1 c0_1 l0_1 a0_2 A0_3 c0_3 l0_3 a1 hok w hG hr0_0 hc0_0 hr0_1 hc0_1 hr0_3 hc0_3
 ·cases h
end Go.Proofs.YtgdcnmpcfoomiaaDoor.G
end
