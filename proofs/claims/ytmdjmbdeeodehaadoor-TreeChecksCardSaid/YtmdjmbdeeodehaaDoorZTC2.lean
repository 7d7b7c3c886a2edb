/- TreeChecks of the law03 answers true for every grammar and every list of parts: the tree that the parts build is told alike by the program and by the document (Check and Root): part 3 of 6 of its proof, packed by a program of this session out of the texts GLaw011, GLaw021, GramS, OpenG, GramN, TreeO, GramO, GTree1, GRef031, TreeP. -/
import Derived.Test.YtmdjmbdeeodehaaDoorZTC1
import Derived.Lib.SmallJoins
import Derived.SizedLaws
import Derived.Deep.Strs
import Derived.Deep.RegionLaw
import Derived.Laws.Rows
section
namespace Go.Proofs.YtmdjmbdeeodehaaDoor.G
open Go.RowKit Go.Proofs.YtmdjmbdeeodehaaDoorW.PrintWords Go.Proofs.YtmdjmbdeeodehaaDoorW.PrintLast Go.Proofs.YtmdjmbdeeodehaaDoorW.PrintMore
attribute [local go_sem] max2_int min2_int max_two min_two max_three min_three max_four min_four
attribute [local go_sem] Go.Proofs.YtmdjmbdeeodehaaDoorOwn.isSome_setCell
set_option linter.unusedVariables false
set_option linter.unusedSimpArgs false
def wickerlaw01_Awake.f (k : Nat)  : Option (Bool) := (names_Quote.f (⟨#[97, 34, 98]⟩ : ByteArray)).bind fun t101 => (if t101.toList = ([34, 97, 92, 34, 98, 34] : List UInt8) then ((names_Fresh.f k (([(⟨#[83]⟩ : ByteArray), (⟨#[83, 45, 49]⟩ : ByteArray)] : List ByteArray)) (⟨#[83]⟩ : ByteArray)).bind fun t105 => (if t105.toList = ([83, 45, 50] : List UInt8) then ((names_Name.f k (⟨#[97, 45, 49]⟩ : ByteArray)).bind fun t106 => (if t106 = true then ((names_Name.f k (⟨#[49, 97]⟩ : ByteArray)).bind fun t107 => (some (!t107))) else (some false))) else (some false))) else (some false))
theorem wickerlaw01_Awake.mono : ∀ k, LeO (wickerlaw01_Awake.f k ) (wickerlaw01_Awake.f (k + 1) ) := by
 intro  k
 unfold wickerlaw01_Awake.f
 repeat' first
   | (with_reducible exact names_Fresh.mono _ _ _)
   | (with_reducible exact names_Name.mono _ _)
   | (with_reducible exact LeO.refl _)
   | (with_reducible exact LeO.none _)
   | (with_reducible refine LeO.ite ?_ ?_)
   | (with_reducible refine LeO.bind ?_ (fun _ => ?_))
   | exact names_Fresh.mono _ _ _
   | exact names_Name.mono _ _
   | exact LeO.none _
   | refine LeO.ite ?_ ?_
   | refine LeO.bind ?_ (fun _ => ?_)
set_option maxHeartbeats 8000000 in
set_option maxRecDepth 100000 in
theorem wickerlaw01_Awake.calls (k : Nat)  (r : Bool) (w : World) (hG : Laid w) (h : wickerlaw01_Awake.f k  = some r) :
  Calls Tryd.prog 136 #[] w fun e w' => e = .returned (.bool r) ∧ Below w.heap.size w w' := by
 have HG := Aside0.mk hG
 clear hG
 have HB := Aside0.mk (Below.refl w.heap.size w)
 have H : ((names_Quote.f (⟨#[97, 34, 98]⟩ : ByteArray)).bind fun t101 => (if t101.toList = ([34, 97, 92, 34, 98, 34] : List UInt8) then ((names_Fresh.f k (([(⟨#[83]⟩ : ByteArray), (⟨#[83, 45, 49]⟩ : ByteArray)] : List ByteArray)) (⟨#[83]⟩ : ByteArray)).bind fun t105 => (if t105.toList = ([83, 45, 50] : List UInt8) then ((names_Name.f k (⟨#[97, 45, 49]⟩ : ByteArray)).bind fun t106 => (if t106 = true then ((names_Name.f k (⟨#[49, 97]⟩ : ByteArray)).bind fun t107 => (some (!t107))) else (some false))) else (some false))) else (some false))) = some r := h
 clear h
 replace H := Option.bind_eq_some_iff.mp H
 obtain ⟨t101, A10, H⟩ := H
 replace H : (if t101.toList = ([34, 97, 92, 34, 98, 34] : List UInt8) then ((names_Fresh.f k (([(⟨#[83]⟩ : ByteArray), (⟨#[83, 45, 49]⟩ : ByteArray)] : List ByteArray)) (⟨#[83]⟩ : ByteArray)).bind fun t105 => (if t105.toList = ([83, 45, 50] : List UInt8) then ((names_Name.f k (⟨#[97, 45, 49]⟩ : ByteArray)).bind fun t106 => (if t106 = true then ((names_Name.f k (⟨#[49, 97]⟩ : ByteArray)).bind fun t107 => (some (!t107))) else (some false))) else (some false))) else (some false)) = some r := H
 have A1 := Aside0.mk A10
 clear A10
 by_cases c2 : t101.toList = ([34, 97, 92, 34, 98, 34] : List UInt8)
 ·rw [if_pos c2] at H
  have c2b0 : (t101.toList == ([34, 97, 92, 34, 98, 34] : List UInt8)) = true := beq_iff_eq.mpr c2
  have c2b1 : (t101.toList != ([34, 97, 92, 34, 98, 34] : List UInt8)) = false := bne_eq_false_iff_eq.mpr c2
  clear c2
  obtain ⟨y102, hy102⟩ : ∃ y_ : List ByteArray, y_ = (([(⟨#[83]⟩ : ByteArray), (⟨#[83, 45, 49]⟩ : ByteArray)] : List ByteArray)) := ⟨_, rfl⟩
  replace H : ((names_Fresh.f k y102 (⟨#[83]⟩ : ByteArray)).bind fun t105 => (if t105.toList = ([83, 45, 50] : List UInt8) then ((names_Name.f k (⟨#[97, 45, 49]⟩ : ByteArray)).bind fun t106 => (if t106 = true then ((names_Name.f k (⟨#[49, 97]⟩ : ByteArray)).bind fun t107 => (some (!t107))) else (some false))) else (some false))) = some r := by first | (rw [hy102]; with_reducible exact H) | (have H2_ := (Option.bind_some _ _).symm.trans H; rw [hy102]; with_reducible exact H2_) | (have H2_ := (Option.bind_some _ _).symm.trans H; with_reducible exact H2_) | with_reducible exact H | (rw [hy102]; exact H) | exact H
  have Ny102 := Aside0.mk hy102
  clear hy102
  replace H := Option.bind_eq_some_iff.mp H
  obtain ⟨t105, A30, H⟩ := H
  replace H : (if t105.toList = ([83, 45, 50] : List UInt8) then ((names_Name.f k (⟨#[97, 45, 49]⟩ : ByteArray)).bind fun t106 => (if t106 = true then ((names_Name.f k (⟨#[49, 97]⟩ : ByteArray)).bind fun t107 => (some (!t107))) else (some false))) else (some false)) = some r := H
  have A3 := Aside0.mk A30
  clear A30
  by_cases c4 : t105.toList = ([83, 45, 50] : List UInt8)
  ·rw [if_pos c4] at H
   have c4b0 : (t105.toList == ([83, 45, 50] : List UInt8)) = true := beq_iff_eq.mpr c4
   have c4b1 : (t105.toList != ([83, 45, 50] : List UInt8)) = false := bne_eq_false_iff_eq.mpr c4
   clear c4
   replace H := Option.bind_eq_some_iff.mp H
   obtain ⟨t106, A50, H⟩ := H
   replace H : (if t106 = true then ((names_Name.f k (⟨#[49, 97]⟩ : ByteArray)).bind fun t107 => (some (!t107))) else (some false)) = some r := H
   have A5 := Aside0.mk A50
   clear A50
   by_cases c6 : t106 = true
   ·subst c6
    have H1 : ((names_Name.f k (⟨#[49, 97]⟩ : ByteArray)).bind fun t107 => (some (!t107))) = some r := by rw [if_pos rfl] at H; exact H
    clear H
    have H := H1
    clear H1
    replace H := Option.bind_eq_some_iff.mp H
    obtain ⟨t107, A70, H⟩ := H
    replace H : (some (!t107)) = some r := H
    have A7 := Aside0.mk A70
    clear A70
    obtain rfl := Option.some.inj H
    go_enter Tryd.func136, Tryd.ntmps136
    go_wp2_with (first | ((with_reducible refine gate_callee (f := 150) rfl ?_); refine goesL_ (some 1) rfl rfl Tryd.func150 (by kernel_rfl) rfl #[.string (⟨#[97, 34, 98]⟩ : ByteArray)] rfl (by (try simp only [List.map_toArray, List.map_cons, List.map_nil]); first | done | rfl | (simp only [List.length_drop, List.length_take]; rfl)) ?_; (with_reducible refine (names_Quote.calls (⟨#[97, 34, 98]⟩ : ByteArray) t101 _ A1.out).mono ?_); rintro e w8 ⟨rfl, hb⟩; refine ⟨_, rfl, ?_⟩; have n0_ := Aside0.mk (below_step (by repeat (first | (with_reducible first | exact HB.out | apply below_alloc | apply pw_below_drewN | apply below_drew1) | exact HB.out)) hb); clear HB; have HB := n0_; clear n0_; (try clear hb); (try clear hb2); (try clear hk); (try clear hi)) | ((with_reducible refine gate_dst (N := 4) rfl ?_); (try (refine gate_guard (by rfl) ?_; dsimp only)); refine Kd.R_lit Kd.string _ 9 ?hg (N := 4) ?hd (xs := ([(⟨#[83]⟩ : ByteArray), (⟨#[83, 45, 49]⟩ : ByteArray)] : List ByteArray)) (inner := [.string (⟨#[83]⟩ : ByteArray), .string (⟨#[83, 45, 49]⟩ : ByteArray)]) (ok := fun _ => True) (okp := fun _ => True) ?hr ?hp (fun _ hk => hk) trivial (Below.refl _ _) (Nat.le_refl _) (by simp) ?_; (case hd => rfl); (case hg => rfl); (case hr => first | (go_simp; done) | (go_simp; rfl)); (case hp => exact (Reps.one (show Kd.M Kd.string _ _ _ (⟨#[83]⟩ : ByteArray) [.string (⟨#[83]⟩ : ByteArray)] from rfl) (Reps.one (show Kd.M Kd.string _ _ _ (⟨#[83, 45, 49]⟩ : ByteArray) [.string (⟨#[83, 45, 49]⟩ : ByteArray)] from rfl) (Reps.none _ _)))); intro v103 w9 ho10 hb hg_ hnew_; clear hg_ hnew_; (first | rw [← Ny102.out] at ho10 | (simp only [Int.reduceToNat] at ho10; rw [← Ny102.out] at ho10)); have n0_ := Aside0.mk (Kd.R_lower ho10 (below_size (by repeat (first | (with_reducible first | exact HB.out | apply below_alloc | apply pw_below_drewN | apply below_drew1) | exact HB.out)))); have n1_ := Aside0.mk (below_step (by repeat (first | (with_reducible first | exact HB.out | apply below_alloc | apply pw_below_drewN | apply below_drew1) | exact HB.out)) hb); clear HB; have HO104 := n0_; have HB := n1_; clear n0_ n1_; clear hb ho10; obtain ⟨Ao11, co11, eo11⟩ := Kd.R_slice HO104.out; subst eo11) | (go_at_call 111; (with_reducible refine (names_Fresh.calls k _ _ y102 (⟨#[83]⟩ : ByteArray) t105 _ ?side1 ?side2 ?side3 A3.out).mono ?_); (case side1 => exact Laid.below HG.out (by repeat (first | (with_reducible first | exact HB.out | apply below_alloc | apply pw_below_drewN | apply below_drew1) | exact HB.out))); (case side2 => repeat (first | exact (Kd.R_reads' HO104.out).2.2 | (with_reducible refine Kd.C_alloc ?_ _) | (with_reducible refine Kd.C_drewN ?_ _) | (with_reducible refine Kd.C_drew ?_))); (case side3 => exact (Kd.R_reads' HO104.out).2.1); rintro e w12 ⟨rfl, hb⟩; have n0_ := Aside0.mk (Kd.R_below (by (with_reducible repeat (first | apply Kd.R_alloc | apply Kd.R_drewN | apply Kd.R_drew)); exact HO104.out) hb); have n1_ := Aside0.mk (below_step (by repeat (first | (with_reducible first | exact HB.out | apply below_alloc | apply pw_below_drewN | apply below_drew1) | exact HB.out)) hb); clear HO104; clear HB; have HO104 := n0_; have HB := n1_; clear n0_ n1_; (try clear hb); (try clear hb2); (try clear hk); (try clear hi)) | (go_at_call 93; (with_reducible refine (names_Name.calls k (⟨#[97, 45, 49]⟩ : ByteArray) true _ A5.out).mono ?_); rintro e w' ⟨rfl, ⟨nd, rfl⟩⟩) | (go_at_call 93; (with_reducible refine (names_Name.calls k (⟨#[49, 97]⟩ : ByteArray) t107 _ A7.out).mono ?_); rintro e w' ⟨rfl, ⟨nd, rfl⟩⟩))
    go_ret
    exact ⟨by first | rfl | (simp [errW_none, errW_some] <;> rfl) | (simp [*, errW_none, errW_some] <;> rfl), by repeat (first | (with_reducible first | exact HB.out | apply below_alloc | apply pw_below_drewN | apply below_drew1) | exact HB.out)⟩
   ·replace c6 := Bool.eq_false_iff.mpr c6
    subst c6
    have H1 : (some false) = some r := by rw [if_neg (show ¬ (false = true) by decide)] at H; exact H
    clear H
    have H := H1
    clear H1
    obtain rfl := Option.some.inj H
    go_enter Tryd.func136, Tryd.ntmps136
    go_wp2_with (first | ((with_reducible refine gate_callee (f := 150) rfl ?_); refine goesL_ (some 1) rfl rfl Tryd.func150 (by kernel_rfl) rfl #[.string (⟨#[97, 34, 98]⟩ : ByteArray)] rfl (by (try simp only [List.map_toArray, List.map_cons, List.map_nil]); first | done | rfl | (simp only [List.length_drop, List.length_take]; rfl)) ?_; (with_reducible refine (names_Quote.calls (⟨#[97, 34, 98]⟩ : ByteArray) t101 _ A1.out).mono ?_); rintro e w13 ⟨rfl, hb⟩; refine ⟨_, rfl, ?_⟩; have n0_ := Aside0.mk (below_step (by repeat (first | (with_reducible first | exact HB.out | apply below_alloc | apply pw_below_drewN | apply below_drew1) | exact HB.out)) hb); clear HB; have HB := n0_; clear n0_; (try clear hb); (try clear hb2); (try clear hk); (try clear hi)) | ((with_reducible refine gate_dst (N := 4) rfl ?_); (try (refine gate_guard (by rfl) ?_; dsimp only)); refine Kd.R_lit Kd.string _ 9 ?hg (N := 4) ?hd (xs := ([(⟨#[83]⟩ : ByteArray), (⟨#[83, 45, 49]⟩ : ByteArray)] : List ByteArray)) (inner := [.string (⟨#[83]⟩ : ByteArray), .string (⟨#[83, 45, 49]⟩ : ByteArray)]) (ok := fun _ => True) (okp := fun _ => True) ?hr ?hp (fun _ hk => hk) trivial (Below.refl _ _) (Nat.le_refl _) (by simp) ?_; (case hd => rfl); (case hg => rfl); (case hr => first | (go_simp; done) | (go_simp; rfl)); (case hp => exact (Reps.one (show Kd.M Kd.string _ _ _ (⟨#[83]⟩ : ByteArray) [.string (⟨#[83]⟩ : ByteArray)] from rfl) (Reps.one (show Kd.M Kd.string _ _ _ (⟨#[83, 45, 49]⟩ : ByteArray) [.string (⟨#[83, 45, 49]⟩ : ByteArray)] from rfl) (Reps.none _ _)))); intro v103 w14 ho15 hb hg_ hnew_; clear hg_ hnew_; (first | rw [← Ny102.out] at ho15 | (simp only [Int.reduceToNat] at ho15; rw [← Ny102.out] at ho15)); have n0_ := Aside0.mk (Kd.R_lower ho15 (below_size (by repeat (first | (with_reducible first | exact HB.out | apply below_alloc | apply pw_below_drewN | apply below_drew1) | exact HB.out)))); have n1_ := Aside0.mk (below_step (by repeat (first | (with_reducible first | exact HB.out | apply below_alloc | apply pw_below_drewN | apply below_drew1) | exact HB.out)) hb); clear HB; have HO104 := n0_; have HB := n1_; clear n0_ n1_; clear hb ho15; obtain ⟨Ao16, co16, eo16⟩ := Kd.R_slice HO104.out; subst eo16) | (go_at_call 111; (with_reducible refine (names_Fresh.calls k _ _ y102 (⟨#[83]⟩ : ByteArray) t105 _ ?side1 ?side2 ?side3 A3.out).mono ?_); (case side1 => exact Laid.below HG.out (by repeat (first | (with_reducible first | exact HB.out | apply below_alloc | apply pw_below_drewN | apply below_drew1) | exact HB.out))); (case side2 => repeat (first | exact (Kd.R_reads' HO104.out).2.2 | (with_reducible refine Kd.C_alloc ?_ _) | (with_reducible refine Kd.C_drewN ?_ _) | (with_reducible refine Kd.C_drew ?_))); (case side3 => exact (Kd.R_reads' HO104.out).2.1); rintro e w17 ⟨rfl, hb⟩; have n0_ := Aside0.mk (Kd.R_below (by (with_reducible repeat (first | apply Kd.R_alloc | apply Kd.R_drewN | apply Kd.R_drew)); exact HO104.out) hb); have n1_ := Aside0.mk (below_step (by repeat (first | (with_reducible first | exact HB.out | apply below_alloc | apply pw_below_drewN | apply below_drew1) | exact HB.out)) hb); clear HO104; clear HB; have HO104 := n0_; have HB := n1_; clear n0_ n1_; (try clear hb); (try clear hb2); (try clear hk); (try clear hi)) | (go_at_call 93; (with_reducible refine (names_Name.calls k (⟨#[97, 45, 49]⟩ : ByteArray) false _ A5.out).mono ?_); rintro e w' ⟨rfl, ⟨nd, rfl⟩⟩))
    go_ret
    exact ⟨by first | rfl | (simp [errW_none, errW_some] <;> rfl) | (simp [*, errW_none, errW_some] <;> rfl), by repeat (first | (with_reducible first | exact HB.out | apply below_alloc | apply pw_below_drewN | apply below_drew1) | exact HB.out)⟩
  ·rw [if_neg c4] at H
   have c4b0 : (t105.toList == ([83, 45, 50] : List UInt8)) = false := beq_eq_false_iff_ne.mpr c4
   have c4b1 : (t105.toList != ([83, 45, 50] : List UInt8)) = true := bne_iff_ne.mpr c4
   obtain rfl := Option.some.inj H
   go_enter Tryd.func136, Tryd.ntmps136
   go_wp2_with (first | ((with_reducible refine gate_callee (f := 150) rfl ?_); refine goesL_ (some 1) rfl rfl Tryd.func150 (by kernel_rfl) rfl #[.string (⟨#[97, 34, 98]⟩ : ByteArray)] rfl (by (try simp only [List.map_toArray, List.map_cons, List.map_nil]); first | done | rfl | (simp only [List.length_drop, List.length_take]; rfl)) ?_; (with_reducible refine (names_Quote.calls (⟨#[97, 34, 98]⟩ : ByteArray) t101 _ A1.out).mono ?_); rintro e w18 ⟨rfl, hb⟩; refine ⟨_, rfl, ?_⟩; have n0_ := Aside0.mk (below_step (by repeat (first | (with_reducible first | exact HB.out | apply below_alloc | apply pw_below_drewN | apply below_drew1) | exact HB.out)) hb); clear HB; have HB := n0_; clear n0_; (try clear hb); (try clear hb2); (try clear hk); (try clear hi)) | ((with_reducible refine gate_dst (N := 4) rfl ?_); (try (refine gate_guard (by rfl) ?_; dsimp only)); refine Kd.R_lit Kd.string _ 9 ?hg (N := 4) ?hd (xs := ([(⟨#[83]⟩ : ByteArray), (⟨#[83, 45, 49]⟩ : ByteArray)] : List ByteArray)) (inner := [.string (⟨#[83]⟩ : ByteArray), .string (⟨#[83, 45, 49]⟩ : ByteArray)]) (ok := fun _ => True) (okp := fun _ => True) ?hr ?hp (fun _ hk => hk) trivial (Below.refl _ _) (Nat.le_refl _) (by simp) ?_; (case hd => rfl); (case hg => rfl); (case hr => first | (go_simp; done) | (go_simp; rfl)); (case hp => exact (Reps.one (show Kd.M Kd.string _ _ _ (⟨#[83]⟩ : ByteArray) [.string (⟨#[83]⟩ : ByteArray)] from rfl) (Reps.one (show Kd.M Kd.string _ _ _ (⟨#[83, 45, 49]⟩ : ByteArray) [.string (⟨#[83, 45, 49]⟩ : ByteArray)] from rfl) (Reps.none _ _)))); intro v103 w19 ho20 hb hg_ hnew_; clear hg_ hnew_; (first | rw [← Ny102.out] at ho20 | (simp only [Int.reduceToNat] at ho20; rw [← Ny102.out] at ho20)); have n0_ := Aside0.mk (Kd.R_lower ho20 (below_size (by repeat (first | (with_reducible first | exact HB.out | apply below_alloc | apply pw_below_drewN | apply below_drew1) | exact HB.out)))); have n1_ := Aside0.mk (below_step (by repeat (first | (with_reducible first | exact HB.out | apply below_alloc | apply pw_below_drewN | apply below_drew1) | exact HB.out)) hb); clear HB; have HO104 := n0_; have HB := n1_; clear n0_ n1_; clear hb ho20; obtain ⟨Ao21, co21, eo21⟩ := Kd.R_slice HO104.out; subst eo21) | (go_at_call 111; (with_reducible refine (names_Fresh.calls k _ _ y102 (⟨#[83]⟩ : ByteArray) t105 _ ?side1 ?side2 ?side3 A3.out).mono ?_); (case side1 => exact Laid.below HG.out (by repeat (first | (with_reducible first | exact HB.out | apply below_alloc | apply pw_below_drewN | apply below_drew1) | exact HB.out))); (case side2 => repeat (first | exact (Kd.R_reads' HO104.out).2.2 | (with_reducible refine Kd.C_alloc ?_ _) | (with_reducible refine Kd.C_drewN ?_ _) | (with_reducible refine Kd.C_drew ?_))); (case side3 => exact (Kd.R_reads' HO104.out).2.1); rintro e w22 ⟨rfl, hb⟩; have n0_ := Aside0.mk (Kd.R_below (by (with_reducible repeat (first | apply Kd.R_alloc | apply Kd.R_drewN | apply Kd.R_drew)); exact HO104.out) hb); have n1_ := Aside0.mk (below_step (by repeat (first | (with_reducible first | exact HB.out | apply below_alloc | apply pw_below_drewN | apply below_drew1) | exact HB.out)) hb); clear HO104; clear HB; have HO104 := n0_; have HB := n1_; clear n0_ n1_; (try clear hb); (try clear hb2); (try clear hk); (try clear hi)))
   go_ret
   exact ⟨by first | rfl | (simp [errW_none, errW_some] <;> rfl) | (simp [*, errW_none, errW_some] <;> rfl), by repeat (first | (with_reducible first | exact HB.out | apply below_alloc | apply pw_below_drewN | apply below_drew1) | exact HB.out)⟩
 ·rw [if_neg c2] at H
  have c2b0 : (t101.toList == ([34, 97, 92, 34, 98, 34] : List UInt8)) = false := beq_eq_false_iff_ne.mpr c2
  have c2b1 : (t101.toList != ([34, 97, 92, 34, 98, 34] : List UInt8)) = true := bne_iff_ne.mpr c2
  obtain rfl := Option.some.inj H
  go_enter Tryd.func136, Tryd.ntmps136
  go_wp2_with (first | ((with_reducible refine gate_callee (f := 150) rfl ?_); refine goesL_ (some 1) rfl rfl Tryd.func150 (by kernel_rfl) rfl #[.string (⟨#[97, 34, 98]⟩ : ByteArray)] rfl (by (try simp only [List.map_toArray, List.map_cons, List.map_nil]); first | done | rfl | (simp only [List.length_drop, List.length_take]; rfl)) ?_; (with_reducible refine (names_Quote.calls (⟨#[97, 34, 98]⟩ : ByteArray) t101 _ A1.out).mono ?_); rintro e w23 ⟨rfl, hb⟩; refine ⟨_, rfl, ?_⟩; have n0_ := Aside0.mk (below_step (by repeat (first | (with_reducible first | exact HB.out | apply below_alloc | apply pw_below_drewN | apply below_drew1) | exact HB.out)) hb); clear HB; have HB := n0_; clear n0_; (try clear hb); (try clear hb2); (try clear hk); (try clear hi)))
  go_ret
  exact ⟨by first | rfl | (simp [errW_none, errW_some] <;> rfl) | (simp [*, errW_none, errW_some] <;> rfl), by repeat (first | (with_reducible first | exact HB.out | apply below_alloc | apply pw_below_drewN | apply below_drew1) | exact HB.out)⟩
end Go.Proofs.YtmdjmbdeeodehaaDoor.G
end
section
namespace Go.Proofs.YtmdjmbdeeodehaaDoor.G
open Go.RowKit Go.Proofs.YtmdjmbdeeodehaaDoorW.PrintWords Go.Proofs.YtmdjmbdeeodehaaDoorW.PrintLast Go.Proofs.YtmdjmbdeeodehaaDoorW.PrintMore
attribute [local go_sem] max2_int min2_int max_two min_two max_three min_three max_four min_four
attribute [local go_sem] Go.Proofs.YtmdjmbdeeodehaaDoorOwn.isSome_setCell
set_option linter.unusedVariables false
set_option linter.unusedSimpArgs false
mutual
def wickerlaw02_Small.l0 : Nat → Int → List (S32) → Int → Int → List ByteArray → List ByteArray → Int → List (S32) → Option (Bool)
 | 0, _, _, _, _, _, _, _, _ => none
 | k + 1, x3, x11, x12, x13, x102000, x102001, x102002, x102003 => if x13 < x12 then (if 0 ≤ x13 then (if x13 < (x11.length : Int) then (wickerlaw02_Small.l0 k (wrap64 (x3 + (wrap64 (1 + (((rd_T32 x11 x13).f1).length : Int))))) x11 x12 (wrap64 (x13 + 1)) x102000 x102001 x102002 x102003) else (none)) else (none)) else (wickerlaw02_Small.l1 k x3 x102000 (x102000.length : Int) 0 x102000 x102001 x102002 x102003)
def wickerlaw02_Small.l1 : Nat → Int → List ByteArray → Int → Int → List ByteArray → List ByteArray → Int → List (S32) → Option (Bool)
 | 0, _, _, _, _, _, _, _, _ => none
 | k + 1, x3, x25, x26, x27, x102000, x102001, x102002, x102003 => if x27 < x26 then (if 0 ≤ x27 then (if x27 < (x25.length : Int) then (wickerlaw02_Small.l1 k (wrap64 (x3 + (wrap64 (((rdOf ByteArray.empty x25 x27).size : Int) / 16)))) x25 x26 (wrap64 (x27 + 1)) x102000 x102001 x102002 x102003) else (none)) else (none)) else (wickerlaw02_Small.l2 k x3 x102001 (x102001.length : Int) 0 x102000 x102001 x102002 x102003)
def wickerlaw02_Small.l2 : Nat → Int → List ByteArray → Int → Int → List ByteArray → List ByteArray → Int → List (S32) → Option (Bool)
 | 0, _, _, _, _, _, _, _, _ => none
 | k + 1, x3, x38, x39, x40, x102000, x102001, x102002, x102003 => if x40 < x39 then (if 0 ≤ x40 then (if x40 < (x38.length : Int) then (wickerlaw02_Small.l2 k (wrap64 (x3 + (wrap64 (((rdOf ByteArray.empty x38 x40).size : Int) / 16)))) x38 x39 (wrap64 (x40 + 1)) x102000 x102001 x102002 x102003) else (none)) else (none)) else (if x3 ≤ 600 then (if (x102000.length : Int) ≤ 60 then (if (x102001.length : Int) ≤ 60 then (some (decide ((x102003.length : Int) ≤ 120))) else (some false)) else (some false)) else (some false))
end
def wickerlaw02_Small.f (k : Nat) (l0_0 : List ByteArray) (l0_1 : List ByteArray) (a0_2 : Int) (l0_3 : List (S32)) : Option (Bool) := wickerlaw02_Small.l0 k 0 l0_3 (l0_3.length : Int) 0 l0_0 l0_1 a0_2 l0_3
set_option maxHeartbeats 8000000 in
set_option maxRecDepth 100000 in
theorem wickerlaw02_Small.calls (k : Nat) (A0_0 : Option Addr) (c0_0 : Nat) (l0_0 : List ByteArray) (A0_1 : Option Addr) (c0_1 : Nat) (l0_1 : List ByteArray) (a0_2 : Int) (A0_3 : Option Addr) (c0_3 : Nat) (l0_3 : List (S32)) (r : Bool) (w : World) (hr0_0 : Kd.C Kd.string w A0_0 l0_0.length l0_0) (hc0_0 : l0_0.length ≤ c0_0) (hr0_1 : Kd.C Kd.string w A0_1 l0_1.length l0_1) (hc0_1 : l0_1.length ≤ c0_1) (hr0_3 : Kd.C k32 w A0_3 l0_3.length l0_3) (hc0_3 : l0_3.length ≤ c0_3) (h : wickerlaw02_Small.f k l0_0 l0_1 a0_2 l0_3 = some r) :
  Calls Tryd.prog 15 #[.agg #[.slice A0_0 l0_0.length c0_0, .slice A0_1 l0_1.length c0_1, .int .i64 a0_2, .slice A0_3 l0_3.length c0_3]] w fun e w' => e = .returned (.bool r) ∧ Below w.heap.size w w' := by
 have hu25 := Tryd.underlying25
 have hu32 := Tryd.underlying32
 have HR0_0 := Aside0.mk hr0_0
 have HC0_0 := Aside0.mk hc0_0
 clear hr0_0 hc0_0
 have HR0_1 := Aside0.mk hr0_1
 have HC0_1 := Aside0.mk hc0_1
 clear hr0_1 hc0_1
 have HR0_3 := Aside0.mk hr0_3
 have HC0_3 := Aside0.mk hc0_3
 clear hr0_3 hc0_3
 have HB := Aside0.mk (Below.refl w.heap.size w)
 have H : (wickerlaw02_Small.l0 k 0 l0_3 (l0_3.length : Int) 0 l0_0 l0_1 a0_2 l0_3) = some r := h
 clear h
 have H' := Aside0.mk H
 clear H
 go_enter Tryd.func15, Tryd.ntmps15
 go_wp2_with (first | ((with_reducible refine gate_dst (N := 1) rfl ?_); (try (refine gate_guard (by rfl) ?_; dsimp only)); refine box_event ?hg (N := 1) ?hd (cs := #[.slice A0_0 l0_0.length c0_0, .slice A0_1 l0_1.length c0_1, .int .i64 a0_2, .slice A0_3 l0_3.length c0_3]) (t := 25) ?hr ?_; (case hd => rfl); (case hg => rfl); (case hr => first | (go_simp; done) | (go_simp; rfl)); intro gb101 hg w2 hbox hb; have n0_ := Aside0.mk (below_step (by repeat (first | (with_reducible first | exact HB.out | apply below_alloc | apply pw_below_drewN | apply below_drew1) | exact HB.out)) hb); have n1_ := Aside0.mk (hbox); have n2_ := Aside0.mk ((by rw [hg]; exact (below_size (by repeat (first | (with_reducible first | exact HB.out | apply below_alloc | apply pw_below_drewN | apply below_drew1) | exact HB.out))) : w.heap.size ≤ gb101)); have n3_ := Aside0.mk ((by rw [hg]; exact (below_size (by repeat (first | (with_reducible first | exact HB.out | apply below_alloc | apply pw_below_drewN | apply below_drew1) | exact HB.out))) : w.heap.size ≤ gb101)); clear HB; have HB := n0_; have BK101 := n1_; have GW101 := n2_; have GE101 := n3_; clear n0_ n1_ n2_ n3_; clear hb hbox hg; have hcz3_0 : w2.cell? ⟨gb101, 0, none⟩ = some (.slice A0_0 l0_0.length c0_0) := (blk_cell BK101.out 0).trans rfl; have hcz3_1 : w2.cell? ⟨gb101, 1, none⟩ = some (.slice A0_1 l0_1.length c0_1) := (blk_cell BK101.out 1).trans rfl; have hcz3_2 : w2.cell? ⟨gb101, 2, none⟩ = some (.int .i64 a0_2) := (blk_cell BK101.out 2).trans rfl; have hcz3_3 : w2.cell? ⟨gb101, 3, none⟩ = some (.slice A0_3 l0_3.length c0_3) := (blk_cell BK101.out 3).trans rfl; have hfz3_0 := blk_frozen BK101.out 0; have hfz3_1 := blk_frozen BK101.out 1; have hfz3_2 := blk_frozen BK101.out 2; have hfz3_3 := blk_frozen BK101.out 3))
 go_loopg [3, 13] k (fun kq v3 v13 w' => ∃ (x3_1 : Int) (x13_1 : Int), v3 = .int .i64 x3_1 ∧ v13 = .int .i64 x13_1 ∧ Aside0 (wickerlaw02_Small.l0 kq x3_1 l0_3 (l0_3.length : Int) x13_1 l0_0 l0_1 a0_2 l0_3 = some r) ∧ Aside0 (kq ≤ k) ∧ Aside0 (w'.heap[gb101]? = some (.cells #[(.slice A0_0 l0_0.length c0_0), (.slice A0_1 l0_1.length c0_1), .int .i64 a0_2, (.slice A0_3 l0_3.length c0_3)] 25 (0, 0))) ∧ Aside0 (Below w.heap.size w w'))
 case atStart => exact ⟨(0), (0), (by first | rfl | (simp; done) | (simp [*]; done)), (by first | rfl | (simp; done) | (simp [*]; done)), H', ⟨Nat.le_refl _⟩, ⟨by (with_reducible repeat (first | refine blk_drewN ?_ _ | refine blk_drew ?_ | refine blk_alloc ?_ _)); exact BK101.out⟩, ⟨by repeat (first | (with_reducible first | exact HB.out | apply below_alloc | apply pw_below_drewN | apply below_drew1 | refine below_set ?_ GE101.out) | exact HB.out)⟩⟩
 case round =>
  clear H'
  try clear c1
  try clear p2
  try clear hcz3_0
  try clear hcz3_1
  try clear hcz3_2
  try clear hcz3_3
  try clear hfz3_0
  try clear hfz3_1
  try clear hfz3_2
  try clear hfz3_3
  obtain ⟨x3_1, x13_1, rfl, rfl, HA, HK1, BK101, HB⟩ := hrel
  cases gk with
  | zero => exact absurd HA.out (by simp [wickerlaw02_Small.l0])
  | succ k1 =>
   have H := HA.out
   clear HA
   simp only [wickerlaw02_Small.l0] at H
   by_cases c4 : x13_1 < (l0_3.length : Int)
   ·rw [if_pos c4] at H
    have c4b0 : decide (x13_1 < (l0_3.length : Int)) = true := decide_eq_true c4
    clear c4
    by_cases c5 : 0 ≤ x13_1
    ·rw [if_pos c5] at H
     have c5b0 : decide (0 ≤ x13_1) = true := decide_eq_true c5
     clear c5
     by_cases c6 : x13_1 < (l0_3.length : Int)
     ·rw [if_pos c6] at H
      have c6b0 : decide (x13_1 < (l0_3.length : Int)) = true := decide_eq_true c6
      clear c6
      have H' := Aside0.mk H
      clear H
      have p102 : 0 ≤ (x13_1 : Int) := of_decide_eq_true (by first | (with_reducible assumption) | assumption)
      have q102 : x13_1 < (l0_3.length : Int) := of_decide_eq_true (by first | (with_reducible assumption) | assumption)
      obtain ⟨ad102, A102_1, c102_1, e102, hx102_0, hx102_1, hl102_1, hi102_1⟩ := at_T32 HR0_3.out x13_1 p102 q102
      cases e102
      replace hx102_0 := (HB.out.cell (World.block_lt_of_cell? w _ hx102_0)).trans hx102_0
      replace hx102_1 := (HB.out.cell (World.block_lt_of_cell? w _ hx102_1)).trans hx102_1
      have HR102_1 := Aside0.mk hi102_1
      have HC102_1 := Aside0.mk hl102_1
      clear hi102_1 hl102_1
      replace p102 := eq_true p102
      replace q102 := eq_true q102
      go_wp2_with (first | ((with_reducible refine gate_dst (N := 5) rfl ?_); (try (refine gate_guard (by rfl) ?_; dsimp only)); refine box_event ?hg (N := 5) ?hd (cs := #[.int .i64 0, .slice none 0 0]) (t := 32) ?hr ?_; (case hd => rfl); (case hg => rfl); (case hr => first | (go_simp; done) | (go_simp; rfl)); intro gb103 hg w7 hbox hb; have n0_ := Aside0.mk (blk_below (g := gb101) (o := .cells #[.slice A0_0 l0_0.length c0_0, .slice A0_1 l0_1.length c0_1, .int .i64 a0_2, .slice (some ad102) l0_3.length c0_3] 25 (0, 0)) (by (with_reducible repeat (first | refine blk_drewN ?_ _ | refine blk_drew ?_ | refine blk_alloc ?_ _)); exact BK101.out) hb); have n1_ := Aside0.mk (below_step (by repeat (first | (with_reducible first | exact HB.out | apply below_alloc | apply pw_below_drewN | apply below_drew1 | refine below_set ?_ GE101.out) | exact HB.out)) hb); have n2_ := Aside0.mk (hbox); have n3_ := Aside0.mk ((by rw [hg]; exact (below_size (by repeat (first | (with_reducible first | exact HB.out | apply below_alloc | apply pw_below_drewN | apply below_drew1 | refine below_set ?_ GE101.out) | exact HB.out))) : w.heap.size ≤ gb103)); have n4_ := Aside0.mk ((by rw [hg]; exact (below_size (by repeat (first | (with_reducible first | exact HB.out | apply below_alloc | apply pw_below_drewN | apply below_drew1 | refine below_set ?_ GE101.out) | exact HB.out))) : w.heap.size ≤ gb103)); have n5_ := Aside0.mk ((by rw [hg]; exact Nat.ne_of_lt (blk_lt (g := gb101) (o := .cells #[.slice A0_0 l0_0.length c0_0, .slice A0_1 l0_1.length c0_1, .int .i64 a0_2, .slice (some ad102) l0_3.length c0_3] 25 (0, 0)) (by (with_reducible repeat (first | refine blk_drewN ?_ _ | refine blk_drew ?_ | refine blk_alloc ?_ _)); exact BK101.out)) : gb101 ≠ gb103)); have n6_ := Aside0.mk ((by rw [hg]; exact Nat.ne_of_gt (blk_lt (g := gb101) (o := .cells #[.slice A0_0 l0_0.length c0_0, .slice A0_1 l0_1.length c0_1, .int .i64 a0_2, .slice (some ad102) l0_3.length c0_3] 25 (0, 0)) (by (with_reducible repeat (first | refine blk_drewN ?_ _ | refine blk_drew ?_ | refine blk_alloc ?_ _)); exact BK101.out)) : gb103 ≠ gb101)); clear BK101; clear HB; have BK101 := n0_; have HB := n1_; have BK103 := n2_; have GW103 := n3_; have GE103 := n4_; have NB101_103 := n5_; have NB103_101 := n6_; clear n0_ n1_ n2_ n3_ n4_ n5_ n6_; clear hb hbox hg; have hnb8 := NB103_101.out; have hnc8 := NB101_103.out; have hcz9_0 : w7.cell? ⟨gb103, 0, none⟩ = some (.int .i64 0) := (blk_cell BK103.out 0).trans rfl; have hcz9_1 : w7.cell? ⟨gb103, 1, none⟩ = some (.slice none 0 0) := (blk_cell BK103.out 1).trans rfl; have hfz9_0 := blk_frozen BK103.out 0; have hfz9_1 := blk_frozen BK103.out 1))
      go_roundg k1
      case measure => have := HK1.out; omega
      case rel => exact ⟨(wrap64 (x3_1 + (wrap64 (1 + (((rd_T32 l0_3 x13_1).f1).length : Int))))), (wrap64 (x13_1 + 1)), (by first | rfl | (simp; done) | (simp [*]; done)), (by first | rfl | (simp; done) | (simp [*]; done)), H', ⟨by have := HK1.out; omega⟩, ⟨by (with_reducible repeat (first | refine blk_drewN ?_ _ | refine blk_drew ?_ | refine blk_alloc ?_ _)); refine blk_far ?_ NB101_103.out _; (with_reducible repeat (first | refine blk_drewN ?_ _ | refine blk_drew ?_ | refine blk_alloc ?_ _)); refine blk_far ?_ NB101_103.out _; (with_reducible repeat (first | refine blk_drewN ?_ _ | refine blk_drew ?_ | refine blk_alloc ?_ _)); exact BK101.out⟩, ⟨by repeat (first | (with_reducible first | exact HB.out | apply below_alloc | apply pw_below_drewN | apply below_drew1 | refine below_set ?_ GE101.out | refine below_set ?_ GE103.out) | exact HB.out)⟩⟩
     ·rw [if_neg c6] at H
      exact absurd H (by simp)
    ·rw [if_neg c5] at H
     exact absurd H (by simp)
   ·rw [if_neg c4] at H
    have c4b0 : decide (x13_1 < (l0_3.length : Int)) = false := decide_eq_false c4
    clear c4
    have H' := Aside0.mk H
    clear H
    have hcz10_0 : wr.cell? ⟨gb101, 0, none⟩ = some (.slice A0_0 l0_0.length c0_0) := (blk_cell BK101.out 0).trans rfl
    have hcz10_1 : wr.cell? ⟨gb101, 1, none⟩ = some (.slice A0_1 l0_1.length c0_1) := (blk_cell BK101.out 1).trans rfl
    have hcz10_2 : wr.cell? ⟨gb101, 2, none⟩ = some (.int .i64 a0_2) := (blk_cell BK101.out 2).trans rfl
    have hcz10_3 : wr.cell? ⟨gb101, 3, none⟩ = some (.slice A0_3 l0_3.length c0_3) := (blk_cell BK101.out 3).trans rfl
    have hfz10_0 := blk_frozen BK101.out 0
    have hfz10_1 := blk_frozen BK101.out 1
    have hfz10_2 := blk_frozen BK101.out 2
    have hfz10_3 := blk_frozen BK101.out 3
    go_wp2
    go_loopg [3, 27] k1 (fun kq v3 v27 w' => ∃ (x3_2 : Int) (x27_2 : Int), v3 = .int .i64 x3_2 ∧ v27 = .int .i64 x27_2 ∧ Aside0 (wickerlaw02_Small.l1 kq x3_2 l0_0 (l0_0.length : Int) x27_2 l0_0 l0_1 a0_2 l0_3 = some r) ∧ Aside0 (kq ≤ k1) ∧ Aside0 (w'.heap[gb101]? = some (.cells #[(.slice A0_0 l0_0.length c0_0), (.slice A0_1 l0_1.length c0_1), .int .i64 a0_2, (.slice A0_3 l0_3.length c0_3)] 25 (0, 0))) ∧ Aside0 (Below w.heap.size w w'))
    case atStart => exact ⟨(x3_1), (0), (by first | rfl | (simp; done) | (simp [*]; done)), (by first | rfl | (simp; done) | (simp [*]; done)), H', ⟨Nat.le_refl _⟩, ⟨by (with_reducible repeat (first | refine blk_drewN ?_ _ | refine blk_drew ?_ | refine blk_alloc ?_ _)); exact BK101.out⟩, ⟨by repeat (first | (with_reducible first | exact HB.out | apply below_alloc | apply pw_below_drewN | apply below_drew1 | refine below_set ?_ GE101.out) | exact HB.out)⟩⟩
    case round =>
     clear H'
     try clear c1
     try clear p1
     try clear q1
     try clear hx1
     try clear p2
     try clear c4
     try clear c4b0
     try clear c5
     try clear c5b0
     try clear c6
     try clear c6b0
     try clear p6
     try clear c8
     try clear c10
     try clear p10
     try clear q10
     try clear hx10
     try clear hcz10_0
     try clear hcz10_1
     try clear hcz10_2
     try clear hcz10_3
     try clear hcz3_0
     try clear hcz3_1
     try clear hcz3_2
     try clear hcz3_3
     try clear hcz9_0
     try clear hcz9_1
     try clear hfz10_0
     try clear hfz10_1
     try clear hfz10_2
     try clear hfz10_3
     try clear hfz3_0
     try clear hfz3_1
     try clear hfz3_2
     try clear hfz3_3
     try clear hfz9_0
     try clear hfz9_1
     try clear hx102_0
     try clear hx102_1
     try clear p102
     try clear p2
     try clear q102
     obtain ⟨x3_2, x27_2, rfl, rfl, HA, HK2, BK101, HB⟩ := hrel
     cases gk with
     | zero => exact absurd HA.out (by simp [wickerlaw02_Small.l1])
     | succ k2 =>
      have H := HA.out
      clear HA
      simp only [wickerlaw02_Small.l1] at H
      by_cases c11 : x27_2 < (l0_0.length : Int)
      ·rw [if_pos c11] at H
       have c11b0 : decide (x27_2 < (l0_0.length : Int)) = true := decide_eq_true c11
       clear c11
       by_cases c12 : 0 ≤ x27_2
       ·rw [if_pos c12] at H
        have c12b0 : decide (0 ≤ x27_2) = true := decide_eq_true c12
        clear c12
        by_cases c13 : x27_2 < (l0_0.length : Int)
        ·rw [if_pos c13] at H
         have c13b0 : decide (x27_2 < (l0_0.length : Int)) = true := decide_eq_true c13
         clear c13
         have H' := Aside0.mk H
         clear H
         have p104 : 0 ≤ (x27_2 : Int) := of_decide_eq_true (by first | (with_reducible assumption) | assumption)
         have q104 : x27_2 < (l0_0.length : Int) := of_decide_eq_true (by first | (with_reducible assumption) | assumption)
         obtain ⟨ad104, e104, hx104_0⟩ := Kd.at_string HR0_0.out x27_2 p104 q104
         cases e104
         replace hx104_0 := (HB.out.cell (World.block_lt_of_cell? w _ hx104_0)).trans hx104_0
         replace p104 := eq_true p104
         replace q104 := eq_true q104
         go_wp2
         go_roundg k2
         case measure => have := HK1.out; have := HK2.out; omega
         case rel => exact ⟨(wrap64 (x3_2 + (wrap64 (((rdOf ByteArray.empty l0_0 x27_2).size : Int) / 16)))), (wrap64 (x27_2 + 1)), (by first | rfl | (simp; done) | (simp [*]; done)), (by first | rfl | (simp; done) | (simp [*]; done)), H', ⟨by have := HK1.out; have := HK2.out; omega⟩, ⟨by (with_reducible repeat (first | refine blk_drewN ?_ _ | refine blk_drew ?_ | refine blk_alloc ?_ _)); exact BK101.out⟩, ⟨by repeat (first | (with_reducible first | exact HB.out | apply below_alloc | apply pw_below_drewN | apply below_drew1 | refine below_set ?_ GE101.out) | exact HB.out)⟩⟩
        ·rw [if_neg c13] at H
         exact absurd H (by simp)
       ·rw [if_neg c12] at H
        exact absurd H (by simp)
      ·rw [if_neg c11] at H
       have c11b0 : decide (x27_2 < (l0_0.length : Int)) = false := decide_eq_false c11
       clear c11
       have H' := Aside0.mk H
       clear H
       have hcz14_0 : wr.cell? ⟨gb101, 0, none⟩ = some (.slice A0_0 l0_0.length c0_0) := (blk_cell BK101.out 0).trans rfl
       have hcz14_1 : wr.cell? ⟨gb101, 1, none⟩ = some (.slice A0_1 l0_1.length c0_1) := (blk_cell BK101.out 1).trans rfl
       have hcz14_2 : wr.cell? ⟨gb101, 2, none⟩ = some (.int .i64 a0_2) := (blk_cell BK101.out 2).trans rfl
       have hcz14_3 : wr.cell? ⟨gb101, 3, none⟩ = some (.slice A0_3 l0_3.length c0_3) := (blk_cell BK101.out 3).trans rfl
       have hfz14_0 := blk_frozen BK101.out 0
       have hfz14_1 := blk_frozen BK101.out 1
       have hfz14_2 := blk_frozen BK101.out 2
       have hfz14_3 := blk_frozen BK101.out 3
       go_wp2
       go_loopg [3, 40] k2 (fun kq v3 v40 w' => ∃ (x3_3 : Int) (x40_3 : Int), v3 = .int .i64 x3_3 ∧ v40 = .int .i64 x40_3 ∧ Aside0 (wickerlaw02_Small.l2 kq x3_3 l0_1 (l0_1.length : Int) x40_3 l0_0 l0_1 a0_2 l0_3 = some r) ∧ Aside0 (kq ≤ k2) ∧ Aside0 (w'.heap[gb101]? = some (.cells #[(.slice A0_0 l0_0.length c0_0), (.slice A0_1 l0_1.length c0_1), .int .i64 a0_2, (.slice A0_3 l0_3.length c0_3)] 25 (0, 0))) ∧ Aside0 (Below w.heap.size w w'))
       case atStart => exact ⟨(x3_2), (0), (by first | rfl | (simp; done) | (simp [*]; done)), (by first | rfl | (simp; done) | (simp [*]; done)), H', ⟨Nat.le_refl _⟩, ⟨by (with_reducible repeat (first | refine blk_drewN ?_ _ | refine blk_drew ?_ | refine blk_alloc ?_ _)); exact BK101.out⟩, ⟨by repeat (first | (with_reducible first | exact HB.out | apply below_alloc | apply pw_below_drewN | apply below_drew1 | refine below_set ?_ GE101.out) | exact HB.out)⟩⟩
       case round =>
        clear H'
        try clear c1
        try clear p1
        try clear q1
        try clear hx1
        try clear p2
        try clear c4
        try clear c4b0
        try clear c5
        try clear c5b0
        try clear c6
        try clear c6b0
        try clear p6
        try clear c8
        try clear c10
        try clear p10
        try clear q10
        try clear hx10
        try clear c11
        try clear c11b0
        try clear c12
        try clear c12b0
        try clear c13
        try clear c13b0
        try clear hcz10_0
        try clear hcz10_1
        try clear hcz10_2
        try clear hcz10_3
        try clear hcz14_0
        try clear hcz14_1
        try clear hcz14_2
        try clear hcz14_3
        try clear hcz3_0
        try clear hcz3_1
        try clear hcz3_2
        try clear hcz3_3
        try clear hcz9_0
        try clear hcz9_1
        try clear hfz10_0
        try clear hfz10_1
        try clear hfz10_2
        try clear hfz10_3
        try clear hfz14_0
        try clear hfz14_1
        try clear hfz14_2
        try clear hfz14_3
        try clear hfz3_0
        try clear hfz3_1
        try clear hfz3_2
        try clear hfz3_3
        try clear hfz9_0
        try clear hfz9_1
        try clear hx102_0
        try clear hx102_1
        try clear hx104_0
        try clear p1
        try clear p10
        try clear p102
        try clear p104
        try clear p2
        try clear p6
        try clear q1
        try clear q10
        try clear q102
        try clear q104
        obtain ⟨x3_3, x40_3, rfl, rfl, HA, HK3, BK101, HB⟩ := hrel
        cases gk with
        | zero => exact absurd HA.out (by simp [wickerlaw02_Small.l2])
        | succ k3 =>
         have H := HA.out
         clear HA
         simp only [wickerlaw02_Small.l2] at H
         by_cases c15 : x40_3 < (l0_1.length : Int)
         ·rw [if_pos c15] at H
          have c15b0 : decide (x40_3 < (l0_1.length : Int)) = true := decide_eq_true c15
          clear c15
          by_cases c16 : 0 ≤ x40_3
          ·rw [if_pos c16] at H
           have c16b0 : decide (0 ≤ x40_3) = true := decide_eq_true c16
           clear c16
           by_cases c17 : x40_3 < (l0_1.length : Int)
           ·rw [if_pos c17] at H
            have c17b0 : decide (x40_3 < (l0_1.length : Int)) = true := decide_eq_true c17
            clear c17
            have H' := Aside0.mk H
            clear H
            have p105 : 0 ≤ (x40_3 : Int) := of_decide_eq_true (by first | (with_reducible assumption) | assumption)
            have q105 : x40_3 < (l0_1.length : Int) := of_decide_eq_true (by first | (with_reducible assumption) | assumption)
            obtain ⟨ad105, e105, hx105_0⟩ := Kd.at_string HR0_1.out x40_3 p105 q105
            cases e105
            replace hx105_0 := (HB.out.cell (World.block_lt_of_cell? w _ hx105_0)).trans hx105_0
            replace p105 := eq_true p105
            replace q105 := eq_true q105
            go_wp2
            go_roundg k3
            case measure => have := HK1.out; have := HK2.out; have := HK3.out; omega
            case rel => exact ⟨(wrap64 (x3_3 + (wrap64 (((rdOf ByteArray.empty l0_1 x40_3).size : Int) / 16)))), (wrap64 (x40_3 + 1)), (by first | rfl | (simp; done) | (simp [*]; done)), (by first | rfl | (simp; done) | (simp [*]; done)), H', ⟨by have := HK1.out; have := HK2.out; have := HK3.out; omega⟩, ⟨by (with_reducible repeat (first | refine blk_drewN ?_ _ | refine blk_drew ?_ | refine blk_alloc ?_ _)); exact BK101.out⟩, ⟨by repeat (first | (with_reducible first | exact HB.out | apply below_alloc | apply pw_below_drewN | apply below_drew1 | refine below_set ?_ GE101.out) | exact HB.out)⟩⟩
           ·rw [if_neg c17] at H
            exact absurd H (by simp)
          ·rw [if_neg c16] at H
           exact absurd H (by simp)
         ·rw [if_neg c15] at H
          have c15b0 : decide (x40_3 < (l0_1.length : Int)) = false := decide_eq_false c15
          clear c15
          by_cases c18 : x3_3 ≤ 600
          ·rw [if_pos c18] at H
           have c18b0 : decide (x3_3 ≤ 600) = true := decide_eq_true c18
           clear c18
           by_cases c19 : (l0_0.length : Int) ≤ 60
           ·rw [if_pos c19] at H
            have c19b0 : decide ((l0_0.length : Int) ≤ 60) = true := decide_eq_true c19
            have c19b1 : decide (l0_0.length ≤ 60) = true := decide_eq_true (by omega)
            clear c19
            by_cases c20 : (l0_1.length : Int) ≤ 60
            ·rw [if_pos c20] at H
             have c20b0 : decide ((l0_1.length : Int) ≤ 60) = true := decide_eq_true c20
             have c20b1 : decide (l0_1.length ≤ 60) = true := decide_eq_true (by omega)
             clear c20
             obtain rfl := Option.some.inj H
             have hcz21_0 : wr.cell? ⟨gb101, 0, none⟩ = some (.slice A0_0 l0_0.length c0_0) := (blk_cell BK101.out 0).trans rfl
             have hcz21_1 : wr.cell? ⟨gb101, 1, none⟩ = some (.slice A0_1 l0_1.length c0_1) := (blk_cell BK101.out 1).trans rfl
             have hcz21_2 : wr.cell? ⟨gb101, 2, none⟩ = some (.int .i64 a0_2) := (blk_cell BK101.out 2).trans rfl
             have hcz21_3 : wr.cell? ⟨gb101, 3, none⟩ = some (.slice A0_3 l0_3.length c0_3) := (blk_cell BK101.out 3).trans rfl
             have hfz21_0 := blk_frozen BK101.out 0
             have hfz21_1 := blk_frozen BK101.out 1
             have hfz21_2 := blk_frozen BK101.out 2
             have hfz21_3 := blk_frozen BK101.out 3
             go_wp2
             go_ret
             exact ⟨by first | rfl | (simp [errW_none, errW_some] <;> rfl) | (simp [*, errW_none, errW_some] <;> rfl), by repeat (first | (with_reducible first | exact HB.out | apply below_alloc | apply pw_below_drewN | apply below_drew1 | refine below_set ?_ GE101.out) | exact HB.out)⟩
            ·rw [if_neg c20] at H
             have c20b0 : decide ((l0_1.length : Int) ≤ 60) = false := decide_eq_false c20
             have c20b1 : decide (l0_1.length ≤ 60) = false := decide_eq_false (by omega)
             clear c20
             obtain rfl := Option.some.inj H
             have hcz22_0 : wr.cell? ⟨gb101, 0, none⟩ = some (.slice A0_0 l0_0.length c0_0) := (blk_cell BK101.out 0).trans rfl
             have hcz22_1 : wr.cell? ⟨gb101, 1, none⟩ = some (.slice A0_1 l0_1.length c0_1) := (blk_cell BK101.out 1).trans rfl
             have hcz22_2 : wr.cell? ⟨gb101, 2, none⟩ = some (.int .i64 a0_2) := (blk_cell BK101.out 2).trans rfl
             have hcz22_3 : wr.cell? ⟨gb101, 3, none⟩ = some (.slice A0_3 l0_3.length c0_3) := (blk_cell BK101.out 3).trans rfl
             have hfz22_0 := blk_frozen BK101.out 0
             have hfz22_1 := blk_frozen BK101.out 1
             have hfz22_2 := blk_frozen BK101.out 2
             have hfz22_3 := blk_frozen BK101.out 3
             go_wp2
             go_ret
             exact ⟨by first | rfl | (simp [errW_none, errW_some] <;> rfl) | (simp [*, errW_none, errW_some] <;> rfl), by repeat (first | (with_reducible first | exact HB.out | apply below_alloc | apply pw_below_drewN | apply below_drew1 | refine below_set ?_ GE101.out) | exact HB.out)⟩
           ·rw [if_neg c19] at H
            have c19b0 : decide ((l0_0.length : Int) ≤ 60) = false := decide_eq_false c19
            have c19b1 : decide (l0_0.length ≤ 60) = false := decide_eq_false (by omega)
            clear c19
            obtain rfl := Option.some.inj H
            have hcz23_0 : wr.cell? ⟨gb101, 0, none⟩ = some (.slice A0_0 l0_0.length c0_0) := (blk_cell BK101.out 0).trans rfl
            have hcz23_1 : wr.cell? ⟨gb101, 1, none⟩ = some (.slice A0_1 l0_1.length c0_1) := (blk_cell BK101.out 1).trans rfl
            have hcz23_2 : wr.cell? ⟨gb101, 2, none⟩ = some (.int .i64 a0_2) := (blk_cell BK101.out 2).trans rfl
            have hcz23_3 : wr.cell? ⟨gb101, 3, none⟩ = some (.slice A0_3 l0_3.length c0_3) := (blk_cell BK101.out 3).trans rfl
            have hfz23_0 := blk_frozen BK101.out 0
            have hfz23_1 := blk_frozen BK101.out 1
            have hfz23_2 := blk_frozen BK101.out 2
            have hfz23_3 := blk_frozen BK101.out 3
            go_wp2
            go_ret
            exact ⟨by first | rfl | (simp [errW_none, errW_some] <;> rfl) | (simp [*, errW_none, errW_some] <;> rfl), by repeat (first | (with_reducible first | exact HB.out | apply below_alloc | apply pw_below_drewN | apply below_drew1 | refine below_set ?_ GE101.out) | exact HB.out)⟩
          ·rw [if_neg c18] at H
           have c18b0 : decide (x3_3 ≤ 600) = false := decide_eq_false c18
           clear c18
           obtain rfl := Option.some.inj H
           go_wp2
           go_ret
           exact ⟨by first | rfl | (simp [errW_none, errW_some] <;> rfl) | (simp [*, errW_none, errW_some] <;> rfl), by repeat (first | (with_reducible first | exact HB.out | apply below_alloc | apply pw_below_drewN | apply below_drew1 | refine below_set ?_ GE101.out) | exact HB.out)⟩
def wickerlaw02_OfRule.l0 : Nat → List Int → Int → Int → Int → List Int → Option (Int × List Int)
 | 0, _, _, _, _, _ => none
 | k + 1, x10, x11, x12, x104000, x104001 => if x12 < x11 then (if 0 ≤ x12 then (if x12 < (x10.length : Int) then (if x104001.length < 17592186044416 then (wickerlaw02_OfRule.l0 k x10 x11 (wrap64 (x12 + 1)) x104000 (x104001 ++ [rd x10 x12])) else (none)) else (none)) else (none)) else (some (x104000, x104001))
def wickerlaw02_OfRule.f (k : Nat) (a0_0 : Int) (l0_1 : List Int) : Option (Int × List Int) := wickerlaw02_OfRule.l0 k l0_1 (l0_1.length : Int) 0 a0_0 ([] : List Int)
set_option maxHeartbeats 8000000 in
set_option maxRecDepth 100000 in
theorem wickerlaw02_OfRule.calls (k : Nat) (a0_0 : Int) (A0_1 : Option Addr) (c0_1 : Nat) (l0_1 : List Int) (r1 : Int) (r2 : List Int) (w : World) (hr0_1 : Kd.C (Kd.int .i64) w A0_1 l0_1.length l0_1) (hc0_1 : l0_1.length ≤ c0_1) (h : wickerlaw02_OfRule.f k a0_0 l0_1 = some (r1, r2)) :
  Calls Tryd.prog 41 #[.agg #[.int .i64 a0_0, .slice A0_1 l0_1.length c0_1]] w fun e w' => ∃ v1_ : Value, e = .returned (.agg #[.int .i64 r1, v1_]) ∧ Kd.R (Kd.int .i64) 3 w' w.heap.size (fun _ => True) v1_ r2 ∧ Below w.heap.size w w' := by
 have hu32 := Tryd.underlying32
 have hu87 := Tryd.underlying87
 have HR0_1 := Aside0.mk hr0_1
 have HC0_1 := Aside0.mk hc0_1
 clear hr0_1 hc0_1
 have HB := Aside0.mk (Below.refl w.heap.size w)
 have H : (wickerlaw02_OfRule.l0 k l0_1 (l0_1.length : Int) 0 a0_0 ([] : List Int)) = some (r1, r2) := h
 clear h
 have H' := Aside0.mk H
 clear H
 go_enter Tryd.func41, Tryd.ntmps41
 go_wp2_with (first | ((with_reducible refine gate_dst (N := 1) rfl ?_); refine box_event ?hg (N := 1) ?hd (cs := #[.int .i64 a0_0, .slice A0_1 l0_1.length c0_1]) (t := 32) ?hr ?_; (case hd => rfl); (case hg => rfl); (case hr => first | (go_simp; done) | (go_simp; rfl)); intro gb101 hg w2 hbox hb; have n0_ := Aside0.mk (below_step (by repeat (first | (with_reducible first | exact HB.out | apply below_alloc | apply pw_below_drewN | apply below_drew1) | exact HB.out)) hb); have n1_ := Aside0.mk (hbox); have n2_ := Aside0.mk ((by rw [hg]; exact (below_size (by repeat (first | (with_reducible first | exact HB.out | apply below_alloc | apply pw_below_drewN | apply below_drew1) | exact HB.out))) : w.heap.size ≤ gb101)); have n3_ := Aside0.mk ((by rw [hg]; exact (below_size (by repeat (first | (with_reducible first | exact HB.out | apply below_alloc | apply pw_below_drewN | apply below_drew1) | exact HB.out))) : w.heap.size ≤ gb101)); clear HB; have HB := n0_; have BK101 := n1_; have GW101 := n2_; have GE101 := n3_; clear n0_ n1_ n2_ n3_; clear hb hbox hg) | ((with_reducible refine gate_dst (N := 2) rfl ?_); refine box_event ?hg (N := 2) ?hd (cs := #[.int .i64 0, .slice none 0 0]) (t := 87) ?hr ?_; (case hd => rfl); (case hg => rfl); (case hr => first | (go_simp; done) | (go_simp; rfl)); intro gb102 hg w3 hbox hb; have n0_ := Aside0.mk (blk_below (g := gb101) (o := .cells #[.int .i64 a0_0, .slice A0_1 l0_1.length c0_1] 32 (0, 0)) (by (with_reducible repeat (first | refine blk_drewN ?_ _ | refine blk_drew ?_ | refine blk_alloc ?_ _)); exact BK101.out) hb); have n1_ := Aside0.mk (below_step (by repeat (first | (with_reducible first | exact HB.out | apply below_alloc | apply pw_below_drewN | apply below_drew1 | refine below_set ?_ GE101.out) | exact HB.out)) hb); have n2_ := Aside0.mk (hbox); have n3_ := Aside0.mk ((by rw [hg]; exact (below_size (by repeat (first | (with_reducible first | exact HB.out | apply below_alloc | apply pw_below_drewN | apply below_drew1 | refine below_set ?_ GE101.out) | exact HB.out))) : w.heap.size ≤ gb102)); have n4_ := Aside0.mk ((by rw [hg]; exact (below_size (by repeat (first | (with_reducible first | exact HB.out | apply below_alloc | apply pw_below_drewN | apply below_drew1 | refine below_set ?_ GE101.out) | exact HB.out))) : w.heap.size ≤ gb102)); have n5_ := Aside0.mk ((by rw [hg]; exact Nat.ne_of_lt (blk_lt (g := gb101) (o := .cells #[.int .i64 a0_0, .slice A0_1 l0_1.length c0_1] 32 (0, 0)) (by (with_reducible repeat (first | refine blk_drewN ?_ _ | refine blk_drew ?_ | refine blk_alloc ?_ _)); exact BK101.out)) : gb101 ≠ gb102)); have n6_ := Aside0.mk ((by rw [hg]; exact Nat.ne_of_gt (blk_lt (g := gb101) (o := .cells #[.int .i64 a0_0, .slice A0_1 l0_1.length c0_1] 32 (0, 0)) (by (with_reducible repeat (first | refine blk_drewN ?_ _ | refine blk_drew ?_ | refine blk_alloc ?_ _)); exact BK101.out)) : gb102 ≠ gb101)); clear BK101; clear HB; have BK101 := n0_; have HB := n1_; have BK102 := n2_; have GW102 := n3_; have GE102 := n4_; have NB101_102 := n5_; have NB102_101 := n6_; clear n0_ n1_ n2_ n3_ n4_ n5_ n6_; clear hb hbox hg; have hnb4 := NB101_102.out; have hnc4 := NB102_101.out; have hcz5_0 : w3.cell? ⟨gb101, 0, none⟩ = some (.int .i64 a0_0) := (blk_cell BK101.out 0).trans rfl; have hcz5_1 : w3.cell? ⟨gb101, 1, none⟩ = some (.slice A0_1 l0_1.length c0_1) := (blk_cell BK101.out 1).trans rfl; have hfz5_0 := blk_frozen BK101.out 0; have hfz5_1 := blk_frozen BK101.out 1) | ((with_reducible refine gate_dst (N := 3) rfl ?_); refine box_event ?hg (N := 3) ?hd (cs := #[.int .i64 0, .slice none 0 0]) (t := 87) ?hr ?_; (case hd => rfl); (case hg => rfl); (case hr => first | (go_simp; done) | (go_simp; rfl)); intro gb103 hg w6 hbox hb; have n0_ := Aside0.mk (blk_below (g := gb101) (o := .cells #[.int .i64 a0_0, .slice A0_1 l0_1.length c0_1] 32 (0, 0)) (by (with_reducible repeat (first | refine blk_drewN ?_ _ | refine blk_drew ?_ | refine blk_alloc ?_ _)); exact BK101.out) hb); have n1_ := Aside0.mk (blk_below (g := gb102) (o := .cells #[.int .i64 0, .slice none 0 0] 87 (0, 0)) (by (with_reducible repeat (first | refine blk_drewN ?_ _ | refine blk_drew ?_ | refine blk_alloc ?_ _)); exact BK102.out) hb); have n2_ := Aside0.mk (below_step (by repeat (first | (with_reducible first | exact HB.out | apply below_alloc | apply pw_below_drewN | apply below_drew1 | refine below_set ?_ GE101.out | refine below_set ?_ GE102.out) | exact HB.out)) hb); have n3_ := Aside0.mk (hbox); have n4_ := Aside0.mk ((by rw [hg]; exact (below_size (by repeat (first | (with_reducible first | exact HB.out | apply below_alloc | apply pw_below_drewN | apply below_drew1 | refine below_set ?_ GE101.out | refine below_set ?_ GE102.out) | exact HB.out))) : w.heap.size ≤ gb103)); have n5_ := Aside0.mk ((by rw [hg]; exact (below_size (by repeat (first | (with_reducible first | exact HB.out | apply below_alloc | apply pw_below_drewN | apply below_drew1 | refine below_set ?_ GE101.out | refine below_set ?_ GE102.out) | exact HB.out))) : w.heap.size ≤ gb103)); have n6_ := Aside0.mk ((by rw [hg]; exact Nat.ne_of_lt (blk_lt (g := gb101) (o := .cells #[.int .i64 a0_0, .slice A0_1 l0_1.length c0_1] 32 (0, 0)) (by (with_reducible repeat (first | refine blk_drewN ?_ _ | refine blk_drew ?_ | refine blk_alloc ?_ _)); exact BK101.out)) : gb101 ≠ gb103)); have n7_ := Aside0.mk ((by rw [hg]; exact Nat.ne_of_gt (blk_lt (g := gb101) (o := .cells #[.int .i64 a0_0, .slice A0_1 l0_1.length c0_1] 32 (0, 0)) (by (with_reducible repeat (first | refine blk_drewN ?_ _ | refine blk_drew ?_ | refine blk_alloc ?_ _)); exact BK101.out)) : gb103 ≠ gb101)); have n8_ := Aside0.mk ((by rw [hg]; exact Nat.ne_of_lt (blk_lt (g := gb102) (o := .cells #[.int .i64 0, .slice none 0 0] 87 (0, 0)) (by (with_reducible repeat (first | refine blk_drewN ?_ _ | refine blk_drew ?_ | refine blk_alloc ?_ _)); exact BK102.out)) : gb102 ≠ gb103)); have n9_ := Aside0.mk ((by rw [hg]; exact Nat.ne_of_gt (blk_lt (g := gb102) (o := .cells #[.int .i64 0, .slice none 0 0] 87 (0, 0)) (by (with_reducible repeat (first | refine blk_drewN ?_ _ | refine blk_drew ?_ | refine blk_alloc ?_ _)); exact BK102.out)) : gb103 ≠ gb102)); clear BK101; clear BK102; clear HB; have BK101 := n0_; have BK102 := n1_; have HB := n2_; have BK103 := n3_; have GW103 := n4_; have GE103 := n5_; have NB101_103 := n6_; have NB103_101 := n7_; have NB102_103 := n8_; have NB103_102 := n9_; clear n0_ n1_ n2_ n3_ n4_ n5_ n6_ n7_ n8_ n9_; clear hb hbox hg; have hnb7 := NB103_101.out; have hnc7 := NB101_103.out; have hnb8 := NB103_102.out; have hnc8 := NB102_103.out; have hcz9_0 : w6.cell? ⟨gb103, 0, none⟩ = some (.int .i64 0) := (blk_cell BK103.out 0).trans rfl; have hcz9_1 : w6.cell? ⟨gb103, 1, none⟩ = some (.slice none 0 0) := (blk_cell BK103.out 1).trans rfl; have hfz9_0 := blk_frozen BK103.out 0; have hfz9_1 := blk_frozen BK103.out 1; have hcz10_0 : w6.cell? ⟨gb101, 0, none⟩ = some (.int .i64 a0_0) := (blk_cell BK101.out 0).trans rfl; have hcz10_1 : w6.cell? ⟨gb101, 1, none⟩ = some (.slice A0_1 l0_1.length c0_1) := (blk_cell BK101.out 1).trans rfl; have hfz10_0 := blk_frozen BK101.out 0; have hfz10_1 := blk_frozen BK101.out 1))
 go_loopg [12] k (fun kq v12 w' => ∃ (x12_1 : Int) (x104001_1 : List Int) (u104001 : Value), v12 = .int .i64 x12_1 ∧ Aside0 (wickerlaw02_OfRule.l0 kq l0_1 (l0_1.length : Int) x12_1 a0_0 x104001_1 = some (r1, r2)) ∧ Aside0 (kq ≤ k) ∧ Aside0 (Kd.R (Kd.int .i64) 3 w' w.heap.size (fun _ => True) u104001 x104001_1) ∧ Aside0 (w'.heap[gb101]? = some (.cells #[.int .i64 a0_0, (.slice A0_1 l0_1.length c0_1)] 32 (0, 0))) ∧ Aside0 (w'.heap[gb102]? = some (.cells #[.int .i64 0, (.slice none 0 0)] 87 (0, 0))) ∧ Aside0 (w'.heap[gb103]? = some (.cells #[.int .i64 a0_0, u104001] 87 (0, 0))) ∧ Aside0 (Below w.heap.size w w'))
 case atStart => exact ⟨(0), (([] : List Int)), (.slice none 0 0), (by first | rfl | (simp; done) | (simp [*]; done)), H', ⟨Nat.le_refl _⟩, ⟨by first | exact Kd.R_nil _ _ _ _ _ | exact Kd.N_nil _ _ _ _ _ | exact Kd.V_nil _ _ _ _ _ | exact Kd.Q_nil _ _ _ _ _ | exact Kd.S_nil _ _ _ _ _⟩, ⟨by (with_reducible repeat (first | refine blk_drewN ?_ _ | refine blk_drew ?_ | refine blk_alloc ?_ _)); refine blk_far ?_ NB101_103.out _; (with_reducible repeat (first | refine blk_drewN ?_ _ | refine blk_drew ?_ | refine blk_alloc ?_ _)); refine blk_far ?_ NB101_103.out _; (with_reducible repeat (first | refine blk_drewN ?_ _ | refine blk_drew ?_ | refine blk_alloc ?_ _)); exact BK101.out⟩, ⟨by (with_reducible repeat (first | refine blk_drewN ?_ _ | refine blk_drew ?_ | refine blk_alloc ?_ _)); refine blk_far ?_ NB102_103.out _; (with_reducible repeat (first | refine blk_drewN ?_ _ | refine blk_drew ?_ | refine blk_alloc ?_ _)); refine blk_far ?_ NB102_103.out _; (with_reducible repeat (first | refine blk_drewN ?_ _ | refine blk_drew ?_ | refine blk_alloc ?_ _)); exact BK102.out⟩, ⟨by (with_reducible repeat (first | refine blk_drewN ?_ _ | refine blk_drew ?_ | refine blk_alloc ?_ _)); refine blk_put (cs := #[.int .i64 a0_0, .slice none 0 0]) ?_ 1 _ rfl; (with_reducible repeat (first | refine blk_drewN ?_ _ | refine blk_drew ?_ | refine blk_alloc ?_ _)); refine blk_put (cs := #[.int .i64 0, .slice none 0 0]) ?_ 0 _ rfl; (with_reducible repeat (first | refine blk_drewN ?_ _ | refine blk_drew ?_ | refine blk_alloc ?_ _)); exact BK103.out⟩, ⟨by repeat (first | (with_reducible first | exact HB.out | apply below_alloc | apply pw_below_drewN | apply below_drew1 | refine below_set ?_ GE101.out | refine below_set ?_ GE102.out | refine below_set ?_ GE103.out) | exact HB.out)⟩⟩
 case round =>
  clear H'
  try clear p2
  try clear c4
  try clear c7
  try clear c8
  try clear hcz10_0
  try clear hcz10_1
  try clear hcz5_0
  try clear hcz5_1
  try clear hcz9_0
  try clear hcz9_1
  try clear hfz10_0
  try clear hfz10_1
  try clear hfz5_0
  try clear hfz5_1
  try clear hfz9_0
  try clear hfz9_1
  obtain ⟨x12_1, x104001_1, u104001, rfl, HA, HK1, HO_104001, BK101, BK102, BK103, HB⟩ := hrel
  cases gk with
  | zero => exact absurd HA.out (by simp [wickerlaw02_OfRule.l0])
  | succ k1 =>
   have H := HA.out
   clear HA
   simp only [wickerlaw02_OfRule.l0] at H
   by_cases c11 : x12_1 < (l0_1.length : Int)
   ·rw [if_pos c11] at H
    have c11b0 : decide (x12_1 < (l0_1.length : Int)) = true := decide_eq_true c11
    clear c11
    by_cases c12 : 0 ≤ x12_1
    ·rw [if_pos c12] at H
     have c12b0 : decide (0 ≤ x12_1) = true := decide_eq_true c12
     clear c12
     by_cases c13 : x12_1 < (l0_1.length : Int)
     ·rw [if_pos c13] at H
      have c13b0 : decide (x12_1 < (l0_1.length : Int)) = true := decide_eq_true c13
      clear c13
      by_cases c14 : x104001_1.length < 17592186044416
      ·rw [if_pos c14] at H
       have LMc14 := Aside0.mk c14
       clear c14
       obtain ⟨y105, hy105⟩ : ∃ y_ : List Int, y_ = (x104001_1 ++ [rd l0_1 x12_1]) := ⟨_, rfl⟩
       replace H : (wickerlaw02_OfRule.l0 k1 l0_1 (l0_1.length : Int) (wrap64 (x12_1 + 1)) a0_0 y105) = some (r1, r2) := by first | (rw [hy105]; with_reducible exact H) | (have H2_ := (Option.bind_some _ _).symm.trans H; rw [hy105]; with_reducible exact H2_) | (have H2_ := (Option.bind_some _ _).symm.trans H; with_reducible exact H2_) | with_reducible exact H | (rw [hy105]; exact H) | exact H
       have Ny105 := Aside0.mk hy105
       clear hy105
       have H' := Aside0.mk H
       clear H
       have p104 : 0 ≤ (x12_1 : Int) := of_decide_eq_true (by first | (with_reducible assumption) | assumption)
       have q104 : x12_1 < (l0_1.length : Int) := of_decide_eq_true (by first | (with_reducible assumption) | assumption)
       obtain ⟨ad104, e104, hx104_0⟩ := Kd.at_int HR0_1.out x12_1 p104 q104
       cases e104
       replace hx104_0 := (HB.out.cell (World.block_lt_of_cell? w _ hx104_0)).trans hx104_0
       replace p104 := eq_true p104
       replace q104 := eq_true q104
       have hnb15 := NB103_101.out
       have hnc15 := NB101_103.out
       have hnb16 := NB103_102.out
       have hnc16 := NB102_103.out
       have hcz17_0 : wr.cell? ⟨gb103, 0, none⟩ = some (.int .i64 a0_0) := (blk_cell BK103.out 0).trans rfl
       have hcz17_1 : wr.cell? ⟨gb103, 1, none⟩ = some (u104001) := (blk_cell BK103.out 1).trans rfl
       have hfz17_0 := blk_frozen BK103.out 0
       have hfz17_1 := blk_frozen BK103.out 1
       go_wp2_with (first | ((with_reducible refine gate_builtin (b := .append) (xs := #[.tmp 17, .tmp 19]) rfl ?_); at_builtin; refine Kd.R_append (Kd.int .i64) (w0 := w) w.heap.size rfl (.tmp 17) (.tmp 19) 71 3 (.int .i64 0) 8 rfl Tryd.underlying71 info3 rfl (by decide) (by omega) u104001 x104001_1 (rd l0_1 x12_1) [.int .i64 (rd l0_1 x12_1)] (fun _ => True) (fun _ => False) rfl rfl ?aP (fun _ hk => hk.elim) ?aF ?aO ?aB ?aS ?aL ?_; (case aP => exact rfl); (case aB => exact (by repeat (first | (with_reducible first | exact HB.out | apply below_alloc | apply pw_below_drewN | apply below_drew1 | refine below_set ?_ GE101.out | refine below_set ?_ GE102.out | refine below_set ?_ GE103.out) | exact HB.out))); (case aF => exact (fun _ _ => trivial)); (case aO => exact (by (with_reducible repeat (first | apply Kd.R_alloc | apply Kd.R_drewN | apply Kd.R_drew)); exact HO_104001.out)); (case aS => exact (below_size (by repeat (first | (with_reducible first | exact HB.out | apply below_alloc | apply pw_below_drewN | apply below_drew1 | refine below_set ?_ GE101.out | refine below_set ?_ GE102.out | refine below_set ?_ GE103.out) | exact HB.out)))); (case aL => have := LMc14.out; omega); intro v106 w18 ho hb hg hat; rw [← Ny105.out] at ho; have n0_ := Aside0.mk (blk_grown (g := gb101) (o := .cells #[.int .i64 a0_0, .slice (some ad104) l0_1.length c0_1] 32 (0, 0)) (by (with_reducible repeat (first | refine blk_drewN ?_ _ | refine blk_drew ?_ | refine blk_alloc ?_ _)); exact BK101.out) hg (Kd.R_ne HO_104001.out BK101.out (by decide))); have n1_ := Aside0.mk (blk_grown (g := gb102) (o := .cells #[.int .i64 0, .slice none 0 0] 87 (0, 0)) (by (with_reducible repeat (first | refine blk_drewN ?_ _ | refine blk_drew ?_ | refine blk_alloc ?_ _)); exact BK102.out) hg (Kd.R_ne HO_104001.out BK102.out (by decide))); have n2_ := Aside0.mk (blk_grown (g := gb103) (o := .cells #[.int .i64 a0_0, u104001] 87 (0, 0)) (by (with_reducible repeat (first | refine blk_drewN ?_ _ | refine blk_drew ?_ | refine blk_alloc ?_ _)); exact BK103.out) hg (Kd.R_ne HO_104001.out BK103.out (by decide))); have n3_ := Aside0.mk (hb); have n4_ := Aside0.mk (ho); clear BK101; clear BK102; clear BK103; clear HB; clear HO_104001; have BK101 := n0_; have BK102 := n1_; have BK103 := n2_; have HB := n3_; have HO107 := n4_; clear n0_ n1_ n2_ n3_ n4_; clear ho hb hg hat; obtain ⟨Ao19, co19, eo19⟩ := Kd.R_slice HO107.out; subst eo19; have hcz20_0 : w18.cell? ⟨gb103, 0, none⟩ = some (.int .i64 a0_0) := (blk_cell BK103.out 0).trans rfl; have hcz20_1 : w18.cell? ⟨gb103, 1, none⟩ = some (u104001) := (blk_cell BK103.out 1).trans rfl; have hfz20_0 := blk_frozen BK103.out 0; have hfz20_1 := blk_frozen BK103.out 1))
       go_roundg k1
       case measure => have := HK1.out; omega
       case rel => exact ⟨(wrap64 (x12_1 + 1)), (y105), (.slice Ao19 y105.length co19), (by first | rfl | (simp; done) | (simp [*]; done)), H', ⟨by have := HK1.out; omega⟩, ⟨by (with_reducible repeat (first | apply Kd.R_alloc | apply Kd.R_drewN | apply Kd.R_drew)); exact Kd.R_mono (Kd.R_far (p := ⟨gb103, 1, none⟩) (Kd.R_types HO107.out BK103.out (by decide)) (fun _ hk => hk.2) (.slice Ao19 y105.length co19)) (fun _ hk => trivial)⟩, ⟨by (with_reducible repeat (first | refine blk_drewN ?_ _ | refine blk_drew ?_ | refine blk_alloc ?_ _)); refine blk_far ?_ NB101_103.out _; (with_reducible repeat (first | refine blk_drewN ?_ _ | refine blk_drew ?_ | refine blk_alloc ?_ _)); exact BK101.out⟩, ⟨by (with_reducible repeat (first | refine blk_drewN ?_ _ | refine blk_drew ?_ | refine blk_alloc ?_ _)); refine blk_far ?_ NB102_103.out _; (with_reducible repeat (first | refine blk_drewN ?_ _ | refine blk_drew ?_ | refine blk_alloc ?_ _)); exact BK102.out⟩, ⟨by (with_reducible repeat (first | refine blk_drewN ?_ _ | refine blk_drew ?_ | refine blk_alloc ?_ _)); refine blk_put (cs := #[.int .i64 a0_0, u104001]) ?_ 1 _ rfl; (with_reducible repeat (first | refine blk_drewN ?_ _ | refine blk_drew ?_ | refine blk_alloc ?_ _)); exact BK103.out⟩, ⟨by repeat (first | (with_reducible first | exact HB.out | apply below_alloc | apply pw_below_drewN | apply below_drew1 | refine below_set ?_ GE101.out | refine below_set ?_ GE102.out | refine below_set ?_ GE103.out) | exact HB.out)⟩⟩
      ·rw [if_neg c14] at H
       exact absurd H (by simp)
     ·rw [if_neg c13] at H
      exact absurd H (by simp)
    ·rw [if_neg c12] at H
     exact absurd H (by simp)
   ·rw [if_neg c11] at H
    have c11b0 : decide (x12_1 < (l0_1.length : Int)) = false := decide_eq_false c11
    clear c11
    simp only [Option.some.injEq, Prod.mk.injEq] at H
    obtain ⟨rfl, rfl⟩ := H
    have hnb21 := NB103_101.out
    have hnc21 := NB101_103.out
    have hnb22 := NB103_102.out
    have hnc22 := NB102_103.out
    have hcz23_0 : wr.cell? ⟨gb103, 0, none⟩ = some (.int .i64 a0_0) := (blk_cell BK103.out 0).trans rfl
    have hcz23_1 : wr.cell? ⟨gb103, 1, none⟩ = some (u104001) := (blk_cell BK103.out 1).trans rfl
    have hfz23_0 := blk_frozen BK103.out 0
    have hfz23_1 := blk_frozen BK103.out 1
    have hnb24 := NB102_101.out
    have hnc24 := NB101_102.out
    have hcz25_0 : wr.cell? ⟨gb102, 0, none⟩ = some (.int .i64 0) := (blk_cell BK102.out 0).trans rfl
    have hcz25_1 : wr.cell? ⟨gb102, 1, none⟩ = some (.slice none 0 0) := (blk_cell BK102.out 1).trans rfl
    have hfz25_0 := blk_frozen BK102.out 0
    have hfz25_1 := blk_frozen BK102.out 1
    obtain ⟨Ao26, co26, eo26⟩ := Kd.R_slice HO_104001.out
    subst eo26
    go_wp2
    refine bodyPost_ret (results_cell_row rfl _ _ gb102 87 #[.int .i64 a0_0, .slice Ao26 x104001_1.length co26] (0, 0) _ rfl (by (with_reducible repeat (first | refine blk_drewN ?_ _ | refine blk_drew ?_ | refine blk_alloc ?_ _)); refine blk_put (cs := #[.int .i64 a0_0, .slice none 0 0]) ?_ 1 _ rfl; (with_reducible repeat (first | refine blk_drewN ?_ _ | refine blk_drew ?_ | refine blk_alloc ?_ _)); refine blk_put (cs := #[.int .i64 0, .slice none 0 0]) ?_ 0 _ rfl; (with_reducible repeat (first | refine blk_drewN ?_ _ | refine blk_drew ?_ | refine blk_alloc ?_ _)); exact BK102.out) Tryd.underlying87 rfl (by kernel_rfl)) rfl ?_
    exact ⟨_, by first | rfl | (simp [errW_none, errW_some] <;> rfl) | (simp [*, errW_none, errW_some] <;> rfl), by (with_reducible repeat (first | apply Kd.R_alloc | apply Kd.R_drewN | apply Kd.R_drew)); exact Kd.R_mono (Kd.R_far (p := ⟨gb102, 1, none⟩) (Kd.R_far (p := ⟨gb102, 0, none⟩) (Kd.R_types HO_104001.out BK102.out (by decide)) (fun _ hk => hk.2) (.int .i64 a0_0)) (fun _ hk => hk.2) (.slice Ao26 x104001_1.length co26)) (fun _ hk => trivial), by repeat (first | (with_reducible first | exact HB.out | apply below_alloc | apply pw_below_drewN | apply below_drew1 | refine below_set ?_ GE101.out | refine below_set ?_ GE102.out | refine below_set ?_ GE103.out) | exact HB.out)⟩
def wickerlaw02_Example.f  : Option (List ByteArray × List ByteArray × Int × (List (S32))) := some ((([(⟨#[83]⟩ : ByteArray)] : List ByteArray)), (([(⟨#[97]⟩ : ByteArray)] : List ByteArray)), 0, (([(⟨0, (([(-1), 0] : List Int))⟩ : S32), (⟨0, ([] : List Int)⟩ : S32)] : List (S32))))
set_option maxHeartbeats 8000000 in
set_option maxRecDepth 100000 in
theorem wickerlaw02_Example.calls  (r1 : List ByteArray) (r2 : List ByteArray) (r3 : Int) (r4 : List (S32)) (w : World) (h : wickerlaw02_Example.f  = some (r1, r2, r3, r4)) :
  Calls Tryd.prog 85 #[] w fun e w' => ∃ v0_ v1_ v3_ : Value, e = .returned (.agg #[v0_, v1_, .int .i64 r3, v3_]) ∧ Kd.R Kd.string 9 w' w.heap.size (fun k_ => (w.heap.size ≤ k_) ∧ some k_ ≠ (v1_ : Value).ownBlock) v0_ r1 ∧ Kd.R Kd.string 9 w' w.heap.size (fun k_ => (w.heap.size ≤ k_) ∧ some k_ ≠ (v0_ : Value).ownBlock) v1_ r2 ∧ Kd.N k32 32 w' w.heap.size (fun k_ => (w.heap.size ≤ k_) ∧ some k_ ≠ (v0_ : Value).ownBlock ∧ some k_ ≠ (v1_ : Value).ownBlock) v3_ r4 ∧ Below w.heap.size w w' := by
 have hu25 := Tryd.underlying25
 have hu32 := Tryd.underlying32
 have HB := Aside0.mk (Below.refl w.heap.size w)
 have H : (some ((([(⟨#[83]⟩ : ByteArray)] : List ByteArray)), (([(⟨#[97]⟩ : ByteArray)] : List ByteArray)), 0, (([(⟨0, (([(-1), 0] : List Int))⟩ : S32), (⟨0, ([] : List Int)⟩ : S32)] : List (S32))))) = some (r1, r2, r3, r4) := h
 clear h
 obtain ⟨y102, hy102⟩ : ∃ y_ : List ByteArray, y_ = (([(⟨#[83]⟩ : ByteArray)] : List ByteArray)) := ⟨_, rfl⟩
 replace H : (some (y102, (([(⟨#[97]⟩ : ByteArray)] : List ByteArray)), 0, (([(⟨0, (([(-1), 0] : List Int))⟩ : S32), (⟨0, ([] : List Int)⟩ : S32)] : List (S32))))) = some (r1, r2, r3, r4) := by first | (rw [hy102]; with_reducible exact H) | (have H2_ := (Option.bind_some _ _).symm.trans H; rw [hy102]; with_reducible exact H2_) | (have H2_ := (Option.bind_some _ _).symm.trans H; with_reducible exact H2_) | with_reducible exact H | (rw [hy102]; exact H) | exact H
 have Ny102 := Aside0.mk hy102
 clear hy102
 obtain ⟨y105, hy105⟩ : ∃ y_ : List ByteArray, y_ = (([(⟨#[97]⟩ : ByteArray)] : List ByteArray)) := ⟨_, rfl⟩
 replace H : (some (y102, y105, 0, (([(⟨0, (([(-1), 0] : List Int))⟩ : S32), (⟨0, ([] : List Int)⟩ : S32)] : List (S32))))) = some (r1, r2, r3, r4) := by first | (rw [hy105]; with_reducible exact H) | (have H2_ := (Option.bind_some _ _).symm.trans H; rw [hy105]; with_reducible exact H2_) | (have H2_ := (Option.bind_some _ _).symm.trans H; with_reducible exact H2_) | with_reducible exact H | (rw [hy105]; exact H) | exact H
 have Ny105 := Aside0.mk hy105
 clear hy105
 obtain ⟨y108, hy108⟩ : ∃ y_ : List Int, y_ = (([(-1), 0] : List Int)) := ⟨_, rfl⟩
 replace H : (some (y102, y105, 0, (([(⟨0, y108⟩ : S32), (⟨0, ([] : List Int)⟩ : S32)] : List (S32))))) = some (r1, r2, r3, r4) := by first | (rw [hy108]; with_reducible exact H) | (have H2_ := (Option.bind_some _ _).symm.trans H; rw [hy108]; with_reducible exact H2_) | (have H2_ := (Option.bind_some _ _).symm.trans H; with_reducible exact H2_) | with_reducible exact H | (rw [hy108]; exact H) | exact H
 have Ny108 := Aside0.mk hy108
 clear hy108
 obtain ⟨y111, hy111⟩ : ∃ y_ : List (S32), y_ = (([(⟨0, y108⟩ : S32), (⟨0, ([] : List Int)⟩ : S32)] : List (S32))) := ⟨_, rfl⟩
 replace H : (some (y102, y105, 0, y111)) = some (r1, r2, r3, r4) := by first | (rw [hy111]; with_reducible exact H) | (have H2_ := (Option.bind_some _ _).symm.trans H; rw [hy111]; with_reducible exact H2_) | (have H2_ := (Option.bind_some _ _).symm.trans H; with_reducible exact H2_) | with_reducible exact H | (rw [hy111]; exact H) | exact H
 have Ny111 := Aside0.mk hy111
 clear hy111
 simp only [Option.some.injEq, Prod.mk.injEq] at H
 obtain ⟨rfl, rfl, rfl, rfl⟩ := H
 go_enter Tryd.func85, Tryd.ntmps85
 go_wp2_with (first | ((with_reducible refine gate_dst (N := 0) rfl ?_); refine box_event ?hg (N := 0) ?hd (cs := #[.slice none 0 0, .slice none 0 0, .int .i64 0, .slice none 0 0]) (t := 25) ?hr ?_; (case hd => rfl); (case hg => rfl); (case hr => first | (go_simp; done) | (go_simp; rfl)); intro gb101 hg w1 hbox hb; have n0_ := Aside0.mk (below_step (by repeat (first | (with_reducible first | exact HB.out | apply below_alloc | apply pw_below_drewN | apply below_drew1) | exact HB.out)) hb); have n1_ := Aside0.mk (hbox); have n2_ := Aside0.mk ((by rw [hg]; exact (below_size (by repeat (first | (with_reducible first | exact HB.out | apply below_alloc | apply pw_below_drewN | apply below_drew1) | exact HB.out))) : w.heap.size ≤ gb101)); have n3_ := Aside0.mk ((by rw [hg]; exact (below_size (by repeat (first | (with_reducible first | exact HB.out | apply below_alloc | apply pw_below_drewN | apply below_drew1) | exact HB.out))) : w.heap.size ≤ gb101)); clear HB; have HB := n0_; have BK101 := n1_; have GW101 := n2_; have GE101 := n3_; clear n0_ n1_ n2_ n3_; clear hb hbox hg) | ((with_reducible refine gate_dst (N := 1) rfl ?_); refine Kd.R_lit Kd.string _ 9 ?hg (N := 1) ?hd (xs := ([(⟨#[83]⟩ : ByteArray)] : List ByteArray)) (inner := [.string (⟨#[83]⟩ : ByteArray)]) (ok := fun _ => True) (okp := fun _ => True) ?hr ?hp (fun _ hk => hk) trivial (Below.refl _ _) (Nat.le_refl _) (by simp) ?_; (case hd => rfl); (case hg => rfl); (case hr => first | (go_simp; done) | (go_simp; rfl)); (case hp => exact (Reps.one (show Kd.M Kd.string _ _ _ (⟨#[83]⟩ : ByteArray) [.string (⟨#[83]⟩ : ByteArray)] from rfl) (Reps.none _ _))); intro v103 w2 ho3 hb hg_ hnew_; clear hg_ hnew_; (first | rw [← Ny102.out] at ho3 | (simp only [Int.reduceToNat] at ho3; rw [← Ny102.out] at ho3)); have n0_ := Aside0.mk (Kd.R_lower (Kd.R_newM (M := fun k_ => (w.heap.size ≤ k_)) ho3 (below_size (by repeat (first | (with_reducible first | exact HB.out | apply below_alloc | apply pw_below_drewN | apply below_drew1 | refine below_set ?_ GE101.out) | exact HB.out))) (fun k_ h_ => h_)) (below_size (by repeat (first | (with_reducible first | exact HB.out | apply below_alloc | apply pw_below_drewN | apply below_drew1 | refine below_set ?_ GE101.out) | exact HB.out)))); have n1_ := Aside0.mk (blk_below (g := gb101) (o := .cells #[.slice none 0 0, .slice none 0 0, .int .i64 0, .slice none 0 0] 25 (0, 0)) (by (with_reducible repeat (first | refine blk_drewN ?_ _ | refine blk_drew ?_ | refine blk_alloc ?_ _)); exact BK101.out) hb); have n2_ := Aside0.mk (below_step (by repeat (first | (with_reducible first | exact HB.out | apply below_alloc | apply pw_below_drewN | apply below_drew1 | refine below_set ?_ GE101.out) | exact HB.out)) hb); clear BK101; clear HB; have HO104 := n0_; have BK101 := n1_; have HB := n2_; clear n0_ n1_ n2_; clear hb ho3) | ((with_reducible refine gate_dst (N := 2) rfl ?_); refine Kd.R_lit Kd.string _ 9 ?hg (N := 2) ?hd (xs := ([(⟨#[97]⟩ : ByteArray)] : List ByteArray)) (inner := [.string (⟨#[97]⟩ : ByteArray)]) (ok := fun _ => True) (okp := fun _ => True) ?hr ?hp (fun _ hk => hk) trivial (Below.refl _ _) (Nat.le_refl _) (by simp) ?_; (case hd => rfl); (case hg => rfl); (case hr => first | (go_simp; done) | (go_simp; rfl)); (case hp => exact (Reps.one (show Kd.M Kd.string _ _ _ (⟨#[97]⟩ : ByteArray) [.string (⟨#[97]⟩ : ByteArray)] from rfl) (Reps.none _ _))); intro v106 w4 ho5 hb hg_ hnew_; clear hg_ hnew_; (first | rw [← Ny105.out] at ho5 | (simp only [Int.reduceToNat] at ho5; rw [← Ny105.out] at ho5)); have n0_ := Aside0.mk (Kd.R_elder' (by (with_reducible repeat (first | apply Kd.R_alloc | apply Kd.R_drewN | apply Kd.R_drew)); exact HO104.out) (Kd.R_base ho5) hb); have n1_ := Aside0.mk (Kd.R_lower (Kd.R_new' (Kd.R_newM (M := fun k_ => (w.heap.size ≤ k_)) ho5 (below_size (by repeat (first | (with_reducible first | exact HB.out | apply below_alloc | apply pw_below_drewN | apply below_drew1 | refine below_set ?_ GE101.out) | exact HB.out))) (fun k_ h_ => h_)) (Kd.R_lt (by (with_reducible repeat (first | apply Kd.R_alloc | apply Kd.R_drewN | apply Kd.R_drew)); exact HO104.out))) (below_size (by repeat (first | (with_reducible first | exact HB.out | apply below_alloc | apply pw_below_drewN | apply below_drew1 | refine below_set ?_ GE101.out) | exact HB.out)))); have n2_ := Aside0.mk (blk_below (g := gb101) (o := .cells #[.slice none 0 0, .slice none 0 0, .int .i64 0, .slice none 0 0] 25 (0, 0)) (by (with_reducible repeat (first | refine blk_drewN ?_ _ | refine blk_drew ?_ | refine blk_alloc ?_ _)); exact BK101.out) hb); have n3_ := Aside0.mk (below_step (by repeat (first | (with_reducible first | exact HB.out | apply below_alloc | apply pw_below_drewN | apply below_drew1 | refine below_set ?_ GE101.out) | exact HB.out)) hb); clear HO104; clear BK101; clear HB; have HO104 := n0_; have HO107 := n1_; have BK101 := n2_; have HB := n3_; clear n0_ n1_ n2_ n3_; clear hb ho5) | ((with_reducible refine gate_dst (N := 3) rfl ?_); refine Kd.R_lit (Kd.int .i64) _ 52 ?hg (N := 3) ?hd (xs := ([(-1), 0] : List Int)) (inner := [.int .i64 (-1), .int .i64 0]) (ok := fun _ => True) (okp := fun _ => True) ?hr ?hp (fun _ hk => hk) trivial (Below.refl _ _) (Nat.le_refl _) (by simp) ?_; (case hd => rfl); (case hg => rfl); (case hr => first | (go_simp; done) | (go_simp; rfl)); (case hp => exact (Reps.one (show Kd.M (Kd.int .i64) _ _ _ (-1) [.int .i64 (-1)] from rfl) (Reps.one (show Kd.M (Kd.int .i64) _ _ _ 0 [.int .i64 0] from rfl) (Reps.none _ _)))); intro v109 w6 ho7 hb hg_ hnew_; clear hg_ hnew_; (first | rw [← Ny108.out] at ho7 | (simp only [Int.reduceToNat] at ho7; rw [← Ny108.out] at ho7)); have n0_ := Aside0.mk (Kd.R_below (by (with_reducible repeat (first | apply Kd.R_alloc | apply Kd.R_drewN | apply Kd.R_drew)); exact HO104.out) hb); have n1_ := Aside0.mk (Kd.R_below (by (with_reducible repeat (first | apply Kd.R_alloc | apply Kd.R_drewN | apply Kd.R_drew)); exact HO107.out) hb); have n2_ := Aside0.mk (Kd.R_lower (Kd.R_newM (M := fun k_ => (w.heap.size ≤ k_)) ho7 (below_size (by repeat (first | (with_reducible first | exact HB.out | apply below_alloc | apply pw_below_drewN | apply below_drew1 | refine below_set ?_ GE101.out) | exact HB.out))) (fun k_ h_ => h_)) (below_size (by repeat (first | (with_reducible first | exact HB.out | apply below_alloc | apply pw_below_drewN | apply below_drew1 | refine below_set ?_ GE101.out) | exact HB.out)))); have n3_ := Aside0.mk (blk_below (g := gb101) (o := .cells #[.slice none 0 0, .slice none 0 0, .int .i64 0, .slice none 0 0] 25 (0, 0)) (by (with_reducible repeat (first | refine blk_drewN ?_ _ | refine blk_drew ?_ | refine blk_alloc ?_ _)); exact BK101.out) hb); have n4_ := Aside0.mk (below_step (by repeat (first | (with_reducible first | exact HB.out | apply below_alloc | apply pw_below_drewN | apply below_drew1 | refine below_set ?_ GE101.out) | exact HB.out)) hb); clear HO104; clear HO107; clear BK101; clear HB; have HO104 := n0_; have HO107 := n1_; have HO110 := n2_; have BK101 := n3_; have HB := n4_; clear n0_ n1_ n2_ n3_ n4_; clear hb ho7; obtain ⟨Ao8, co8, eo8⟩ := Kd.R_slice HO110.out; subst eo8) | ((with_reducible refine gate_dst (N := 6) rfl ?_); refine Kd.N_lit k32 _ 32 ?hg (N' := 6) ?hd (xs := ([(⟨0, y108⟩ : S32), (⟨0, ([] : List Int)⟩ : S32)] : List (S32))) (inner := [.int .i64 0, .slice Ao8 y108.length co8, .int .i64 0, .slice none 0 0]) (ok := (fun k_ => (w.heap.size ≤ k_) ∧ some k_ ≠ (v103 : Value).ownBlock ∧ some k_ ≠ (v106 : Value).ownBlock ∧ k_ ≠ gb101)) (okp := (fun k_ => (w.heap.size ≤ k_) ∧ some k_ ≠ (v103 : Value).ownBlock ∧ some k_ ≠ (v106 : Value).ownBlock ∧ k_ ≠ gb101)) ?hr ?hp (fun _ hk => hk) ((show ∀ k_, w6.heap.size ≤ k_ → (fun k_ => (w.heap.size ≤ k_) ∧ some k_ ≠ (v103 : Value).ownBlock ∧ some k_ ≠ (v106 : Value).ownBlock ∧ k_ ≠ gb101) k_ from fun k_ hk => ⟨(Nat.le_trans (below_size (by repeat (first | (with_reducible first | exact HB.out | apply below_alloc | apply pw_below_drewN | apply below_drew1 | refine below_set ?_ GE101.out) | exact HB.out))) hk), Kd.fresh' (Kd.R_lt (by (with_reducible repeat (first | apply Kd.R_alloc | apply Kd.R_drewN | apply Kd.R_drew)); exact HO104.out)) k_ hk, Kd.fresh' (Kd.R_lt (by (with_reducible repeat (first | apply Kd.R_alloc | apply Kd.R_drewN | apply Kd.R_drew)); exact HO107.out)) k_ hk, Kd.freshB (g := gb101) (o := .cells #[.slice none 0 0, .slice none 0 0, .int .i64 0, .slice none 0 0] 25 (0, 0)) (by (with_reducible repeat (first | refine blk_drewN ?_ _ | refine blk_drew ?_ | refine blk_alloc ?_ _)); exact BK101.out) k_ hk⟩) _ (Nat.le_refl _)) (Below.refl _ _) (Nat.le_refl _) (by simp) ?_; (case hd => rfl); (case hg => rfl); (case hr => first | (go_simp; done) | (go_simp; rfl)); (case hp => exact (Reps.c2 (show Kd.FK k32 _ _ (⟨0, y108⟩ : S32) [.int .i64 0, .slice Ao8 y108.length co8] from (k32_mkF _ _ (⟨0, y108⟩ : S32) (Kd.R_reads' (Kd.R_mono (ok' := (fun k_ => (w.heap.size ≤ k_) ∧ some k_ ≠ (v103 : Value).ownBlock ∧ some k_ ≠ (v106 : Value).ownBlock ∧ k_ ≠ gb101)) (Kd.R_types (Kd.R_apart' (Kd.R_apart' (HO110.out) (Kd.R_typed HO104.out) (by decide)) (Kd.R_typed HO107.out) (by decide)) BK101.out (by decide)) (fun k_ hk => ⟨hk.1.1.1.1, ⟨hk.1.1.2, ⟨hk.1.2, hk.2⟩⟩⟩))).2.1 (Kd.R_F (Kd.R_mono (ok' := (fun k_ => (w.heap.size ≤ k_) ∧ some k_ ≠ (v103 : Value).ownBlock ∧ some k_ ≠ (v106 : Value).ownBlock ∧ k_ ≠ gb101)) (Kd.R_types (Kd.R_apart' (Kd.R_apart' (HO110.out) (Kd.R_typed HO104.out) (by decide)) (Kd.R_typed HO107.out) (by decide)) BK101.out (by decide)) (fun k_ hk => ⟨hk.1.1.1.1, ⟨hk.1.1.2, ⟨hk.1.2, hk.2⟩⟩⟩))))) (Reps.c2 (show Kd.FK k32 _ _ (⟨0, ([] : List Int)⟩ : S32) [.int .i64 0, .slice none 0 0] from (k32_mkF _ _ (⟨0, ([] : List Int)⟩ : S32) (Nat.le_refl _) (Kd.F_nil _ _ _))) (Reps.none _ _)))); intro v112 w9 ho10 hb hg_ hnew_; clear hg_ hnew_; (first | rw [← Ny111.out] at ho10 | (simp only [Int.reduceToNat] at ho10; rw [← Ny111.out] at ho10)); have n0_ := Aside0.mk (Kd.R_below (by (with_reducible repeat (first | apply Kd.R_alloc | apply Kd.R_drewN | apply Kd.R_drew)); exact HO104.out) hb); have n1_ := Aside0.mk (Kd.R_below (by (with_reducible repeat (first | apply Kd.R_alloc | apply Kd.R_drewN | apply Kd.R_drew)); exact HO107.out) hb); have n2_ := Aside0.mk (Kd.N_lower ho10 (below_size (by repeat (first | (with_reducible first | exact HB.out | apply below_alloc | apply pw_below_drewN | apply below_drew1 | refine below_set ?_ GE101.out) | exact HB.out)))); have n3_ := Aside0.mk (blk_below (g := gb101) (o := .cells #[.slice none 0 0, .slice none 0 0, .int .i64 0, .slice none 0 0] 25 (0, 0)) (by (with_reducible repeat (first | refine blk_drewN ?_ _ | refine blk_drew ?_ | refine blk_alloc ?_ _)); exact BK101.out) hb); have n4_ := Aside0.mk (below_step (by repeat (first | (with_reducible first | exact HB.out | apply below_alloc | apply pw_below_drewN | apply below_drew1 | refine below_set ?_ GE101.out) | exact HB.out)) hb); clear HO104; clear HO107; clear BK101; clear HB; clear HO110; have HO104 := n0_; have HO107 := n1_; have HO113 := n2_; have BK101 := n3_; have HB := n4_; clear n0_ n1_ n2_ n3_ n4_; clear hb ho10; obtain ⟨Ao11, co11, eo11⟩ := Kd.N_slice HO113.out; subst eo11; obtain ⟨Ao12, co12, eo12⟩ := Kd.R_slice HO107.out; subst eo12; obtain ⟨Ao13, co13, eo13⟩ := Kd.R_slice HO104.out; subst eo13; have hcz14_0 : w9.cell? ⟨gb101, 0, none⟩ = some (.slice none 0 0) := (blk_cell BK101.out 0).trans rfl; have hcz14_1 : w9.cell? ⟨gb101, 1, none⟩ = some (.slice none 0 0) := (blk_cell BK101.out 1).trans rfl; have hcz14_2 : w9.cell? ⟨gb101, 2, none⟩ = some (.int .i64 0) := (blk_cell BK101.out 2).trans rfl; have hcz14_3 : w9.cell? ⟨gb101, 3, none⟩ = some (.slice none 0 0) := (blk_cell BK101.out 3).trans rfl; have hfz14_0 := blk_frozen BK101.out 0; have hfz14_1 := blk_frozen BK101.out 1; have hfz14_2 := blk_frozen BK101.out 2; have hfz14_3 := blk_frozen BK101.out 3))
 refine bodyPost_ret (results_cell_row rfl _ _ gb101 25 #[.slice Ao13 y102.length co13, .slice Ao12 y105.length co12, .int .i64 0, .slice Ao11 y111.length co11] (0, 0) _ rfl (by (with_reducible repeat (first | refine blk_drewN ?_ _ | refine blk_drew ?_ | refine blk_alloc ?_ _)); refine blk_put (cs := #[.slice Ao13 y102.length co13, .slice Ao12 y105.length co12, .int .i64 0, .slice none 0 0]) ?_ 3 _ rfl; (with_reducible repeat (first | refine blk_drewN ?_ _ | refine blk_drew ?_ | refine blk_alloc ?_ _)); refine blk_put (cs := #[.slice Ao13 y102.length co13, .slice Ao12 y105.length co12, .int .i64 0, .slice none 0 0]) ?_ 2 _ rfl; (with_reducible repeat (first | refine blk_drewN ?_ _ | refine blk_drew ?_ | refine blk_alloc ?_ _)); refine blk_put (cs := #[.slice Ao13 y102.length co13, .slice none 0 0, .int .i64 0, .slice none 0 0]) ?_ 1 _ rfl; (with_reducible repeat (first | refine blk_drewN ?_ _ | refine blk_drew ?_ | refine blk_alloc ?_ _)); refine blk_put (cs := #[.slice none 0 0, .slice none 0 0, .int .i64 0, .slice none 0 0]) ?_ 0 _ rfl; (with_reducible repeat (first | refine blk_drewN ?_ _ | refine blk_drew ?_ | refine blk_alloc ?_ _)); exact BK101.out) Tryd.underlying25 rfl (by kernel_rfl)) rfl ?_
 exact ⟨_, _, _, by first | rfl | (simp [errW_none, errW_some] <;> rfl) | (simp [*, errW_none, errW_some] <;> rfl), by (with_reducible repeat (first | apply Kd.R_alloc | apply Kd.R_drewN | apply Kd.R_drew)); exact Kd.R_mono (Kd.R_far (p := ⟨gb101, 3, none⟩) (Kd.R_far (p := ⟨gb101, 2, none⟩) (Kd.R_far (p := ⟨gb101, 1, none⟩) (Kd.R_far (p := ⟨gb101, 0, none⟩) (Kd.R_types HO104.out BK101.out (by decide)) (fun _ hk => hk.2) (.slice Ao13 y102.length co13)) (fun _ hk => hk.2) (.slice Ao12 y105.length co12)) (fun _ hk => hk.2) (.int .i64 0)) (fun _ hk => hk.2) (.slice Ao11 y111.length co11)) (fun _ hk => ⟨hk.1.1.1, hk.1.2⟩), by (with_reducible repeat (first | apply Kd.R_alloc | apply Kd.R_drewN | apply Kd.R_drew)); exact Kd.R_mono (Kd.R_far (p := ⟨gb101, 3, none⟩) (Kd.R_far (p := ⟨gb101, 2, none⟩) (Kd.R_far (p := ⟨gb101, 1, none⟩) (Kd.R_far (p := ⟨gb101, 0, none⟩) (Kd.R_types HO107.out BK101.out (by decide)) (fun _ hk => hk.2) (.slice Ao13 y102.length co13)) (fun _ hk => hk.2) (.slice Ao12 y105.length co12)) (fun _ hk => hk.2) (.int .i64 0)) (fun _ hk => hk.2) (.slice Ao11 y111.length co11)) (fun _ hk => ⟨hk.1.1.1, hk.1.2⟩), by (with_reducible repeat (first | apply Kd.N_alloc | apply Kd.N_drewN | apply Kd.N_drew)); exact Kd.N_mono (Kd.N_far (p := ⟨gb101, 3, none⟩) (Kd.N_far (p := ⟨gb101, 2, none⟩) (Kd.N_far (p := ⟨gb101, 1, none⟩) (Kd.N_far (p := ⟨gb101, 0, none⟩) (Kd.N_mono HO113.out (fun k_ hk => (⟨hk, hk.2.2.2⟩ : _ ∧ k_ ≠ gb101))) (fun _ hk => hk.2) (.slice Ao13 y102.length co13)) (fun _ hk => hk.2) (.slice Ao12 y105.length co12)) (fun _ hk => hk.2) (.int .i64 0)) (fun _ hk => hk.2) (.slice Ao11 y111.length co11)) (fun _ hk => ⟨hk.1.1, ⟨hk.1.2.1, hk.1.2.2.1⟩⟩), by repeat (first | (with_reducible first | exact HB.out | apply below_alloc | apply pw_below_drewN | apply below_drew1 | refine below_set ?_ GE101.out) | exact HB.out)⟩
def wickerlaw02_Awake.f (k : Nat)  : Option (Bool) := (wickerlaw02_Example.f).bind fun bt101 => ((wickerlaw01_Awake.f k).bind fun t112 => (if t112 = true then ((gram_Grammar_Check.f bt101.1 bt101.2.1 bt101.2.2.1 bt101.2.2.2).bind fun t113 => (if t113 = 0 then ((gram_Grammar_Size.f k bt101.1 bt101.2.1 bt101.2.2.1 bt101.2.2.2).bind fun t114 => (if t114 = 4 then ((gram_Grammar_Text.f bt101.1 bt101.2.1 bt101.2.2.1 bt101.2.2.2 (-1)).bind fun t115 => (if t115.toList = ([34, 97, 34] : List UInt8) then ((gram_Grammar_Text.f bt101.1 bt101.2.1 bt101.2.2.1 bt101.2.2.2 0).bind fun t116 => (some (t116.toList == ([60, 83, 62] : List UInt8)))) else (some false))) else (some false))) else (some false))) else (some false)))
theorem wickerlaw02_Awake.mono : ∀ k, LeO (wickerlaw02_Awake.f k ) (wickerlaw02_Awake.f (k + 1) ) := by
 intro  k
 unfold wickerlaw02_Awake.f
 repeat' first
   | (with_reducible exact gram_Grammar_Size.mono _ _ _ _ _)
   | (with_reducible exact wickerlaw01_Awake.mono _)
   | (with_reducible exact LeO.refl _)
   | (with_reducible exact LeO.none _)
   | (with_reducible refine LeO.ite ?_ ?_)
   | (with_reducible refine LeO.bind ?_ (fun _ => ?_))
   | exact gram_Grammar_Size.mono _ _ _ _ _
   | exact wickerlaw01_Awake.mono _
   | exact LeO.none _
   | refine LeO.ite ?_ ?_
   | refine LeO.bind ?_ (fun _ => ?_)
set_option maxHeartbeats 8000000 in
set_option maxRecDepth 100000 in
theorem wickerlaw02_Awake.calls (k : Nat)  (r : Bool) (w : World) (hG : Laid w) (h : wickerlaw02_Awake.f k  = some r) :
  Calls Tryd.prog 86 #[] w fun e w' => e = .returned (.bool r) ∧ Below w.heap.size w w' := by
 have hu25 := Tryd.underlying25
 have HG := Aside0.mk hG
 clear hG
 have HB := Aside0.mk (Below.refl w.heap.size w)
 have H : ((wickerlaw02_Example.f).bind fun bt101 => ((wickerlaw01_Awake.f k).bind fun t112 => (if t112 = true then ((gram_Grammar_Check.f bt101.1 bt101.2.1 bt101.2.2.1 bt101.2.2.2).bind fun t113 => (if t113 = 0 then ((gram_Grammar_Size.f k bt101.1 bt101.2.1 bt101.2.2.1 bt101.2.2.2).bind fun t114 => (if t114 = 4 then ((gram_Grammar_Text.f bt101.1 bt101.2.1 bt101.2.2.1 bt101.2.2.2 (-1)).bind fun t115 => (if t115.toList = ([34, 97, 34] : List UInt8) then ((gram_Grammar_Text.f bt101.1 bt101.2.1 bt101.2.2.1 bt101.2.2.2 0).bind fun t116 => (some (t116.toList == ([60, 83, 62] : List UInt8)))) else (some false))) else (some false))) else (some false))) else (some false)))) = some r := h
 clear h
 replace H := Option.bind_eq_some_iff.mp H
 obtain ⟨⟨t101, t104, t107, t108⟩, A10, H⟩ := H
 replace H : ((wickerlaw01_Awake.f k).bind fun t112 => (if t112 = true then ((gram_Grammar_Check.f t101 t104 t107 t108).bind fun t113 => (if t113 = 0 then ((gram_Grammar_Size.f k t101 t104 t107 t108).bind fun t114 => (if t114 = 4 then ((gram_Grammar_Text.f t101 t104 t107 t108 (-1)).bind fun t115 => (if t115.toList = ([34, 97, 34] : List UInt8) then ((gram_Grammar_Text.f t101 t104 t107 t108 0).bind fun t116 => (some (t116.toList == ([60, 83, 62] : List UInt8)))) else (some false))) else (some false))) else (some false))) else (some false))) = some r := H
 have A1 := Aside0.mk A10
 clear A10
 replace H := Option.bind_eq_some_iff.mp H
 obtain ⟨t112, A20, H⟩ := H
 replace H : (if t112 = true then ((gram_Grammar_Check.f t101 t104 t107 t108).bind fun t113 => (if t113 = 0 then ((gram_Grammar_Size.f k t101 t104 t107 t108).bind fun t114 => (if t114 = 4 then ((gram_Grammar_Text.f t101 t104 t107 t108 (-1)).bind fun t115 => (if t115.toList = ([34, 97, 34] : List UInt8) then ((gram_Grammar_Text.f t101 t104 t107 t108 0).bind fun t116 => (some (t116.toList == ([60, 83, 62] : List UInt8)))) else (some false))) else (some false))) else (some false))) else (some false)) = some r := H
 have A2 := Aside0.mk A20
 clear A20
 by_cases c3 : t112 = true
 ·subst c3
  have H1 : ((gram_Grammar_Check.f t101 t104 t107 t108).bind fun t113 => (if t113 = 0 then ((gram_Grammar_Size.f k t101 t104 t107 t108).bind fun t114 => (if t114 = 4 then ((gram_Grammar_Text.f t101 t104 t107 t108 (-1)).bind fun t115 => (if t115.toList = ([34, 97, 34] : List UInt8) then ((gram_Grammar_Text.f t101 t104 t107 t108 0).bind fun t116 => (some (t116.toList == ([60, 83, 62] : List UInt8)))) else (some false))) else (some false))) else (some false))) = some r := by rw [if_pos rfl] at H; exact H
  clear H
  have H := H1
  clear H1
  replace H := Option.bind_eq_some_iff.mp H
  obtain ⟨t113, A40, H⟩ := H
  replace H : (if t113 = 0 then ((gram_Grammar_Size.f k t101 t104 t107 t108).bind fun t114 => (if t114 = 4 then ((gram_Grammar_Text.f t101 t104 t107 t108 (-1)).bind fun t115 => (if t115.toList = ([34, 97, 34] : List UInt8) then ((gram_Grammar_Text.f t101 t104 t107 t108 0).bind fun t116 => (some (t116.toList == ([60, 83, 62] : List UInt8)))) else (some false))) else (some false))) else (some false)) = some r := H
  have A4 := Aside0.mk A40
  clear A40
  by_cases c5 : t113 = 0
  ·rw [if_pos c5] at H
   have c5b0 : (t113 == 0) = true := beq_iff_eq.mpr c5
   have c5b1 : (t113 != 0) = false := bne_eq_false_iff_eq.mpr c5
   clear c5
   replace H := Option.bind_eq_some_iff.mp H
   obtain ⟨t114, A60, H⟩ := H
   replace H : (if t114 = 4 then ((gram_Grammar_Text.f t101 t104 t107 t108 (-1)).bind fun t115 => (if t115.toList = ([34, 97, 34] : List UInt8) then ((gram_Grammar_Text.f t101 t104 t107 t108 0).bind fun t116 => (some (t116.toList == ([60, 83, 62] : List UInt8)))) else (some false))) else (some false)) = some r := H
   have A6 := Aside0.mk A60
   clear A60
   by_cases c7 : t114 = 4
   ·rw [if_pos c7] at H
    have c7b0 : (t114 == 4) = true := beq_iff_eq.mpr c7
    have c7b1 : (t114 != 4) = false := bne_eq_false_iff_eq.mpr c7
    clear c7
    replace H := Option.bind_eq_some_iff.mp H
    obtain ⟨t115, A80, H⟩ := H
    replace H : (if t115.toList = ([34, 97, 34] : List UInt8) then ((gram_Grammar_Text.f t101 t104 t107 t108 0).bind fun t116 => (some (t116.toList == ([60, 83, 62] : List UInt8)))) else (some false)) = some r := H
    have A8 := Aside0.mk A80
    clear A80
    by_cases c9 : t115.toList = ([34, 97, 34] : List UInt8)
    ·rw [if_pos c9] at H
     have c9b0 : (t115.toList == ([34, 97, 34] : List UInt8)) = true := beq_iff_eq.mpr c9
     have c9b1 : (t115.toList != ([34, 97, 34] : List UInt8)) = false := bne_eq_false_iff_eq.mpr c9
     clear c9
     replace H := Option.bind_eq_some_iff.mp H
     obtain ⟨t116, A100, H⟩ := H
     replace H : (some (t116.toList == ([60, 83, 62] : List UInt8))) = some r := H
     have A10 := Aside0.mk A100
     clear A100
     obtain rfl := Option.some.inj H
     go_enter Tryd.func86, Tryd.ntmps86
     go_wp2_with (first | ((with_reducible refine gate_callee (f := 85) rfl ?_); refine goesL_ (some 2) rfl rfl Tryd.func85 (by kernel_rfl) rfl #[] rfl (by (try simp only [List.map_toArray, List.map_cons, List.map_nil]); first | done | rfl | (simp only [List.length_drop, List.length_take]; rfl)) ?_; (with_reducible refine (wickerlaw02_Example.calls  t101 t104 t107 t108 _ A1.out).mono ?_); rintro e w11 ⟨v102, v105, v109, rfl, ho0, ho1, ho2, hb⟩; refine ⟨_, rfl, ?_⟩; have n0_ := Aside0.mk (Kd.R_lower (Kd.R_mono (ok' := fun k_ => some k_ ≠ (v105 : Value).ownBlock) ho0 (fun _ hk_ => hk_.2)) (below_size (by repeat (first | (with_reducible first | exact HB.out | apply below_alloc | apply pw_below_drewN | apply below_drew1) | exact HB.out)))); have n1_ := Aside0.mk (Kd.R_lower (Kd.R_mono (ok' := fun k_ => some k_ ≠ (v102 : Value).ownBlock) ho1 (fun _ hk_ => hk_.2)) (below_size (by repeat (first | (with_reducible first | exact HB.out | apply below_alloc | apply pw_below_drewN | apply below_drew1) | exact HB.out)))); have n2_ := Aside0.mk (Kd.N_lower (Kd.N_mono (ok' := fun k_ => some k_ ≠ (v102 : Value).ownBlock ∧ some k_ ≠ (v105 : Value).ownBlock) ho2 (fun k_ hk_ => ⟨hk_.2.1, hk_.2.2⟩)) (below_size (by repeat (first | (with_reducible first | exact HB.out | apply below_alloc | apply pw_below_drewN | apply below_drew1) | exact HB.out)))); have n3_ := Aside0.mk (below_step (by repeat (first | (with_reducible first | exact HB.out | apply below_alloc | apply pw_below_drewN | apply below_drew1) | exact HB.out)) hb); clear HB; have HO103 := n0_; have HO106 := n1_; have HO110 := n2_; have HB := n3_; clear n0_ n1_ n2_ n3_; (try clear hb); (try clear hb2); (try clear hk); (try clear hi); (try clear ho0); (try clear ho1); (try clear ho2)) | ((with_reducible refine gate_dst (N := 1) rfl ?_); refine box_event ?hg (N := 1) ?hd (cs := #[.slice none 0 0, .slice none 0 0, .int .i64 0, .slice none 0 0]) (t := 25) ?hr ?_; (case hd => rfl); (case hg => rfl); (case hr => first | (go_simp; done) | (go_simp; rfl)); intro gb111 hg w12 hbox hb; have n0_ := Aside0.mk (Kd.R_below (by (with_reducible repeat (first | apply Kd.R_alloc | apply Kd.R_drewN | apply Kd.R_drew)); exact HO103.out) hb); have n1_ := Aside0.mk (Kd.R_below (by (with_reducible repeat (first | apply Kd.R_alloc | apply Kd.R_drewN | apply Kd.R_drew)); exact HO106.out) hb); have n2_ := Aside0.mk (Kd.N_below (Kd.N_elderB (by (with_reducible repeat (first | apply Kd.N_alloc | apply Kd.N_drewN | apply Kd.N_drew)); exact HO110.out) gb111 (Nat.le_of_eq hg.symm)) hb); have n3_ := Aside0.mk (below_step (by repeat (first | (with_reducible first | exact HB.out | apply below_alloc | apply pw_below_drewN | apply below_drew1) | exact HB.out)) hb); have n4_ := Aside0.mk (hbox); have n5_ := Aside0.mk ((by rw [hg]; exact (below_size (by repeat (first | (with_reducible first | exact HB.out | apply below_alloc | apply pw_below_drewN | apply below_drew1) | exact HB.out))) : w.heap.size ≤ gb111)); have n6_ := Aside0.mk ((by rw [hg]; exact (below_size (by repeat (first | (with_reducible first | exact HB.out | apply below_alloc | apply pw_below_drewN | apply below_drew1) | exact HB.out))) : w.heap.size ≤ gb111)); clear HO103; clear HO106; clear HO110; clear HB; have HO103 := n0_; have HO106 := n1_; have HO110 := n2_; have HB := n3_; have BK111 := n4_; have GW111 := n5_; have GE111 := n6_; clear n0_ n1_ n2_ n3_ n4_ n5_ n6_; clear hb hbox hg; obtain ⟨Ao13, co13, eo13⟩ := Kd.R_slice HO103.out; subst eo13; have hcz14_0 : w12.cell? ⟨gb111, 0, none⟩ = some (.slice none 0 0) := (blk_cell BK111.out 0).trans rfl; have hcz14_1 : w12.cell? ⟨gb111, 1, none⟩ = some (.slice none 0 0) := (blk_cell BK111.out 1).trans rfl; have hcz14_2 : w12.cell? ⟨gb111, 2, none⟩ = some (.int .i64 0) := (blk_cell BK111.out 2).trans rfl; have hcz14_3 : w12.cell? ⟨gb111, 3, none⟩ = some (.slice none 0 0) := (blk_cell BK111.out 3).trans rfl; have hfz14_0 := blk_frozen BK111.out 0; have hfz14_1 := blk_frozen BK111.out 1; have hfz14_2 := blk_frozen BK111.out 2; have hfz14_3 := blk_frozen BK111.out 3; obtain ⟨Ao15, co15, eo15⟩ := Kd.R_slice HO106.out; subst eo15; obtain ⟨Ao16, co16, eo16⟩ := Kd.N_slice HO110.out; subst eo16) | ((with_reducible refine gate_callee (f := 136) rfl ?_); refine goesL_ (some 3) rfl rfl Tryd.func136 (by kernel_rfl) rfl #[] rfl (by (try simp only [List.map_toArray, List.map_cons, List.map_nil]); first | done | rfl | (simp only [List.length_drop, List.length_take]; rfl)) ?_; (with_reducible refine (wickerlaw01_Awake.calls k  true _ ?side1 A2.out).mono ?_); (case side1 => exact Laid.below HG.out (by repeat (first | (with_reducible first | exact HB.out | apply below_alloc | apply pw_below_drewN | apply below_drew1 | refine below_set ?_ GE111.out) | exact HB.out))); rintro e w17 ⟨rfl, hb⟩; refine ⟨_, rfl, ?_⟩; have n0_ := Aside0.mk (Kd.R_below (by (with_reducible repeat (first | apply Kd.R_alloc | apply Kd.R_drewN | apply Kd.R_drew)); exact (Kd.R_mono (Kd.R_far (p := ⟨gb111, 3, none⟩) (Kd.R_far (p := ⟨gb111, 2, none⟩) (Kd.R_far (p := ⟨gb111, 1, none⟩) (Kd.R_far (p := ⟨gb111, 0, none⟩) (Kd.R_types HO103.out BK111.out (by decide)) (fun _ hk => hk.2) (.slice Ao13 t101.length co13)) (fun _ hk => hk.2) (.slice Ao15 t104.length co15)) (fun _ hk => hk.2) (.int .i64 t107)) (fun _ hk => hk.2) (.slice Ao16 t108.length co16)) (fun _ h_ => h_.1))) hb); have n1_ := Aside0.mk (Kd.R_below (by (with_reducible repeat (first | apply Kd.R_alloc | apply Kd.R_drewN | apply Kd.R_drew)); exact (Kd.R_mono (Kd.R_far (p := ⟨gb111, 3, none⟩) (Kd.R_far (p := ⟨gb111, 2, none⟩) (Kd.R_far (p := ⟨gb111, 1, none⟩) (Kd.R_far (p := ⟨gb111, 0, none⟩) (Kd.R_types HO106.out BK111.out (by decide)) (fun _ hk => hk.2) (.slice Ao13 t101.length co13)) (fun _ hk => hk.2) (.slice Ao15 t104.length co15)) (fun _ hk => hk.2) (.int .i64 t107)) (fun _ hk => hk.2) (.slice Ao16 t108.length co16)) (fun _ h_ => h_.1))) hb); have n2_ := Aside0.mk (Kd.N_below (by (with_reducible repeat (first | apply Kd.N_alloc | apply Kd.N_drewN | apply Kd.N_drew)); exact (Kd.N_mono (Kd.N_far (p := ⟨gb111, 3, none⟩) (Kd.N_far (p := ⟨gb111, 2, none⟩) (Kd.N_far (p := ⟨gb111, 1, none⟩) (Kd.N_far (p := ⟨gb111, 0, none⟩) (Kd.N_mono HO110.out (fun k_ hk => (⟨hk, hk.2⟩ : _ ∧ k_ ≠ gb111))) (fun _ hk => hk.2) (.slice Ao13 t101.length co13)) (fun _ hk => hk.2) (.slice Ao15 t104.length co15)) (fun _ hk => hk.2) (.int .i64 t107)) (fun _ hk => hk.2) (.slice Ao16 t108.length co16)) (fun _ h_ => h_.1))) hb); have n3_ := Aside0.mk (blk_below (g := gb111) (o := .cells #[.slice Ao13 t101.length co13, .slice Ao15 t104.length co15, .int .i64 t107, .slice Ao16 t108.length co16] 25 (0, 0)) (by (with_reducible repeat (first | refine blk_drewN ?_ _ | refine blk_drew ?_ | refine blk_alloc ?_ _)); refine blk_put (cs := #[.slice Ao13 t101.length co13, .slice Ao15 t104.length co15, .int .i64 t107, .slice none 0 0]) ?_ 3 _ rfl; (with_reducible repeat (first | refine blk_drewN ?_ _ | refine blk_drew ?_ | refine blk_alloc ?_ _)); refine blk_put (cs := #[.slice Ao13 t101.length co13, .slice Ao15 t104.length co15, .int .i64 0, .slice none 0 0]) ?_ 2 _ rfl; (with_reducible repeat (first | refine blk_drewN ?_ _ | refine blk_drew ?_ | refine blk_alloc ?_ _)); refine blk_put (cs := #[.slice Ao13 t101.length co13, .slice none 0 0, .int .i64 0, .slice none 0 0]) ?_ 1 _ rfl; (with_reducible repeat (first | refine blk_drewN ?_ _ | refine blk_drew ?_ | refine blk_alloc ?_ _)); refine blk_put (cs := #[.slice none 0 0, .slice none 0 0, .int .i64 0, .slice none 0 0]) ?_ 0 _ rfl; (with_reducible repeat (first | refine blk_drewN ?_ _ | refine blk_drew ?_ | refine blk_alloc ?_ _)); exact BK111.out) hb); have n4_ := Aside0.mk (below_step (by repeat (first | (with_reducible first | exact HB.out | apply below_alloc | apply pw_below_drewN | apply below_drew1 | refine below_set ?_ GE111.out) | exact HB.out)) hb); clear HO103; clear HO106; clear HO110; clear BK111; clear HB; have HO103 := n0_; have HO106 := n1_; have HO110 := n2_; have BK111 := n3_; have HB := n4_; clear n0_ n1_ n2_ n3_ n4_; (try clear hb); (try clear hb2); (try clear hk); (try clear hi); have hcz18_0 : w17.cell? ⟨gb111, 0, none⟩ = some (.slice Ao13 t101.length co13) := (blk_cell BK111.out 0).trans rfl; have hcz18_1 : w17.cell? ⟨gb111, 1, none⟩ = some (.slice Ao15 t104.length co15) := (blk_cell BK111.out 1).trans rfl; have hcz18_2 : w17.cell? ⟨gb111, 2, none⟩ = some (.int .i64 t107) := (blk_cell BK111.out 2).trans rfl; have hcz18_3 : w17.cell? ⟨gb111, 3, none⟩ = some (.slice Ao16 t108.length co16) := (blk_cell BK111.out 3).trans rfl; have hfz18_0 := blk_frozen BK111.out 0; have hfz18_1 := blk_frozen BK111.out 1; have hfz18_2 := blk_frozen BK111.out 2; have hfz18_3 := blk_frozen BK111.out 3) | (go_at_call 26; (with_reducible refine (gram_Grammar_Check.calls _ _ t101 _ _ t104 t107 _ _ t108 t113 _ ?side1 ?side2 ?side3 ?side4 ?side5 ?side6 ?side7 A4.out).mono ?_); (case side1 => exact Laid.below HG.out (by repeat (first | (with_reducible first | exact HB.out | apply below_alloc | apply pw_below_drewN | apply below_drew1 | refine below_set ?_ GE111.out) | exact HB.out))); (case side2 => repeat (first | exact (Kd.R_reads' HO103.out).2.2 | (with_reducible refine Kd.C_alloc ?_ _) | (with_reducible refine Kd.C_drewN ?_ _) | (with_reducible refine Kd.C_drew ?_))); (case side3 => exact (Kd.R_reads' HO103.out).2.1); (case side4 => repeat (first | exact (Kd.R_reads' HO106.out).2.2 | (with_reducible refine Kd.C_alloc ?_ _) | (with_reducible refine Kd.C_drewN ?_ _) | (with_reducible refine Kd.C_drew ?_))); (case side5 => exact (Kd.R_reads' HO106.out).2.1); (case side6 => repeat (first | exact (Kd.N_reads' HO110.out).2.2 | (with_reducible refine Kd.C_alloc ?_ _) | (with_reducible refine Kd.C_drewN ?_ _) | (with_reducible refine Kd.C_drew ?_))); (case side7 => exact (Kd.N_reads' HO110.out).2.1); rintro e w19 ⟨rfl, hb⟩; have n0_ := Aside0.mk (Kd.R_below (by (with_reducible repeat (first | apply Kd.R_alloc | apply Kd.R_drewN | apply Kd.R_drew)); exact HO103.out) hb); have n1_ := Aside0.mk (Kd.R_below (by (with_reducible repeat (first | apply Kd.R_alloc | apply Kd.R_drewN | apply Kd.R_drew)); exact HO106.out) hb); have n2_ := Aside0.mk (Kd.N_below (by (with_reducible repeat (first | apply Kd.N_alloc | apply Kd.N_drewN | apply Kd.N_drew)); exact HO110.out) hb); have n3_ := Aside0.mk (blk_below (g := gb111) (o := .cells #[.slice Ao13 t101.length co13, .slice Ao15 t104.length co15, .int .i64 t107, .slice Ao16 t108.length co16] 25 (0, 0)) (by (with_reducible repeat (first | refine blk_drewN ?_ _ | refine blk_drew ?_ | refine blk_alloc ?_ _)); exact BK111.out) hb); have n4_ := Aside0.mk (below_step (by repeat (first | (with_reducible first | exact HB.out | apply below_alloc | apply pw_below_drewN | apply below_drew1 | refine below_set ?_ GE111.out) | exact HB.out)) hb); clear HO103; clear HO106; clear HO110; clear BK111; clear HB; have HO103 := n0_; have HO106 := n1_; have HO110 := n2_; have BK111 := n3_; have HB := n4_; clear n0_ n1_ n2_ n3_ n4_; (try clear hb); (try clear hb2); (try clear hk); (try clear hi); have hcz20_0 : w19.cell? ⟨gb111, 0, none⟩ = some (.slice Ao13 t101.length co13) := (blk_cell BK111.out 0).trans rfl; have hcz20_1 : w19.cell? ⟨gb111, 1, none⟩ = some (.slice Ao15 t104.length co15) := (blk_cell BK111.out 1).trans rfl; have hcz20_2 : w19.cell? ⟨gb111, 2, none⟩ = some (.int .i64 t107) := (blk_cell BK111.out 2).trans rfl; have hcz20_3 : w19.cell? ⟨gb111, 3, none⟩ = some (.slice Ao16 t108.length co16) := (blk_cell BK111.out 3).trans rfl; have hfz20_0 := blk_frozen BK111.out 0; have hfz20_1 := blk_frozen BK111.out 1; have hfz20_2 := blk_frozen BK111.out 2; have hfz20_3 := blk_frozen BK111.out 3) | (go_at_call 24; (with_reducible refine (gram_Grammar_Size.calls k _ _ t101 _ _ t104 t107 _ _ t108 t114 _ ?side1 ?side2 ?side3 ?side4 ?side5 ?side6 A6.out).mono ?_); (case side1 => repeat (first | exact (Kd.R_reads' HO103.out).2.2 | (with_reducible refine Kd.C_alloc ?_ _) | (with_reducible refine Kd.C_drewN ?_ _) | (with_reducible refine Kd.C_drew ?_))); (case side2 => exact (Kd.R_reads' HO103.out).2.1); (case side3 => repeat (first | exact (Kd.R_reads' HO106.out).2.2 | (with_reducible refine Kd.C_alloc ?_ _) | (with_reducible refine Kd.C_drewN ?_ _) | (with_reducible refine Kd.C_drew ?_))); (case side4 => exact (Kd.R_reads' HO106.out).2.1); (case side5 => repeat (first | exact (Kd.N_reads' HO110.out).2.2 | (with_reducible refine Kd.C_alloc ?_ _) | (with_reducible refine Kd.C_drewN ?_ _) | (with_reducible refine Kd.C_drew ?_))); (case side6 => exact (Kd.N_reads' HO110.out).2.1); rintro e w21 ⟨rfl, hb⟩; have n0_ := Aside0.mk (Kd.R_below (by (with_reducible repeat (first | apply Kd.R_alloc | apply Kd.R_drewN | apply Kd.R_drew)); exact HO103.out) hb); have n1_ := Aside0.mk (Kd.R_below (by (with_reducible repeat (first | apply Kd.R_alloc | apply Kd.R_drewN | apply Kd.R_drew)); exact HO106.out) hb); have n2_ := Aside0.mk (Kd.N_below (by (with_reducible repeat (first | apply Kd.N_alloc | apply Kd.N_drewN | apply Kd.N_drew)); exact HO110.out) hb); have n3_ := Aside0.mk (blk_below (g := gb111) (o := .cells #[.slice Ao13 t101.length co13, .slice Ao15 t104.length co15, .int .i64 t107, .slice Ao16 t108.length co16] 25 (0, 0)) (by (with_reducible repeat (first | refine blk_drewN ?_ _ | refine blk_drew ?_ | refine blk_alloc ?_ _)); exact BK111.out) hb); have n4_ := Aside0.mk (below_step (by repeat (first | (with_reducible first | exact HB.out | apply below_alloc | apply pw_below_drewN | apply below_drew1 | refine below_set ?_ GE111.out) | exact HB.out)) hb); clear HO103; clear HO106; clear HO110; clear BK111; clear HB; have HO103 := n0_; have HO106 := n1_; have HO110 := n2_; have BK111 := n3_; have HB := n4_; clear n0_ n1_ n2_ n3_ n4_; (try clear hb); (try clear hb2); (try clear hk); (try clear hi); have hcz22_0 : w21.cell? ⟨gb111, 0, none⟩ = some (.slice Ao13 t101.length co13) := (blk_cell BK111.out 0).trans rfl; have hcz22_1 : w21.cell? ⟨gb111, 1, none⟩ = some (.slice Ao15 t104.length co15) := (blk_cell BK111.out 1).trans rfl; have hcz22_2 : w21.cell? ⟨gb111, 2, none⟩ = some (.int .i64 t107) := (blk_cell BK111.out 2).trans rfl; have hcz22_3 : w21.cell? ⟨gb111, 3, none⟩ = some (.slice Ao16 t108.length co16) := (blk_cell BK111.out 3).trans rfl; have hfz22_0 := blk_frozen BK111.out 0; have hfz22_1 := blk_frozen BK111.out 1; have hfz22_2 := blk_frozen BK111.out 2; have hfz22_3 := blk_frozen BK111.out 3) | (go_at_call 117; (with_reducible refine (gram_Grammar_Text.calls _ _ t101 _ _ t104 t107 _ _ t108 (-1) t115 _ ?side1 ?side2 ?side3 ?side4 ?side5 ?side6 A8.out).mono ?_); (case side1 => repeat (first | exact (Kd.R_reads' HO103.out).2.2 | (with_reducible refine Kd.C_alloc ?_ _) | (with_reducible refine Kd.C_drewN ?_ _) | (with_reducible refine Kd.C_drew ?_))); (case side2 => exact (Kd.R_reads' HO103.out).2.1); (case side3 => repeat (first | exact (Kd.R_reads' HO106.out).2.2 | (with_reducible refine Kd.C_alloc ?_ _) | (with_reducible refine Kd.C_drewN ?_ _) | (with_reducible refine Kd.C_drew ?_))); (case side4 => exact (Kd.R_reads' HO106.out).2.1); (case side5 => repeat (first | exact (Kd.N_reads' HO110.out).2.2 | (with_reducible refine Kd.C_alloc ?_ _) | (with_reducible refine Kd.C_drewN ?_ _) | (with_reducible refine Kd.C_drew ?_))); (case side6 => exact (Kd.N_reads' HO110.out).2.1); rintro e w23 ⟨rfl, hb⟩; have n0_ := Aside0.mk (Kd.R_below (by (with_reducible repeat (first | apply Kd.R_alloc | apply Kd.R_drewN | apply Kd.R_drew)); exact HO103.out) hb); have n1_ := Aside0.mk (Kd.R_below (by (with_reducible repeat (first | apply Kd.R_alloc | apply Kd.R_drewN | apply Kd.R_drew)); exact HO106.out) hb); have n2_ := Aside0.mk (Kd.N_below (by (with_reducible repeat (first | apply Kd.N_alloc | apply Kd.N_drewN | apply Kd.N_drew)); exact HO110.out) hb); have n3_ := Aside0.mk (blk_below (g := gb111) (o := .cells #[.slice Ao13 t101.length co13, .slice Ao15 t104.length co15, .int .i64 t107, .slice Ao16 t108.length co16] 25 (0, 0)) (by (with_reducible repeat (first | refine blk_drewN ?_ _ | refine blk_drew ?_ | refine blk_alloc ?_ _)); exact BK111.out) hb); have n4_ := Aside0.mk (below_step (by repeat (first | (with_reducible first | exact HB.out | apply below_alloc | apply pw_below_drewN | apply below_drew1 | refine below_set ?_ GE111.out) | exact HB.out)) hb); clear HO103; clear HO106; clear HO110; clear BK111; clear HB; have HO103 := n0_; have HO106 := n1_; have HO110 := n2_; have BK111 := n3_; have HB := n4_; clear n0_ n1_ n2_ n3_ n4_; (try clear hb); (try clear hb2); (try clear hk); (try clear hi); have hcz24_0 : w23.cell? ⟨gb111, 0, none⟩ = some (.slice Ao13 t101.length co13) := (blk_cell BK111.out 0).trans rfl; have hcz24_1 : w23.cell? ⟨gb111, 1, none⟩ = some (.slice Ao15 t104.length co15) := (blk_cell BK111.out 1).trans rfl; have hcz24_2 : w23.cell? ⟨gb111, 2, none⟩ = some (.int .i64 t107) := (blk_cell BK111.out 2).trans rfl; have hcz24_3 : w23.cell? ⟨gb111, 3, none⟩ = some (.slice Ao16 t108.length co16) := (blk_cell BK111.out 3).trans rfl; have hfz24_0 := blk_frozen BK111.out 0; have hfz24_1 := blk_frozen BK111.out 1; have hfz24_2 := blk_frozen BK111.out 2; have hfz24_3 := blk_frozen BK111.out 3) | (go_at_call 117; (with_reducible refine (gram_Grammar_Text.calls _ _ t101 _ _ t104 t107 _ _ t108 0 t116 _ ?side1 ?side2 ?side3 ?side4 ?side5 ?side6 A10.out).mono ?_); (case side1 => repeat (first | exact (Kd.R_reads' HO103.out).2.2 | (with_reducible refine Kd.C_alloc ?_ _) | (with_reducible refine Kd.C_drewN ?_ _) | (with_reducible refine Kd.C_drew ?_))); (case side2 => exact (Kd.R_reads' HO103.out).2.1); (case side3 => repeat (first | exact (Kd.R_reads' HO106.out).2.2 | (with_reducible refine Kd.C_alloc ?_ _) | (with_reducible refine Kd.C_drewN ?_ _) | (with_reducible refine Kd.C_drew ?_))); (case side4 => exact (Kd.R_reads' HO106.out).2.1); (case side5 => repeat (first | exact (Kd.N_reads' HO110.out).2.2 | (with_reducible refine Kd.C_alloc ?_ _) | (with_reducible refine Kd.C_drewN ?_ _) | (with_reducible refine Kd.C_drew ?_))); (case side6 => exact (Kd.N_reads' HO110.out).2.1); rintro e w25 ⟨rfl, hb⟩; have n0_ := Aside0.mk (Kd.R_below (by (with_reducible repeat (first | apply Kd.R_alloc | apply Kd.R_drewN | apply Kd.R_drew)); exact HO103.out) hb); have n1_ := Aside0.mk (Kd.R_below (by (with_reducible repeat (first | apply Kd.R_alloc | apply Kd.R_drewN | apply Kd.R_drew)); exact HO106.out) hb); have n2_ := Aside0.mk (Kd.N_below (by (with_reducible repeat (first | apply Kd.N_alloc | apply Kd.N_drewN | apply Kd.N_drew)); exact HO110.out) hb); have n3_ := Aside0.mk (blk_below (g := gb111) (o := .cells #[.slice Ao13 t101.length co13, .slice Ao15 t104.length co15, .int .i64 t107, .slice Ao16 t108.length co16] 25 (0, 0)) (by (with_reducible repeat (first | refine blk_drewN ?_ _ | refine blk_drew ?_ | refine blk_alloc ?_ _)); exact BK111.out) hb); have n4_ := Aside0.mk (below_step (by repeat (first | (with_reducible first | exact HB.out | apply below_alloc | apply pw_below_drewN | apply below_drew1 | refine below_set ?_ GE111.out) | exact HB.out)) hb); clear HO103; clear HO106; clear HO110; clear BK111; clear HB; have HO103 := n0_; have HO106 := n1_; have HO110 := n2_; have BK111 := n3_; have HB := n4_; clear n0_ n1_ n2_ n3_ n4_; (try clear hb); (try clear hb2); (try clear hk); (try clear hi)))
     go_ret
     exact ⟨by first | rfl | (simp [errW_none, errW_some] <;> rfl) | (simp [*, errW_none, errW_some] <;> rfl), by repeat (first | (with_reducible first | exact HB.out | apply below_alloc | apply pw_below_drewN | apply below_drew1 | refine below_set ?_ GE111.out) | exact HB.out)⟩
    ·rw [if_neg c9] at H
     have c9b0 : (t115.toList == ([34, 97, 34] : List UInt8)) = false := beq_eq_false_iff_ne.mpr c9
     have c9b1 : (t115.toList != ([34, 97, 34] : List UInt8)) = true := bne_iff_ne.mpr c9
     obtain rfl := Option.some.inj H
     go_enter Tryd.func86, Tryd.ntmps86
     go_wp2_with (first | ((with_reducible refine gate_callee (f := 85) rfl ?_); refine goesL_ (some 2) rfl rfl Tryd.func85 (by kernel_rfl) rfl #[] rfl (by (try simp only [List.map_toArray, List.map_cons, List.map_nil]); first | done | rfl | (simp only [List.length_drop, List.length_take]; rfl)) ?_; (with_reducible refine (wickerlaw02_Example.calls  t101 t104 t107 t108 _ A1.out).mono ?_); rintro e w26 ⟨v102, v105, v109, rfl, ho0, ho1, ho2, hb⟩; refine ⟨_, rfl, ?_⟩; have n0_ := Aside0.mk (Kd.R_lower (Kd.R_mono (ok' := fun k_ => some k_ ≠ (v105 : Value).ownBlock) ho0 (fun _ hk_ => hk_.2)) (below_size (by repeat (first | (with_reducible first | exact HB.out | apply below_alloc | apply pw_below_drewN | apply below_drew1) | exact HB.out)))); have n1_ := Aside0.mk (Kd.R_lower (Kd.R_mono (ok' := fun k_ => some k_ ≠ (v102 : Value).ownBlock) ho1 (fun _ hk_ => hk_.2)) (below_size (by repeat (first | (with_reducible first | exact HB.out | apply below_alloc | apply pw_below_drewN | apply below_drew1) | exact HB.out)))); have n2_ := Aside0.mk (Kd.N_lower (Kd.N_mono (ok' := fun k_ => some k_ ≠ (v102 : Value).ownBlock ∧ some k_ ≠ (v105 : Value).ownBlock) ho2 (fun k_ hk_ => ⟨hk_.2.1, hk_.2.2⟩)) (below_size (by repeat (first | (with_reducible first | exact HB.out | apply below_alloc | apply pw_below_drewN | apply below_drew1) | exact HB.out)))); have n3_ := Aside0.mk (below_step (by repeat (first | (with_reducible first | exact HB.out | apply below_alloc | apply pw_below_drewN | apply below_drew1) | exact HB.out)) hb); clear HB; have HO103 := n0_; have HO106 := n1_; have HO110 := n2_; have HB := n3_; clear n0_ n1_ n2_ n3_; (try clear hb); (try clear hb2); (try clear hk); (try clear hi); (try clear ho0); (try clear ho1); (try clear ho2)) | ((with_reducible refine gate_dst (N := 1) rfl ?_); refine box_event ?hg (N := 1) ?hd (cs := #[.slice none 0 0, .slice none 0 0, .int .i64 0, .slice none 0 0]) (t := 25) ?hr ?_; (case hd => rfl); (case hg => rfl); (case hr => first | (go_simp; done) | (go_simp; rfl)); intro gb111 hg w27 hbox hb; have n0_ := Aside0.mk (Kd.R_below (by (with_reducible repeat (first | apply Kd.R_alloc | apply Kd.R_drewN | apply Kd.R_drew)); exact HO103.out) hb); have n1_ := Aside0.mk (Kd.R_below (by (with_reducible repeat (first | apply Kd.R_alloc | apply Kd.R_drewN | apply Kd.R_drew)); exact HO106.out) hb); have n2_ := Aside0.mk (Kd.N_below (Kd.N_elderB (by (with_reducible repeat (first | apply Kd.N_alloc | apply Kd.N_drewN | apply Kd.N_drew)); exact HO110.out) gb111 (Nat.le_of_eq hg.symm)) hb); have n3_ := Aside0.mk (below_step (by repeat (first | (with_reducible first | exact HB.out | apply below_alloc | apply pw_below_drewN | apply below_drew1) | exact HB.out)) hb); have n4_ := Aside0.mk (hbox); have n5_ := Aside0.mk ((by rw [hg]; exact (below_size (by repeat (first | (with_reducible first | exact HB.out | apply below_alloc | apply pw_below_drewN | apply below_drew1) | exact HB.out))) : w.heap.size ≤ gb111)); have n6_ := Aside0.mk ((by rw [hg]; exact (below_size (by repeat (first | (with_reducible first | exact HB.out | apply below_alloc | apply pw_below_drewN | apply below_drew1) | exact HB.out))) : w.heap.size ≤ gb111)); clear HO103; clear HO106; clear HO110; clear HB; have HO103 := n0_; have HO106 := n1_; have HO110 := n2_; have HB := n3_; have BK111 := n4_; have GW111 := n5_; have GE111 := n6_; clear n0_ n1_ n2_ n3_ n4_ n5_ n6_; clear hb hbox hg; obtain ⟨Ao28, co28, eo28⟩ := Kd.R_slice HO103.out; subst eo28; have hcz29_0 : w27.cell? ⟨gb111, 0, none⟩ = some (.slice none 0 0) := (blk_cell BK111.out 0).trans rfl; have hcz29_1 : w27.cell? ⟨gb111, 1, none⟩ = some (.slice none 0 0) := (blk_cell BK111.out 1).trans rfl; have hcz29_2 : w27.cell? ⟨gb111, 2, none⟩ = some (.int .i64 0) := (blk_cell BK111.out 2).trans rfl; have hcz29_3 : w27.cell? ⟨gb111, 3, none⟩ = some (.slice none 0 0) := (blk_cell BK111.out 3).trans rfl; have hfz29_0 := blk_frozen BK111.out 0; have hfz29_1 := blk_frozen BK111.out 1; have hfz29_2 := blk_frozen BK111.out 2; have hfz29_3 := blk_frozen BK111.out 3; obtain ⟨Ao30, co30, eo30⟩ := Kd.R_slice HO106.out; subst eo30; obtain ⟨Ao31, co31, eo31⟩ := Kd.N_slice HO110.out; subst eo31) | ((with_reducible refine gate_callee (f := 136) rfl ?_); refine goesL_ (some 3) rfl rfl Tryd.func136 (by kernel_rfl) rfl #[] rfl (by (try simp only [List.map_toArray, List.map_cons, List.map_nil]); first | done | rfl | (simp only [List.length_drop, List.length_take]; rfl)) ?_; (with_reducible refine (wickerlaw01_Awake.calls k  true _ ?side1 A2.out).mono ?_); (case side1 => exact Laid.below HG.out (by repeat (first | (with_reducible first | exact HB.out | apply below_alloc | apply pw_below_drewN | apply below_drew1 | refine below_set ?_ GE111.out) | exact HB.out))); rintro e w32 ⟨rfl, hb⟩; refine ⟨_, rfl, ?_⟩; have n0_ := Aside0.mk (Kd.R_below (by (with_reducible repeat (first | apply Kd.R_alloc | apply Kd.R_drewN | apply Kd.R_drew)); exact (Kd.R_mono (Kd.R_far (p := ⟨gb111, 3, none⟩) (Kd.R_far (p := ⟨gb111, 2, none⟩) (Kd.R_far (p := ⟨gb111, 1, none⟩) (Kd.R_far (p := ⟨gb111, 0, none⟩) (Kd.R_types HO103.out BK111.out (by decide)) (fun _ hk => hk.2) (.slice Ao28 t101.length co28)) (fun _ hk => hk.2) (.slice Ao30 t104.length co30)) (fun _ hk => hk.2) (.int .i64 t107)) (fun _ hk => hk.2) (.slice Ao31 t108.length co31)) (fun _ h_ => h_.1))) hb); have n1_ := Aside0.mk (Kd.R_below (by (with_reducible repeat (first | apply Kd.R_alloc | apply Kd.R_drewN | apply Kd.R_drew)); exact (Kd.R_mono (Kd.R_far (p := ⟨gb111, 3, none⟩) (Kd.R_far (p := ⟨gb111, 2, none⟩) (Kd.R_far (p := ⟨gb111, 1, none⟩) (Kd.R_far (p := ⟨gb111, 0, none⟩) (Kd.R_types HO106.out BK111.out (by decide)) (fun _ hk => hk.2) (.slice Ao28 t101.length co28)) (fun _ hk => hk.2) (.slice Ao30 t104.length co30)) (fun _ hk => hk.2) (.int .i64 t107)) (fun _ hk => hk.2) (.slice Ao31 t108.length co31)) (fun _ h_ => h_.1))) hb); have n2_ := Aside0.mk (Kd.N_below (by (with_reducible repeat (first | apply Kd.N_alloc | apply Kd.N_drewN | apply Kd.N_drew)); exact (Kd.N_mono (Kd.N_far (p := ⟨gb111, 3, none⟩) (Kd.N_far (p := ⟨gb111, 2, none⟩) (Kd.N_far (p := ⟨gb111, 1, none⟩) (Kd.N_far (p := ⟨gb111, 0, none⟩) (Kd.N_mono HO110.out (fun k_ hk => (⟨hk, hk.2⟩ : _ ∧ k_ ≠ gb111))) (fun _ hk => hk.2) (.slice Ao28 t101.length co28)) (fun _ hk => hk.2) (.slice Ao30 t104.length co30)) (fun _ hk => hk.2) (.int .i64 t107)) (fun _ hk => hk.2) (.slice Ao31 t108.length co31)) (fun _ h_ => h_.1))) hb); have n3_ := Aside0.mk (blk_below (g := gb111) (o := .cells #[.slice Ao28 t101.length co28, .slice Ao30 t104.length co30, .int .i64 t107, .slice Ao31 t108.length co31] 25 (0, 0)) (by (with_reducible repeat (first | refine blk_drewN ?_ _ | refine blk_drew ?_ | refine blk_alloc ?_ _)); refine blk_put (cs := #[.slice Ao28 t101.length co28, .slice Ao30 t104.length co30, .int .i64 t107, .slice none 0 0]) ?_ 3 _ rfl; (with_reducible repeat (first | refine blk_drewN ?_ _ | refine blk_drew ?_ | refine blk_alloc ?_ _)); refine blk_put (cs := #[.slice Ao28 t101.length co28, .slice Ao30 t104.length co30, .int .i64 0, .slice none 0 0]) ?_ 2 _ rfl; (with_reducible repeat (first | refine blk_drewN ?_ _ | refine blk_drew ?_ | refine blk_alloc ?_ _)); refine blk_put (cs := #[.slice Ao28 t101.length co28, .slice none 0 0, .int .i64 0, .slice none 0 0]) ?_ 1 _ rfl; (with_reducible repeat (first | refine blk_drewN ?_ _ | refine blk_drew ?_ | refine blk_alloc ?_ _)); refine blk_put (cs := #[.slice none 0 0, .slice none 0 0, .int .i64 0, .slice none 0 0]) ?_ 0 _ rfl; (with_reducible repeat (first | refine blk_drewN ?_ _ | refine blk_drew ?_ | refine blk_alloc ?_ _)); exact BK111.out) hb); have n4_ := Aside0.mk (below_step (by repeat (first | (with_reducible first | exact HB.out | apply below_alloc | apply pw_below_drewN | apply below_drew1 | refine below_set ?_ GE111.out) | exact HB.out)) hb); clear HO103; clear HO106; clear HO110; clear BK111; clear HB; have HO103 := n0_; have HO106 := n1_; have HO110 := n2_; have BK111 := n3_; have HB := n4_; clear n0_ n1_ n2_ n3_ n4_; (try clear hb); (try clear hb2); (try clear hk); (try clear hi); have hcz33_0 : w32.cell? ⟨gb111, 0, none⟩ = some (.slice Ao28 t101.length co28) := (blk_cell BK111.out 0).trans rfl; have hcz33_1 : w32.cell? ⟨gb111, 1, none⟩ = some (.slice Ao30 t104.length co30) := (blk_cell BK111.out 1).trans rfl; have hcz33_2 : w32.cell? ⟨gb111, 2, none⟩ = some (.int .i64 t107) := (blk_cell BK111.out 2).trans rfl; have hcz33_3 : w32.cell? ⟨gb111, 3, none⟩ = some (.slice Ao31 t108.length co31) := (blk_cell BK111.out 3).trans rfl; have hfz33_0 := blk_frozen BK111.out 0; have hfz33_1 := blk_frozen BK111.out 1; have hfz33_2 := blk_frozen BK111.out 2; have hfz33_3 := blk_frozen BK111.out 3) | (go_at_call 26; (with_reducible refine (gram_Grammar_Check.calls _ _ t101 _ _ t104 t107 _ _ t108 t113 _ ?side1 ?side2 ?side3 ?side4 ?side5 ?side6 ?side7 A4.out).mono ?_); (case side1 => exact Laid.below HG.out (by repeat (first | (with_reducible first | exact HB.out | apply below_alloc | apply pw_below_drewN | apply below_drew1 | refine below_set ?_ GE111.out) | exact HB.out))); (case side2 => repeat (first | exact (Kd.R_reads' HO103.out).2.2 | (with_reducible refine Kd.C_alloc ?_ _) | (with_reducible refine Kd.C_drewN ?_ _) | (with_reducible refine Kd.C_drew ?_))); (case side3 => exact (Kd.R_reads' HO103.out).2.1); (case side4 => repeat (first | exact (Kd.R_reads' HO106.out).2.2 | (with_reducible refine Kd.C_alloc ?_ _) | (with_reducible refine Kd.C_drewN ?_ _) | (with_reducible refine Kd.C_drew ?_))); (case side5 => exact (Kd.R_reads' HO106.out).2.1); (case side6 => repeat (first | exact (Kd.N_reads' HO110.out).2.2 | (with_reducible refine Kd.C_alloc ?_ _) | (with_reducible refine Kd.C_drewN ?_ _) | (with_reducible refine Kd.C_drew ?_))); (case side7 => exact (Kd.N_reads' HO110.out).2.1); rintro e w34 ⟨rfl, hb⟩; have n0_ := Aside0.mk (Kd.R_below (by (with_reducible repeat (first | apply Kd.R_alloc | apply Kd.R_drewN | apply Kd.R_drew)); exact HO103.out) hb); have n1_ := Aside0.mk (Kd.R_below (by (with_reducible repeat (first | apply Kd.R_alloc | apply Kd.R_drewN | apply Kd.R_drew)); exact HO106.out) hb); have n2_ := Aside0.mk (Kd.N_below (by (with_reducible repeat (first | apply Kd.N_alloc | apply Kd.N_drewN | apply Kd.N_drew)); exact HO110.out) hb); have n3_ := Aside0.mk (blk_below (g := gb111) (o := .cells #[.slice Ao28 t101.length co28, .slice Ao30 t104.length co30, .int .i64 t107, .slice Ao31 t108.length co31] 25 (0, 0)) (by (with_reducible repeat (first | refine blk_drewN ?_ _ | refine blk_drew ?_ | refine blk_alloc ?_ _)); exact BK111.out) hb); have n4_ := Aside0.mk (below_step (by repeat (first | (with_reducible first | exact HB.out | apply below_alloc | apply pw_below_drewN | apply below_drew1 | refine below_set ?_ GE111.out) | exact HB.out)) hb); clear HO103; clear HO106; clear HO110; clear BK111; clear HB; have HO103 := n0_; have HO106 := n1_; have HO110 := n2_; have BK111 := n3_; have HB := n4_; clear n0_ n1_ n2_ n3_ n4_; (try clear hb); (try clear hb2); (try clear hk); (try clear hi); have hcz35_0 : w34.cell? ⟨gb111, 0, none⟩ = some (.slice Ao28 t101.length co28) := (blk_cell BK111.out 0).trans rfl; have hcz35_1 : w34.cell? ⟨gb111, 1, none⟩ = some (.slice Ao30 t104.length co30) := (blk_cell BK111.out 1).trans rfl; have hcz35_2 : w34.cell? ⟨gb111, 2, none⟩ = some (.int .i64 t107) := (blk_cell BK111.out 2).trans rfl; have hcz35_3 : w34.cell? ⟨gb111, 3, none⟩ = some (.slice Ao31 t108.length co31) := (blk_cell BK111.out 3).trans rfl; have hfz35_0 := blk_frozen BK111.out 0; have hfz35_1 := blk_frozen BK111.out 1; have hfz35_2 := blk_frozen BK111.out 2; have hfz35_3 := blk_frozen BK111.out 3) | (go_at_call 24; (with_reducible refine (gram_Grammar_Size.calls k _ _ t101 _ _ t104 t107 _ _ t108 t114 _ ?side1 ?side2 ?side3 ?side4 ?side5 ?side6 A6.out).mono ?_); (case side1 => repeat (first | exact (Kd.R_reads' HO103.out).2.2 | (with_reducible refine Kd.C_alloc ?_ _) | (with_reducible refine Kd.C_drewN ?_ _) | (with_reducible refine Kd.C_drew ?_))); (case side2 => exact (Kd.R_reads' HO103.out).2.1); (case side3 => repeat (first | exact (Kd.R_reads' HO106.out).2.2 | (with_reducible refine Kd.C_alloc ?_ _) | (with_reducible refine Kd.C_drewN ?_ _) | (with_reducible refine Kd.C_drew ?_))); (case side4 => exact (Kd.R_reads' HO106.out).2.1); (case side5 => repeat (first | exact (Kd.N_reads' HO110.out).2.2 | (with_reducible refine Kd.C_alloc ?_ _) | (with_reducible refine Kd.C_drewN ?_ _) | (with_reducible refine Kd.C_drew ?_))); (case side6 => exact (Kd.N_reads' HO110.out).2.1); rintro e w36 ⟨rfl, hb⟩; have n0_ := Aside0.mk (Kd.R_below (by (with_reducible repeat (first | apply Kd.R_alloc | apply Kd.R_drewN | apply Kd.R_drew)); exact HO103.out) hb); have n1_ := Aside0.mk (Kd.R_below (by (with_reducible repeat (first | apply Kd.R_alloc | apply Kd.R_drewN | apply Kd.R_drew)); exact HO106.out) hb); have n2_ := Aside0.mk (Kd.N_below (by (with_reducible repeat (first | apply Kd.N_alloc | apply Kd.N_drewN | apply Kd.N_drew)); exact HO110.out) hb); have n3_ := Aside0.mk (blk_below (g := gb111) (o := .cells #[.slice Ao28 t101.length co28, .slice Ao30 t104.length co30, .int .i64 t107, .slice Ao31 t108.length co31] 25 (0, 0)) (by (with_reducible repeat (first | refine blk_drewN ?_ _ | refine blk_drew ?_ | refine blk_alloc ?_ _)); exact BK111.out) hb); have n4_ := Aside0.mk (below_step (by repeat (first | (with_reducible first | exact HB.out | apply below_alloc | apply pw_below_drewN | apply below_drew1 | refine below_set ?_ GE111.out) | exact HB.out)) hb); clear HO103; clear HO106; clear HO110; clear BK111; clear HB; have HO103 := n0_; have HO106 := n1_; have HO110 := n2_; have BK111 := n3_; have HB := n4_; clear n0_ n1_ n2_ n3_ n4_; (try clear hb); (try clear hb2); (try clear hk); (try clear hi); have hcz37_0 : w36.cell? ⟨gb111, 0, none⟩ = some (.slice Ao28 t101.length co28) := (blk_cell BK111.out 0).trans rfl; have hcz37_1 : w36.cell? ⟨gb111, 1, none⟩ = some (.slice Ao30 t104.length co30) := (blk_cell BK111.out 1).trans rfl; have hcz37_2 : w36.cell? ⟨gb111, 2, none⟩ = some (.int .i64 t107) := (blk_cell BK111.out 2).trans rfl; have hcz37_3 : w36.cell? ⟨gb111, 3, none⟩ = some (.slice Ao31 t108.length co31) := (blk_cell BK111.out 3).trans rfl; have hfz37_0 := blk_frozen BK111.out 0; have hfz37_1 := blk_frozen BK111.out 1; have hfz37_2 := blk_frozen BK111.out 2; have hfz37_3 := blk_frozen BK111.out 3) | (go_at_call 117; (with_reducible refine (gram_Grammar_Text.calls _ _ t101 _ _ t104 t107 _ _ t108 (-1) t115 _ ?side1 ?side2 ?side3 ?side4 ?side5 ?side6 A8.out).mono ?_); (case side1 => repeat (first | exact (Kd.R_reads' HO103.out).2.2 | (with_reducible refine Kd.C_alloc ?_ _) | (with_reducible refine Kd.C_drewN ?_ _) | (with_reducible refine Kd.C_drew ?_))); (case side2 => exact (Kd.R_reads' HO103.out).2.1); (case side3 => repeat (first | exact (Kd.R_reads' HO106.out).2.2 | (with_reducible refine Kd.C_alloc ?_ _) | (with_reducible refine Kd.C_drewN ?_ _) | (with_reducible refine Kd.C_drew ?_))); (case side4 => exact (Kd.R_reads' HO106.out).2.1); (case side5 => repeat (first | exact (Kd.N_reads' HO110.out).2.2 | (with_reducible refine Kd.C_alloc ?_ _) | (with_reducible refine Kd.C_drewN ?_ _) | (with_reducible refine Kd.C_drew ?_))); (case side6 => exact (Kd.N_reads' HO110.out).2.1); rintro e w38 ⟨rfl, hb⟩; have n0_ := Aside0.mk (Kd.R_below (by (with_reducible repeat (first | apply Kd.R_alloc | apply Kd.R_drewN | apply Kd.R_drew)); exact HO103.out) hb); have n1_ := Aside0.mk (Kd.R_below (by (with_reducible repeat (first | apply Kd.R_alloc | apply Kd.R_drewN | apply Kd.R_drew)); exact HO106.out) hb); have n2_ := Aside0.mk (Kd.N_below (by (with_reducible repeat (first | apply Kd.N_alloc | apply Kd.N_drewN | apply Kd.N_drew)); exact HO110.out) hb); have n3_ := Aside0.mk (blk_below (g := gb111) (o := .cells #[.slice Ao28 t101.length co28, .slice Ao30 t104.length co30, .int .i64 t107, .slice Ao31 t108.length co31] 25 (0, 0)) (by (with_reducible repeat (first | refine blk_drewN ?_ _ | refine blk_drew ?_ | refine blk_alloc ?_ _)); exact BK111.out) hb); have n4_ := Aside0.mk (below_step (by repeat (first | (with_reducible first | exact HB.out | apply below_alloc | apply pw_below_drewN | apply below_drew1 | refine below_set ?_ GE111.out) | exact HB.out)) hb); clear HO103; clear HO106; clear HO110; clear BK111; clear HB; have HO103 := n0_; have HO106 := n1_; have HO110 := n2_; have BK111 := n3_; have HB := n4_; clear n0_ n1_ n2_ n3_ n4_; (try clear hb); (try clear hb2); (try clear hk); (try clear hi)))
     go_ret
     exact ⟨by first | rfl | (simp [errW_none, errW_some] <;> rfl) | (simp [*, errW_none, errW_some] <;> rfl), by repeat (first | (with_reducible first | exact HB.out | apply below_alloc | apply pw_below_drewN | apply below_drew1 | refine below_set ?_ GE111.out) | exact HB.out)⟩
   ·rw [if_neg c7] at H
    have c7b0 : (t114 == 4) = false := beq_eq_false_iff_ne.mpr c7
    have c7b1 : (t114 != 4) = true := bne_iff_ne.mpr c7
    obtain rfl := Option.some.inj H
    go_enter Tryd.func86, Tryd.ntmps86
    go_wp2_with (first | ((with_reducible refine gate_callee (f := 85) rfl ?_); refine goesL_ (some 2) rfl rfl Tryd.func85 (by kernel_rfl) rfl #[] rfl (by (try simp only [List.map_toArray, List.map_cons, List.map_nil]); first | done | rfl | (simp only [List.length_drop, List.length_take]; rfl)) ?_; (with_reducible refine (wickerlaw02_Example.calls  t101 t104 t107 t108 _ A1.out).mono ?_); rintro e w39 ⟨v102, v105, v109, rfl, ho0, ho1, ho2, hb⟩; refine ⟨_, rfl, ?_⟩; have n0_ := Aside0.mk (Kd.R_lower (Kd.R_mono (ok' := fun k_ => some k_ ≠ (v105 : Value).ownBlock) ho0 (fun _ hk_ => hk_.2)) (below_size (by repeat (first | (with_reducible first | exact HB.out | apply below_alloc | apply pw_below_drewN | apply below_drew1) | exact HB.out)))); have n1_ := Aside0.mk (Kd.R_lower (Kd.R_mono (ok' := fun k_ => some k_ ≠ (v102 : Value).ownBlock) ho1 (fun _ hk_ => hk_.2)) (below_size (by repeat (first | (with_reducible first | exact HB.out | apply below_alloc | apply pw_below_drewN | apply below_drew1) | exact HB.out)))); have n2_ := Aside0.mk (Kd.N_lower (Kd.N_mono (ok' := fun k_ => some k_ ≠ (v102 : Value).ownBlock ∧ some k_ ≠ (v105 : Value).ownBlock) ho2 (fun k_ hk_ => ⟨hk_.2.1, hk_.2.2⟩)) (below_size (by repeat (first | (with_reducible first | exact HB.out | apply below_alloc | apply pw_below_drewN | apply below_drew1) | exact HB.out)))); have n3_ := Aside0.mk (below_step (by repeat (first | (with_reducible first | exact HB.out | apply below_alloc | apply pw_below_drewN | apply below_drew1) | exact HB.out)) hb); clear HB; have HO103 := n0_; have HO106 := n1_; have HO110 := n2_; have HB := n3_; clear n0_ n1_ n2_ n3_; (try clear hb); (try clear hb2); (try clear hk); (try clear hi); (try clear ho0); (try clear ho1); (try clear ho2)) | ((with_reducible refine gate_dst (N := 1) rfl ?_); refine box_event ?hg (N := 1) ?hd (cs := #[.slice none 0 0, .slice none 0 0, .int .i64 0, .slice none 0 0]) (t := 25) ?hr ?_; (case hd => rfl); (case hg => rfl); (case hr => first | (go_simp; done) | (go_simp; rfl)); intro gb111 hg w40 hbox hb; have n0_ := Aside0.mk (Kd.R_below (by (with_reducible repeat (first | apply Kd.R_alloc | apply Kd.R_drewN | apply Kd.R_drew)); exact HO103.out) hb); have n1_ := Aside0.mk (Kd.R_below (by (with_reducible repeat (first | apply Kd.R_alloc | apply Kd.R_drewN | apply Kd.R_drew)); exact HO106.out) hb); have n2_ := Aside0.mk (Kd.N_below (Kd.N_elderB (by (with_reducible repeat (first | apply Kd.N_alloc | apply Kd.N_drewN | apply Kd.N_drew)); exact HO110.out) gb111 (Nat.le_of_eq hg.symm)) hb); have n3_ := Aside0.mk (below_step (by repeat (first | (with_reducible first | exact HB.out | apply below_alloc | apply pw_below_drewN | apply below_drew1) | exact HB.out)) hb); have n4_ := Aside0.mk (hbox); have n5_ := Aside0.mk ((by rw [hg]; exact (below_size (by repeat (first | (with_reducible first | exact HB.out | apply below_alloc | apply pw_below_drewN | apply below_drew1) | exact HB.out))) : w.heap.size ≤ gb111)); have n6_ := Aside0.mk ((by rw [hg]; exact (below_size (by repeat (first | (with_reducible first | exact HB.out | apply below_alloc | apply pw_below_drewN | apply below_drew1) | exact HB.out))) : w.heap.size ≤ gb111)); clear HO103; clear HO106; clear HO110; clear HB; have HO103 := n0_; have HO106 := n1_; have HO110 := n2_; have HB := n3_; have BK111 := n4_; have GW111 := n5_; have GE111 := n6_; clear n0_ n1_ n2_ n3_ n4_ n5_ n6_; clear hb hbox hg; obtain ⟨Ao41, co41, eo41⟩ := Kd.R_slice HO103.out; subst eo41; have hcz42_0 : w40.cell? ⟨gb111, 0, none⟩ = some (.slice none 0 0) := (blk_cell BK111.out 0).trans rfl; have hcz42_1 : w40.cell? ⟨gb111, 1, none⟩ = some (.slice none 0 0) := (blk_cell BK111.out 1).trans rfl; have hcz42_2 : w40.cell? ⟨gb111, 2, none⟩ = some (.int .i64 0) := (blk_cell BK111.out 2).trans rfl; have hcz42_3 : w40.cell? ⟨gb111, 3, none⟩ = some (.slice none 0 0) := (blk_cell BK111.out 3).trans rfl; have hfz42_0 := blk_frozen BK111.out 0; have hfz42_1 := blk_frozen BK111.out 1; have hfz42_2 := blk_frozen BK111.out 2; have hfz42_3 := blk_frozen BK111.out 3; obtain ⟨Ao43, co43, eo43⟩ := Kd.R_slice HO106.out; subst eo43; obtain ⟨Ao44, co44, eo44⟩ := Kd.N_slice HO110.out; subst eo44) | ((with_reducible refine gate_callee (f := 136) rfl ?_); refine goesL_ (some 3) rfl rfl Tryd.func136 (by kernel_rfl) rfl #[] rfl (by (try simp only [List.map_toArray, List.map_cons, List.map_nil]); first | done | rfl | (simp only [List.length_drop, List.length_take]; rfl)) ?_; (with_reducible refine (wickerlaw01_Awake.calls k  true _ ?side1 A2.out).mono ?_); (case side1 => exact Laid.below HG.out (by repeat (first | (with_reducible first | exact HB.out | apply below_alloc | apply pw_below_drewN | apply below_drew1 | refine below_set ?_ GE111.out) | exact HB.out))); rintro e w45 ⟨rfl, hb⟩; refine ⟨_, rfl, ?_⟩; have n0_ := Aside0.mk (Kd.R_below (by (with_reducible repeat (first | apply Kd.R_alloc | apply Kd.R_drewN | apply Kd.R_drew)); exact (Kd.R_mono (Kd.R_far (p := ⟨gb111, 3, none⟩) (Kd.R_far (p := ⟨gb111, 2, none⟩) (Kd.R_far (p := ⟨gb111, 1, none⟩) (Kd.R_far (p := ⟨gb111, 0, none⟩) (Kd.R_types HO103.out BK111.out (by decide)) (fun _ hk => hk.2) (.slice Ao41 t101.length co41)) (fun _ hk => hk.2) (.slice Ao43 t104.length co43)) (fun _ hk => hk.2) (.int .i64 t107)) (fun _ hk => hk.2) (.slice Ao44 t108.length co44)) (fun _ h_ => h_.1))) hb); have n1_ := Aside0.mk (Kd.R_below (by (with_reducible repeat (first | apply Kd.R_alloc | apply Kd.R_drewN | apply Kd.R_drew)); exact (Kd.R_mono (Kd.R_far (p := ⟨gb111, 3, none⟩) (Kd.R_far (p := ⟨gb111, 2, none⟩) (Kd.R_far (p := ⟨gb111, 1, none⟩) (Kd.R_far (p := ⟨gb111, 0, none⟩) (Kd.R_types HO106.out BK111.out (by decide)) (fun _ hk => hk.2) (.slice Ao41 t101.length co41)) (fun _ hk => hk.2) (.slice Ao43 t104.length co43)) (fun _ hk => hk.2) (.int .i64 t107)) (fun _ hk => hk.2) (.slice Ao44 t108.length co44)) (fun _ h_ => h_.1))) hb); have n2_ := Aside0.mk (Kd.N_below (by (with_reducible repeat (first | apply Kd.N_alloc | apply Kd.N_drewN | apply Kd.N_drew)); exact (Kd.N_mono (Kd.N_far (p := ⟨gb111, 3, none⟩) (Kd.N_far (p := ⟨gb111, 2, none⟩) (Kd.N_far (p := ⟨gb111, 1, none⟩) (Kd.N_far (p := ⟨gb111, 0, none⟩) (Kd.N_mono HO110.out (fun k_ hk => (⟨hk, hk.2⟩ : _ ∧ k_ ≠ gb111))) (fun _ hk => hk.2) (.slice Ao41 t101.length co41)) (fun _ hk => hk.2) (.slice Ao43 t104.length co43)) (fun _ hk => hk.2) (.int .i64 t107)) (fun _ hk => hk.2) (.slice Ao44 t108.length co44)) (fun _ h_ => h_.1))) hb); have n3_ := Aside0.mk (blk_below (g := gb111) (o := .cells #[.slice Ao41 t101.length co41, .slice Ao43 t104.length co43, .int .i64 t107, .slice Ao44 t108.length co44] 25 (0, 0)) (by (with_reducible repeat (first | refine blk_drewN ?_ _ | refine blk_drew ?_ | refine blk_alloc ?_ _)); refine blk_put (cs := #[.slice Ao41 t101.length co41, .slice Ao43 t104.length co43, .int .i64 t107, .slice none 0 0]) ?_ 3 _ rfl; (with_reducible repeat (first | refine blk_drewN ?_ _ | refine blk_drew ?_ | refine blk_alloc ?_ _)); refine blk_put (cs := #[.slice Ao41 t101.length co41, .slice Ao43 t104.length co43, .int .i64 0, .slice none 0 0]) ?_ 2 _ rfl; (with_reducible repeat (first | refine blk_drewN ?_ _ | refine blk_drew ?_ | refine blk_alloc ?_ _)); refine blk_put (cs := #[.slice Ao41 t101.length co41, .slice none 0 0, .int .i64 0, .slice none 0 0]) ?_ 1 _ rfl; (with_reducible repeat (first | refine blk_drewN ?_ _ | refine blk_drew ?_ | refine blk_alloc ?_ _)); refine blk_put (cs := #[.slice none 0 0, .slice none 0 0, .int .i64 0, .slice none 0 0]) ?_ 0 _ rfl; (with_reducible repeat (first | refine blk_drewN ?_ _ | refine blk_drew ?_ | refine blk_alloc ?_ _)); exact BK111.out) hb); have n4_ := Aside0.mk (below_step (by repeat (first | (with_reducible first | exact HB.out | apply below_alloc | apply pw_below_drewN | apply below_drew1 | refine below_set ?_ GE111.out) | exact HB.out)) hb); clear HO103; clear HO106; clear HO110; clear BK111; clear HB; have HO103 := n0_; have HO106 := n1_; have HO110 := n2_; have BK111 := n3_; have HB := n4_; clear n0_ n1_ n2_ n3_ n4_; (try clear hb); (try clear hb2); (try clear hk); (try clear hi); have hcz46_0 : w45.cell? ⟨gb111, 0, none⟩ = some (.slice Ao41 t101.length co41) := (blk_cell BK111.out 0).trans rfl; have hcz46_1 : w45.cell? ⟨gb111, 1, none⟩ = some (.slice Ao43 t104.length co43) := (blk_cell BK111.out 1).trans rfl; have hcz46_2 : w45.cell? ⟨gb111, 2, none⟩ = some (.int .i64 t107) := (blk_cell BK111.out 2).trans rfl; have hcz46_3 : w45.cell? ⟨gb111, 3, none⟩ = some (.slice Ao44 t108.length co44) := (blk_cell BK111.out 3).trans rfl; have hfz46_0 := blk_frozen BK111.out 0; have hfz46_1 := blk_frozen BK111.out 1; have hfz46_2 := blk_frozen BK111.out 2; have hfz46_3 := blk_frozen BK111.out 3) | (go_at_call 26; (with_reducible refine (gram_Grammar_Check.calls _ _ t101 _ _ t104 t107 _ _ t108 t113 _ ?side1 ?side2 ?side3 ?side4 ?side5 ?side6 ?side7 A4.out).mono ?_); (case side1 => exact Laid.below HG.out (by repeat (first | (with_reducible first | exact HB.out | apply below_alloc | apply pw_below_drewN | apply below_drew1 | refine below_set ?_ GE111.out) | exact HB.out))); (case side2 => repeat (first | exact (Kd.R_reads' HO103.out).2.2 | (with_reducible refine Kd.C_alloc ?_ _) | (with_reducible refine Kd.C_drewN ?_ _) | (with_reducible refine Kd.C_drew ?_))); (case side3 => exact (Kd.R_reads' HO103.out).2.1); (case side4 => repeat (first | exact (Kd.R_reads' HO106.out).2.2 | (with_reducible refine Kd.C_alloc ?_ _) | (with_reducible refine Kd.C_drewN ?_ _) | (with_reducible refine Kd.C_drew ?_))); (case side5 => exact (Kd.R_reads' HO106.out).2.1); (case side6 => repeat (first | exact (Kd.N_reads' HO110.out).2.2 | (with_reducible refine Kd.C_alloc ?_ _) | (with_reducible refine Kd.C_drewN ?_ _) | (with_reducible refine Kd.C_drew ?_))); (case side7 => exact (Kd.N_reads' HO110.out).2.1); rintro e w47 ⟨rfl, hb⟩; have n0_ := Aside0.mk (Kd.R_below (by (with_reducible repeat (first | apply Kd.R_alloc | apply Kd.R_drewN | apply Kd.R_drew)); exact HO103.out) hb); have n1_ := Aside0.mk (Kd.R_below (by (with_reducible repeat (first | apply Kd.R_alloc | apply Kd.R_drewN | apply Kd.R_drew)); exact HO106.out) hb); have n2_ := Aside0.mk (Kd.N_below (by (with_reducible repeat (first | apply Kd.N_alloc | apply Kd.N_drewN | apply Kd.N_drew)); exact HO110.out) hb); have n3_ := Aside0.mk (blk_below (g := gb111) (o := .cells #[.slice Ao41 t101.length co41, .slice Ao43 t104.length co43, .int .i64 t107, .slice Ao44 t108.length co44] 25 (0, 0)) (by (with_reducible repeat (first | refine blk_drewN ?_ _ | refine blk_drew ?_ | refine blk_alloc ?_ _)); exact BK111.out) hb); have n4_ := Aside0.mk (below_step (by repeat (first | (with_reducible first | exact HB.out | apply below_alloc | apply pw_below_drewN | apply below_drew1 | refine below_set ?_ GE111.out) | exact HB.out)) hb); clear HO103; clear HO106; clear HO110; clear BK111; clear HB; have HO103 := n0_; have HO106 := n1_; have HO110 := n2_; have BK111 := n3_; have HB := n4_; clear n0_ n1_ n2_ n3_ n4_; (try clear hb); (try clear hb2); (try clear hk); (try clear hi); have hcz48_0 : w47.cell? ⟨gb111, 0, none⟩ = some (.slice Ao41 t101.length co41) := (blk_cell BK111.out 0).trans rfl; have hcz48_1 : w47.cell? ⟨gb111, 1, none⟩ = some (.slice Ao43 t104.length co43) := (blk_cell BK111.out 1).trans rfl; have hcz48_2 : w47.cell? ⟨gb111, 2, none⟩ = some (.int .i64 t107) := (blk_cell BK111.out 2).trans rfl; have hcz48_3 : w47.cell? ⟨gb111, 3, none⟩ = some (.slice Ao44 t108.length co44) := (blk_cell BK111.out 3).trans rfl; have hfz48_0 := blk_frozen BK111.out 0; have hfz48_1 := blk_frozen BK111.out 1; have hfz48_2 := blk_frozen BK111.out 2; have hfz48_3 := blk_frozen BK111.out 3) | (go_at_call 24; (with_reducible refine (gram_Grammar_Size.calls k _ _ t101 _ _ t104 t107 _ _ t108 t114 _ ?side1 ?side2 ?side3 ?side4 ?side5 ?side6 A6.out).mono ?_); (case side1 => repeat (first | exact (Kd.R_reads' HO103.out).2.2 | (with_reducible refine Kd.C_alloc ?_ _) | (with_reducible refine Kd.C_drewN ?_ _) | (with_reducible refine Kd.C_drew ?_))); (case side2 => exact (Kd.R_reads' HO103.out).2.1); (case side3 => repeat (first | exact (Kd.R_reads' HO106.out).2.2 | (with_reducible refine Kd.C_alloc ?_ _) | (with_reducible refine Kd.C_drewN ?_ _) | (with_reducible refine Kd.C_drew ?_))); (case side4 => exact (Kd.R_reads' HO106.out).2.1); (case side5 => repeat (first | exact (Kd.N_reads' HO110.out).2.2 | (with_reducible refine Kd.C_alloc ?_ _) | (with_reducible refine Kd.C_drewN ?_ _) | (with_reducible refine Kd.C_drew ?_))); (case side6 => exact (Kd.N_reads' HO110.out).2.1); rintro e w49 ⟨rfl, hb⟩; have n0_ := Aside0.mk (Kd.R_below (by (with_reducible repeat (first | apply Kd.R_alloc | apply Kd.R_drewN | apply Kd.R_drew)); exact HO103.out) hb); have n1_ := Aside0.mk (Kd.R_below (by (with_reducible repeat (first | apply Kd.R_alloc | apply Kd.R_drewN | apply Kd.R_drew)); exact HO106.out) hb); have n2_ := Aside0.mk (Kd.N_below (by (with_reducible repeat (first | apply Kd.N_alloc | apply Kd.N_drewN | apply Kd.N_drew)); exact HO110.out) hb); have n3_ := Aside0.mk (blk_below (g := gb111) (o := .cells #[.slice Ao41 t101.length co41, .slice Ao43 t104.length co43, .int .i64 t107, .slice Ao44 t108.length co44] 25 (0, 0)) (by (with_reducible repeat (first | refine blk_drewN ?_ _ | refine blk_drew ?_ | refine blk_alloc ?_ _)); exact BK111.out) hb); have n4_ := Aside0.mk (below_step (by repeat (first | (with_reducible first | exact HB.out | apply below_alloc | apply pw_below_drewN | apply below_drew1 | refine below_set ?_ GE111.out) | exact HB.out)) hb); clear HO103; clear HO106; clear HO110; clear BK111; clear HB; have HO103 := n0_; have HO106 := n1_; have HO110 := n2_; have BK111 := n3_; have HB := n4_; clear n0_ n1_ n2_ n3_ n4_; (try clear hb); (try clear hb2); (try clear hk); (try clear hi)))
    go_ret
    exact ⟨by first | rfl | (simp [errW_none, errW_some] <;> rfl) | (simp [*, errW_none, errW_some] <;> rfl), by repeat (first | (with_reducible first | exact HB.out | apply below_alloc | apply pw_below_drewN | apply below_drew1 | refine below_set ?_ GE111.out) | exact HB.out)⟩
  ·rw [if_neg c5] at H
   have c5b0 : (t113 == 0) = false := beq_eq_false_iff_ne.mpr c5
   have c5b1 : (t113 != 0) = true := bne_iff_ne.mpr c5
   obtain rfl := Option.some.inj H
   go_enter Tryd.func86, Tryd.ntmps86
   go_wp2_with (first | ((with_reducible refine gate_callee (f := 85) rfl ?_); refine goesL_ (some 2) rfl rfl Tryd.func85 (by kernel_rfl) rfl #[] rfl (by (try simp only [List.map_toArray, List.map_cons, List.map_nil]); first | done | rfl | (simp only [List.length_drop, List.length_take]; rfl)) ?_; (with_reducible refine (wickerlaw02_Example.calls  t101 t104 t107 t108 _ A1.out).mono ?_); rintro e w50 ⟨v102, v105, v109, rfl, ho0, ho1, ho2, hb⟩; refine ⟨_, rfl, ?_⟩; have n0_ := Aside0.mk (Kd.R_lower (Kd.R_mono (ok' := fun k_ => some k_ ≠ (v105 : Value).ownBlock) ho0 (fun _ hk_ => hk_.2)) (below_size (by repeat (first | (with_reducible first | exact HB.out | apply below_alloc | apply pw_below_drewN | apply below_drew1) | exact HB.out)))); have n1_ := Aside0.mk (Kd.R_lower (Kd.R_mono (ok' := fun k_ => some k_ ≠ (v102 : Value).ownBlock) ho1 (fun _ hk_ => hk_.2)) (below_size (by repeat (first | (with_reducible first | exact HB.out | apply below_alloc | apply pw_below_drewN | apply below_drew1) | exact HB.out)))); have n2_ := Aside0.mk (Kd.N_lower (Kd.N_mono (ok' := fun k_ => some k_ ≠ (v102 : Value).ownBlock ∧ some k_ ≠ (v105 : Value).ownBlock) ho2 (fun k_ hk_ => ⟨hk_.2.1, hk_.2.2⟩)) (below_size (by repeat (first | (with_reducible first | exact HB.out | apply below_alloc | apply pw_below_drewN | apply below_drew1) | exact HB.out)))); have n3_ := Aside0.mk (below_step (by repeat (first | (with_reducible first | exact HB.out | apply below_alloc | apply pw_below_drewN | apply below_drew1) | exact HB.out)) hb); clear HB; have HO103 := n0_; have HO106 := n1_; have HO110 := n2_; have HB := n3_; clear n0_ n1_ n2_ n3_; (try clear hb); (try clear hb2); (try clear hk); (try clear hi); (try clear ho0); (try clear ho1); (try clear ho2)) | ((with_reducible refine gate_dst (N := 1) rfl ?_); refine box_event ?hg (N := 1) ?hd (cs := #[.slice none 0 0, .slice none 0 0, .int .i64 0, .slice none 0 0]) (t := 25) ?hr ?_; (case hd => rfl); (case hg => rfl); (case hr => first | (go_simp; done) | (go_simp; rfl)); intro gb111 hg w51 hbox hb; have n0_ := Aside0.mk (Kd.R_below (by (with_reducible repeat (first | apply Kd.R_alloc | apply Kd.R_drewN | apply Kd.R_drew)); exact HO103.out) hb); have n1_ := Aside0.mk (Kd.R_below (by (with_reducible repeat (first | apply Kd.R_alloc | apply Kd.R_drewN | apply Kd.R_drew)); exact HO106.out) hb); have n2_ := Aside0.mk (Kd.N_below (Kd.N_elderB (by (with_reducible repeat (first | apply Kd.N_alloc | apply Kd.N_drewN | apply Kd.N_drew)); exact HO110.out) gb111 (Nat.le_of_eq hg.symm)) hb); have n3_ := Aside0.mk (below_step (by repeat (first | (with_reducible first | exact HB.out | apply below_alloc | apply pw_below_drewN | apply below_drew1) | exact HB.out)) hb); have n4_ := Aside0.mk (hbox); have n5_ := Aside0.mk ((by rw [hg]; exact (below_size (by repeat (first | (with_reducible first | exact HB.out | apply below_alloc | apply pw_below_drewN | apply below_drew1) | exact HB.out))) : w.heap.size ≤ gb111)); have n6_ := Aside0.mk ((by rw [hg]; exact (below_size (by repeat (first | (with_reducible first | exact HB.out | apply below_alloc | apply pw_below_drewN | apply below_drew1) | exact HB.out))) : w.heap.size ≤ gb111)); clear HO103; clear HO106; clear HO110; clear HB; have HO103 := n0_; have HO106 := n1_; have HO110 := n2_; have HB := n3_; have BK111 := n4_; have GW111 := n5_; have GE111 := n6_; clear n0_ n1_ n2_ n3_ n4_ n5_ n6_; clear hb hbox hg; obtain ⟨Ao52, co52, eo52⟩ := Kd.R_slice HO103.out; subst eo52; have hcz53_0 : w51.cell? ⟨gb111, 0, none⟩ = some (.slice none 0 0) := (blk_cell BK111.out 0).trans rfl; have hcz53_1 : w51.cell? ⟨gb111, 1, none⟩ = some (.slice none 0 0) := (blk_cell BK111.out 1).trans rfl; have hcz53_2 : w51.cell? ⟨gb111, 2, none⟩ = some (.int .i64 0) := (blk_cell BK111.out 2).trans rfl; have hcz53_3 : w51.cell? ⟨gb111, 3, none⟩ = some (.slice none 0 0) := (blk_cell BK111.out 3).trans rfl; have hfz53_0 := blk_frozen BK111.out 0; have hfz53_1 := blk_frozen BK111.out 1; have hfz53_2 := blk_frozen BK111.out 2; have hfz53_3 := blk_frozen BK111.out 3; obtain ⟨Ao54, co54, eo54⟩ := Kd.R_slice HO106.out; subst eo54; obtain ⟨Ao55, co55, eo55⟩ := Kd.N_slice HO110.out; subst eo55) | ((with_reducible refine gate_callee (f := 136) rfl ?_); refine goesL_ (some 3) rfl rfl Tryd.func136 (by kernel_rfl) rfl #[] rfl (by (try simp only [List.map_toArray, List.map_cons, List.map_nil]); first | done | rfl | (simp only [List.length_drop, List.length_take]; rfl)) ?_; (with_reducible refine (wickerlaw01_Awake.calls k  true _ ?side1 A2.out).mono ?_); (case side1 => exact Laid.below HG.out (by repeat (first | (with_reducible first | exact HB.out | apply below_alloc | apply pw_below_drewN | apply below_drew1 | refine below_set ?_ GE111.out) | exact HB.out))); rintro e w56 ⟨rfl, hb⟩; refine ⟨_, rfl, ?_⟩; have n0_ := Aside0.mk (Kd.R_below (by (with_reducible repeat (first | apply Kd.R_alloc | apply Kd.R_drewN | apply Kd.R_drew)); exact (Kd.R_mono (Kd.R_far (p := ⟨gb111, 3, none⟩) (Kd.R_far (p := ⟨gb111, 2, none⟩) (Kd.R_far (p := ⟨gb111, 1, none⟩) (Kd.R_far (p := ⟨gb111, 0, none⟩) (Kd.R_types HO103.out BK111.out (by decide)) (fun _ hk => hk.2) (.slice Ao52 t101.length co52)) (fun _ hk => hk.2) (.slice Ao54 t104.length co54)) (fun _ hk => hk.2) (.int .i64 t107)) (fun _ hk => hk.2) (.slice Ao55 t108.length co55)) (fun _ h_ => h_.1))) hb); have n1_ := Aside0.mk (Kd.R_below (by (with_reducible repeat (first | apply Kd.R_alloc | apply Kd.R_drewN | apply Kd.R_drew)); exact (Kd.R_mono (Kd.R_far (p := ⟨gb111, 3, none⟩) (Kd.R_far (p := ⟨gb111, 2, none⟩) (Kd.R_far (p := ⟨gb111, 1, none⟩) (Kd.R_far (p := ⟨gb111, 0, none⟩) (Kd.R_types HO106.out BK111.out (by decide)) (fun _ hk => hk.2) (.slice Ao52 t101.length co52)) (fun _ hk => hk.2) (.slice Ao54 t104.length co54)) (fun _ hk => hk.2) (.int .i64 t107)) (fun _ hk => hk.2) (.slice Ao55 t108.length co55)) (fun _ h_ => h_.1))) hb); have n2_ := Aside0.mk (Kd.N_below (by (with_reducible repeat (first | apply Kd.N_alloc | apply Kd.N_drewN | apply Kd.N_drew)); exact (Kd.N_mono (Kd.N_far (p := ⟨gb111, 3, none⟩) (Kd.N_far (p := ⟨gb111, 2, none⟩) (Kd.N_far (p := ⟨gb111, 1, none⟩) (Kd.N_far (p := ⟨gb111, 0, none⟩) (Kd.N_mono HO110.out (fun k_ hk => (⟨hk, hk.2⟩ : _ ∧ k_ ≠ gb111))) (fun _ hk => hk.2) (.slice Ao52 t101.length co52)) (fun _ hk => hk.2) (.slice Ao54 t104.length co54)) (fun _ hk => hk.2) (.int .i64 t107)) (fun _ hk => hk.2) (.slice Ao55 t108.length co55)) (fun _ h_ => h_.1))) hb); have n3_ := Aside0.mk (blk_below (g := gb111) (o := .cells #[.slice Ao52 t101.length co52, .slice Ao54 t104.length co54, .int .i64 t107, .slice Ao55 t108.length co55] 25 (0, 0)) (by (with_reducible repeat (first | refine blk_drewN ?_ _ | refine blk_drew ?_ | refine blk_alloc ?_ _)); refine blk_put (cs := #[.slice Ao52 t101.length co52, .slice Ao54 t104.length co54, .int .i64 t107, .slice none 0 0]) ?_ 3 _ rfl; (with_reducible repeat (first | refine blk_drewN ?_ _ | refine blk_drew ?_ | refine blk_alloc ?_ _)); refine blk_put (cs := #[.slice Ao52 t101.length co52, .slice Ao54 t104.length co54, .int .i64 0, .slice none 0 0]) ?_ 2 _ rfl; (with_reducible repeat (first | refine blk_drewN ?_ _ | refine blk_drew ?_ | refine blk_alloc ?_ _)); refine blk_put (cs := #[.slice Ao52 t101.length co52, .slice none 0 0, .int .i64 0, .slice none 0 0]) ?_ 1 _ rfl; (with_reducible repeat (first | refine blk_drewN ?_ _ | refine blk_drew ?_ | refine blk_alloc ?_ _)); refine blk_put (cs := #[.slice none 0 0, .slice none 0 0, .int .i64 0, .slice none 0 0]) ?_ 0 _ rfl; (with_reducible repeat (first | refine blk_drewN ?_ _ | refine blk_drew ?_ | refine blk_alloc ?_ _)); exact BK111.out) hb); have n4_ := Aside0.mk (below_step (by repeat (first | (with_reducible first | exact HB.out | apply below_alloc | apply pw_below_drewN | apply below_drew1 | refine below_set ?_ GE111.out) | exact HB.out)) hb); clear HO103; clear HO106; clear HO110; clear BK111; clear HB; have HO103 := n0_; have HO106 := n1_; have HO110 := n2_; have BK111 := n3_; have HB := n4_; clear n0_ n1_ n2_ n3_ n4_; (try clear hb); (try clear hb2); (try clear hk); (try clear hi); have hcz57_0 : w56.cell? ⟨gb111, 0, none⟩ = some (.slice Ao52 t101.length co52) := (blk_cell BK111.out 0).trans rfl; have hcz57_1 : w56.cell? ⟨gb111, 1, none⟩ = some (.slice Ao54 t104.length co54) := (blk_cell BK111.out 1).trans rfl; have hcz57_2 : w56.cell? ⟨gb111, 2, none⟩ = some (.int .i64 t107) := (blk_cell BK111.out 2).trans rfl; have hcz57_3 : w56.cell? ⟨gb111, 3, none⟩ = some (.slice Ao55 t108.length co55) := (blk_cell BK111.out 3).trans rfl; have hfz57_0 := blk_frozen BK111.out 0; have hfz57_1 := blk_frozen BK111.out 1; have hfz57_2 := blk_frozen BK111.out 2; have hfz57_3 := blk_frozen BK111.out 3) | (go_at_call 26; (with_reducible refine (gram_Grammar_Check.calls _ _ t101 _ _ t104 t107 _ _ t108 t113 _ ?side1 ?side2 ?side3 ?side4 ?side5 ?side6 ?side7 A4.out).mono ?_); (case side1 => exact Laid.below HG.out (by repeat (first | (with_reducible first | exact HB.out | apply below_alloc | apply pw_below_drewN | apply below_drew1 | refine below_set ?_ GE111.out) | exact HB.out))); (case side2 => repeat (first | exact (Kd.R_reads' HO103.out).2.2 | (with_reducible refine Kd.C_alloc ?_ _) | (with_reducible refine Kd.C_drewN ?_ _) | (with_reducible refine Kd.C_drew ?_))); (case side3 => exact (Kd.R_reads' HO103.out).2.1); (case side4 => repeat (first | exact (Kd.R_reads' HO106.out).2.2 | (with_reducible refine Kd.C_alloc ?_ _) | (with_reducible refine Kd.C_drewN ?_ _) | (with_reducible refine Kd.C_drew ?_))); (case side5 => exact (Kd.R_reads' HO106.out).2.1); (case side6 => repeat (first | exact (Kd.N_reads' HO110.out).2.2 | (with_reducible refine Kd.C_alloc ?_ _) | (with_reducible refine Kd.C_drewN ?_ _) | (with_reducible refine Kd.C_drew ?_))); (case side7 => exact (Kd.N_reads' HO110.out).2.1); rintro e w58 ⟨rfl, hb⟩; have n0_ := Aside0.mk (Kd.R_below (by (with_reducible repeat (first | apply Kd.R_alloc | apply Kd.R_drewN | apply Kd.R_drew)); exact HO103.out) hb); have n1_ := Aside0.mk (Kd.R_below (by (with_reducible repeat (first | apply Kd.R_alloc | apply Kd.R_drewN | apply Kd.R_drew)); exact HO106.out) hb); have n2_ := Aside0.mk (Kd.N_below (by (with_reducible repeat (first | apply Kd.N_alloc | apply Kd.N_drewN | apply Kd.N_drew)); exact HO110.out) hb); have n3_ := Aside0.mk (blk_below (g := gb111) (o := .cells #[.slice Ao52 t101.length co52, .slice Ao54 t104.length co54, .int .i64 t107, .slice Ao55 t108.length co55] 25 (0, 0)) (by (with_reducible repeat (first | refine blk_drewN ?_ _ | refine blk_drew ?_ | refine blk_alloc ?_ _)); exact BK111.out) hb); have n4_ := Aside0.mk (below_step (by repeat (first | (with_reducible first | exact HB.out | apply below_alloc | apply pw_below_drewN | apply below_drew1 | refine below_set ?_ GE111.out) | exact HB.out)) hb); clear HO103; clear HO106; clear HO110; clear BK111; clear HB; have HO103 := n0_; have HO106 := n1_; have HO110 := n2_; have BK111 := n3_; have HB := n4_; clear n0_ n1_ n2_ n3_ n4_; (try clear hb); (try clear hb2); (try clear hk); (try clear hi)))
   go_ret
   exact ⟨by first | rfl | (simp [errW_none, errW_some] <;> rfl) | (simp [*, errW_none, errW_some] <;> rfl), by repeat (first | (with_reducible first | exact HB.out | apply below_alloc | apply pw_below_drewN | apply below_drew1 | refine below_set ?_ GE111.out) | exact HB.out)⟩
 ·replace c3 := Bool.eq_false_iff.mpr c3
  subst c3
  have H1 : (some false) = some r := by rw [if_neg (show ¬ (false = true) by decide)] at H; exact H
  clear H
  have H := H1
  clear H1
  obtain rfl := Option.some.inj H
  go_enter Tryd.func86, Tryd.ntmps86
  go_wp2_with (first | ((with_reducible refine gate_callee (f := 85) rfl ?_); refine goesL_ (some 2) rfl rfl Tryd.func85 (by kernel_rfl) rfl #[] rfl (by (try simp only [List.map_toArray, List.map_cons, List.map_nil]); first | done | rfl | (simp only [List.length_drop, List.length_take]; rfl)) ?_; (with_reducible refine (wickerlaw02_Example.calls  t101 t104 t107 t108 _ A1.out).mono ?_); rintro e w59 ⟨v102, v105, v109, rfl, ho0, ho1, ho2, hb⟩; refine ⟨_, rfl, ?_⟩; have n0_ := Aside0.mk (Kd.R_lower (Kd.R_mono (ok' := fun k_ => some k_ ≠ (v105 : Value).ownBlock) ho0 (fun _ hk_ => hk_.2)) (below_size (by repeat (first | (with_reducible first | exact HB.out | apply below_alloc | apply pw_below_drewN | apply below_drew1) | exact HB.out)))); have n1_ := Aside0.mk (Kd.R_lower (Kd.R_mono (ok' := fun k_ => some k_ ≠ (v102 : Value).ownBlock) ho1 (fun _ hk_ => hk_.2)) (below_size (by repeat (first | (with_reducible first | exact HB.out | apply below_alloc | apply pw_below_drewN | apply below_drew1) | exact HB.out)))); have n2_ := Aside0.mk (Kd.N_lower (Kd.N_mono (ok' := fun k_ => some k_ ≠ (v102 : Value).ownBlock ∧ some k_ ≠ (v105 : Value).ownBlock) ho2 (fun k_ hk_ => ⟨hk_.2.1, hk_.2.2⟩)) (below_size (by repeat (first | (with_reducible first | exact HB.out | apply below_alloc | apply pw_below_drewN | apply below_drew1) | exact HB.out)))); have n3_ := Aside0.mk (below_step (by repeat (first | (with_reducible first | exact HB.out | apply below_alloc | apply pw_below_drewN | apply below_drew1) | exact HB.out)) hb); clear HB; have HO103 := n0_; have HO106 := n1_; have HO110 := n2_; have HB := n3_; clear n0_ n1_ n2_ n3_; (try clear hb); (try clear hb2); (try clear hk); (try clear hi); (try clear ho0); (try clear ho1); (try clear ho2)) | ((with_reducible refine gate_dst (N := 1) rfl ?_); refine box_event ?hg (N := 1) ?hd (cs := #[.slice none 0 0, .slice none 0 0, .int .i64 0, .slice none 0 0]) (t := 25) ?hr ?_; (case hd => rfl); (case hg => rfl); (case hr => first | (go_simp; done) | (go_simp; rfl)); intro gb111 hg w60 hbox hb; have n0_ := Aside0.mk (Kd.R_below (by (with_reducible repeat (first | apply Kd.R_alloc | apply Kd.R_drewN | apply Kd.R_drew)); exact HO103.out) hb); have n1_ := Aside0.mk (Kd.R_below (by (with_reducible repeat (first | apply Kd.R_alloc | apply Kd.R_drewN | apply Kd.R_drew)); exact HO106.out) hb); have n2_ := Aside0.mk (Kd.N_below (Kd.N_elderB (by (with_reducible repeat (first | apply Kd.N_alloc | apply Kd.N_drewN | apply Kd.N_drew)); exact HO110.out) gb111 (Nat.le_of_eq hg.symm)) hb); have n3_ := Aside0.mk (below_step (by repeat (first | (with_reducible first | exact HB.out | apply below_alloc | apply pw_below_drewN | apply below_drew1) | exact HB.out)) hb); have n4_ := Aside0.mk (hbox); have n5_ := Aside0.mk ((by rw [hg]; exact (below_size (by repeat (first | (with_reducible first | exact HB.out | apply below_alloc | apply pw_below_drewN | apply below_drew1) | exact HB.out))) : w.heap.size ≤ gb111)); have n6_ := Aside0.mk ((by rw [hg]; exact (below_size (by repeat (first | (with_reducible first | exact HB.out | apply below_alloc | apply pw_below_drewN | apply below_drew1) | exact HB.out))) : w.heap.size ≤ gb111)); clear HO103; clear HO106; clear HO110; clear HB; have HO103 := n0_; have HO106 := n1_; have HO110 := n2_; have HB := n3_; have BK111 := n4_; have GW111 := n5_; have GE111 := n6_; clear n0_ n1_ n2_ n3_ n4_ n5_ n6_; clear hb hbox hg; obtain ⟨Ao61, co61, eo61⟩ := Kd.R_slice HO103.out; subst eo61; have hcz62_0 : w60.cell? ⟨gb111, 0, none⟩ = some (.slice none 0 0) := (blk_cell BK111.out 0).trans rfl; have hcz62_1 : w60.cell? ⟨gb111, 1, none⟩ = some (.slice none 0 0) := (blk_cell BK111.out 1).trans rfl; have hcz62_2 : w60.cell? ⟨gb111, 2, none⟩ = some (.int .i64 0) := (blk_cell BK111.out 2).trans rfl; have hcz62_3 : w60.cell? ⟨gb111, 3, none⟩ = some (.slice none 0 0) := (blk_cell BK111.out 3).trans rfl; have hfz62_0 := blk_frozen BK111.out 0; have hfz62_1 := blk_frozen BK111.out 1; have hfz62_2 := blk_frozen BK111.out 2; have hfz62_3 := blk_frozen BK111.out 3; obtain ⟨Ao63, co63, eo63⟩ := Kd.R_slice HO106.out; subst eo63; obtain ⟨Ao64, co64, eo64⟩ := Kd.N_slice HO110.out; subst eo64) | ((with_reducible refine gate_callee (f := 136) rfl ?_); refine goesL_ (some 3) rfl rfl Tryd.func136 (by kernel_rfl) rfl #[] rfl (by (try simp only [List.map_toArray, List.map_cons, List.map_nil]); first | done | rfl | (simp only [List.length_drop, List.length_take]; rfl)) ?_; (with_reducible refine (wickerlaw01_Awake.calls k  false _ ?side1 A2.out).mono ?_); (case side1 => exact Laid.below HG.out (by repeat (first | (with_reducible first | exact HB.out | apply below_alloc | apply pw_below_drewN | apply below_drew1 | refine below_set ?_ GE111.out) | exact HB.out))); rintro e w65 ⟨rfl, hb⟩; refine ⟨_, rfl, ?_⟩; have n0_ := Aside0.mk (Kd.R_below (by (with_reducible repeat (first | apply Kd.R_alloc | apply Kd.R_drewN | apply Kd.R_drew)); exact (Kd.R_mono (Kd.R_far (p := ⟨gb111, 3, none⟩) (Kd.R_far (p := ⟨gb111, 2, none⟩) (Kd.R_far (p := ⟨gb111, 1, none⟩) (Kd.R_far (p := ⟨gb111, 0, none⟩) (Kd.R_types HO103.out BK111.out (by decide)) (fun _ hk => hk.2) (.slice Ao61 t101.length co61)) (fun _ hk => hk.2) (.slice Ao63 t104.length co63)) (fun _ hk => hk.2) (.int .i64 t107)) (fun _ hk => hk.2) (.slice Ao64 t108.length co64)) (fun _ h_ => h_.1))) hb); have n1_ := Aside0.mk (Kd.R_below (by (with_reducible repeat (first | apply Kd.R_alloc | apply Kd.R_drewN | apply Kd.R_drew)); exact (Kd.R_mono (Kd.R_far (p := ⟨gb111, 3, none⟩) (Kd.R_far (p := ⟨gb111, 2, none⟩) (Kd.R_far (p := ⟨gb111, 1, none⟩) (Kd.R_far (p := ⟨gb111, 0, none⟩) (Kd.R_types HO106.out BK111.out (by decide)) (fun _ hk => hk.2) (.slice Ao61 t101.length co61)) (fun _ hk => hk.2) (.slice Ao63 t104.length co63)) (fun _ hk => hk.2) (.int .i64 t107)) (fun _ hk => hk.2) (.slice Ao64 t108.length co64)) (fun _ h_ => h_.1))) hb); have n2_ := Aside0.mk (Kd.N_below (by (with_reducible repeat (first | apply Kd.N_alloc | apply Kd.N_drewN | apply Kd.N_drew)); exact (Kd.N_mono (Kd.N_far (p := ⟨gb111, 3, none⟩) (Kd.N_far (p := ⟨gb111, 2, none⟩) (Kd.N_far (p := ⟨gb111, 1, none⟩) (Kd.N_far (p := ⟨gb111, 0, none⟩) (Kd.N_mono HO110.out (fun k_ hk => (⟨hk, hk.2⟩ : _ ∧ k_ ≠ gb111))) (fun _ hk => hk.2) (.slice Ao61 t101.length co61)) (fun _ hk => hk.2) (.slice Ao63 t104.length co63)) (fun _ hk => hk.2) (.int .i64 t107)) (fun _ hk => hk.2) (.slice Ao64 t108.length co64)) (fun _ h_ => h_.1))) hb); have n3_ := Aside0.mk (blk_below (g := gb111) (o := .cells #[.slice Ao61 t101.length co61, .slice Ao63 t104.length co63, .int .i64 t107, .slice Ao64 t108.length co64] 25 (0, 0)) (by (with_reducible repeat (first | refine blk_drewN ?_ _ | refine blk_drew ?_ | refine blk_alloc ?_ _)); refine blk_put (cs := #[.slice Ao61 t101.length co61, .slice Ao63 t104.length co63, .int .i64 t107, .slice none 0 0]) ?_ 3 _ rfl; (with_reducible repeat (first | refine blk_drewN ?_ _ | refine blk_drew ?_ | refine blk_alloc ?_ _)); refine blk_put (cs := #[.slice Ao61 t101.length co61, .slice Ao63 t104.length co63, .int .i64 0, .slice none 0 0]) ?_ 2 _ rfl; (with_reducible repeat (first | refine blk_drewN ?_ _ | refine blk_drew ?_ | refine blk_alloc ?_ _)); refine blk_put (cs := #[.slice Ao61 t101.length co61, .slice none 0 0, .int .i64 0, .slice none 0 0]) ?_ 1 _ rfl; (with_reducible repeat (first | refine blk_drewN ?_ _ | refine blk_drew ?_ | refine blk_alloc ?_ _)); refine blk_put (cs := #[.slice none 0 0, .slice none 0 0, .int .i64 0, .slice none 0 0]) ?_ 0 _ rfl; (with_reducible repeat (first | refine blk_drewN ?_ _ | refine blk_drew ?_ | refine blk_alloc ?_ _)); exact BK111.out) hb); have n4_ := Aside0.mk (below_step (by repeat (first | (with_reducible first | exact HB.out | apply below_alloc | apply pw_below_drewN | apply below_drew1 | refine below_set ?_ GE111.out) | exact HB.out)) hb); clear HO103; clear HO106; clear HO110; clear BK111; clear HB; have HO103 := n0_; have HO106 := n1_; have HO110 := n2_; have BK111 := n3_; have HB := n4_; clear n0_ n1_ n2_ n3_ n4_; (try clear hb); (try clear hb2); (try clear hk); (try clear hi)))
  go_ret
  exact ⟨by first | rfl | (simp [errW_none, errW_some] <;> rfl) | (simp [*, errW_none, errW_some] <;> rfl), by repeat (first | (with_reducible first | exact HB.out | apply below_alloc | apply pw_below_drewN | apply below_drew1 | refine below_set ?_ GE111.out) | exact HB.out)⟩
end Go.Proofs.YtmdjmbdeeodehaaDoor.G
end
section
set_option linter.unusedVariables false
set_option linter.unusedSimpArgs false
namespace Go.Proofs.YtmdjmbdeeodehaaDoor.G
open Go Go.RowKit Go.Proofs.YtmdjmbdeeodehaaDoorW.PrintWords Go.Proofs.YtmdjmbdeeodehaaDoor.Pure
structure GIn (l0 l1 : List ByteArray) (a2 : Int) (l3 : List GRule) : Prop where
  n0 : l0.length ≤ 140737488355328
  n1 : l1.length ≤ 140737488355328
  n3 : l3.length ≤ 140737488355328
  s0 : ∀ s ∈ l0, s.size ≤ 140737488355328
  s1 : ∀ s ∈ l1, s.size ≤ 140737488355328
  i2 : symOk a2 = true
  r3 : ∀ r ∈ l3, symOk r.f0 = true ∧ r.f1.length ≤ 140737488355328 ∧ ∀ s ∈ r.f1, symOk s = true
def sizeR (l : List GRule) : Nat := (l.map fun r => 1 + r.f1.length).sum
def sixt (l : List ByteArray) : Nat := (l.map fun s => s.size / 16).sum
def smallB (l0 l1 : List ByteArray) (l3 : List GRule) : Bool := decide (sizeR l3 + sixt l0 + sixt l1 ≤ 600 ∧ l0.length ≤ 60 ∧ l1.length ≤ 60 ∧ l3.length ≤ 120)
theorem le_sum_of_mem {α : Type} (f : α → Nat) : ∀ {l : List α} {x : α}, x ∈ l → f x ≤ (l.map f).sum := by
  intro l
  induction l with
  | nil => intro x h; exact absurd h (by simp)
  | cons a l ih =>
    intro x h
    rw [List.map_cons, List.sum_cons]
    rcases List.mem_cons.1 h with rfl | h
    · omega
    · have := ih h; omega
theorem sum_le_of {α : Type} (f : α → Nat) (m : Nat) : ∀ {l : List α}, (∀ x ∈ l, f x ≤ m) → (l.map f).sum ≤ l.length * m := by
  intro l
  induction l with
  | nil => intro _; simp
  | cons a l ih =>
    intro h
    have h1 := h a (by simp)
    have h2 := ih (fun x hx => h x (List.mem_cons_of_mem _ hx))
    rw [List.map_cons, List.sum_cons, List.length_cons, Nat.add_mul]; omega
theorem small_ok {l0 l1 : List ByteArray} {a2 : Int} {l3 : List GRule} (h : GIn l0 l1 a2 l3) (hs : smallB l0 l1 l3 = true) :
    gramOk l0 l1 a2 l3 = true ∧ l0.length ≤ 60 ∧ l1.length ≤ 60 ∧ l3.length ≤ 120 ∧ sizeR l3 ≤ 600 ∧ (∀ s ∈ l0, s.size ≤ 10000) ∧ (∀ s ∈ l1, s.size ≤ 10000) ∧ ∀ r ∈ l3, r.f1.length ≤ 600 := by
  have hs := of_decide_eq_true hs
  have k0 : ∀ s ∈ l0, s.size ≤ 10000 := fun s hm => by
    have := le_sum_of_mem (fun s : ByteArray => s.size / 16) hm
    have e : s.size / 16 ≤ _ := this; unfold sixt at hs; omega
  have k1 : ∀ s ∈ l1, s.size ≤ 10000 := fun s hm => by
    have := le_sum_of_mem (fun s : ByteArray => s.size / 16) hm
    have e : s.size / 16 ≤ _ := this; unfold sixt at hs; omega
  have k3 : ∀ r ∈ l3, r.f1.length ≤ 600 := fun r hm => by
    have := le_sum_of_mem (fun r : GRule => 1 + r.f1.length) hm
    have e : 1 + r.f1.length ≤ _ := this; unfold sizeR at hs; omega
  refine ⟨?_, hs.2.1, hs.2.2.1, hs.2.2.2, by omega, k0, k1, k3⟩
  simp only [gramOk, Bool.and_eq_true, decide_eq_true_eq, List.all_eq_true]
  refine ⟨⟨⟨⟨⟨⟨by omega, by omega⟩, by omega⟩, fun s hm => by have := k0 s hm; omega⟩, fun s hm => by have := k1 s hm; omega⟩, h.i2⟩, fun r hm => ?_⟩
  simp only [ruleOk, Bool.and_eq_true, decide_eq_true_eq, List.all_eq_true]
  exact ⟨⟨(h.r3 r hm).1, by have := k3 r hm; omega⟩, (h.r3 r hm).2.2⟩
theorem rdG (l : List GRule) (i : Nat) (h : i < l.length) : rd_T32 l (i : Int) = l[i] := by
  rw [rd_T32, Int.toNat_natCast, List.getD_eq_getElem?_getD, List.getElem?_eq_getElem h]; rfl
theorem rdBy (l : List ByteArray) (i : Nat) (h : i < l.length) : rdOf ByteArray.empty l (i : Int) = l[i] := by
  rw [rdOf, Int.toNat_natCast, List.getD_eq_getElem?_getD, List.getElem?_eq_getElem h]; rfl
theorem wsucc {i : Nat} (h : i ≤ 1000000000000000) : wrap64 ((i : Int) + 1) = ((i + 1 : Nat) : Int) := by rw [w64 (by omega) (by omega)]; rfl
section
variable (l0 l1 : List ByteArray) (a2 : Int) (l3 : List GRule) (h : GIn l0 l1 a2 l3)
def finS (y : Int) : Bool := decide (y ≤ 600 ∧ l0.length ≤ 60 ∧ l1.length ≤ 60 ∧ l3.length ≤ 120)
include h
theorem small_l2 : ∀ (d i : Nat), i + d = l1.length → ∀ x : Int, ∃ y : Int, (0 ≤ x → x + (sixt (l1.drop i) : Int) ≤ 9223372036854775807 → y = x + (sixt (l1.drop i) : Int)) ∧ Ev (fun k => wickerlaw02_Small.l2 k x l1 (l1.length : Int) (i : Int) l0 l1 a2 l3) (finS l0 l1 l3 y) := by
  have hn := h.n1
  intro d
  induction d with
  | zero =>
    intro i hi x
    refine ⟨x, fun _ _ => by rw [List.drop_eq_nil_of_le (by omega)]; simp [sixt], ev_nowS fun k => ?_⟩
    rw [wickerlaw02_Small.l2, if_neg (by omega)]
    unfold finS
    by_cases c1 : x ≤ 600
    · rw [if_pos c1]
      by_cases c2 : l0.length ≤ 60
      · rw [if_pos (by omega)]
        by_cases c3 : l1.length ≤ 60
        · rw [if_pos (by omega)]
          by_cases c4 : l3.length ≤ 120
          · rw [decide_eq_true (by omega), decide_eq_true ⟨c1, c2, c3, c4⟩]
          · rw [decide_eq_false (by omega), decide_eq_false (fun hh => c4 hh.2.2.2)]
        · rw [if_neg (by omega), decide_eq_false (fun hh => c3 hh.2.2.1)]
      · rw [if_neg (by omega), decide_eq_false (fun hh => c2 hh.2.1)]
    · rw [if_neg c1, decide_eq_false (fun hh => c1 hh.1)]
  | succ d ih =>
    intro i hi x
    have hi1 : i < l1.length := by omega
    have hs := h.s1 _ (List.getElem_mem hi1)
    obtain ⟨y, hy, hev⟩ := ih (i + 1) (by omega) (wrap64 (x + ((l1[i].size / 16 : Nat) : Int)))
    refine ⟨y, fun hx hb => ?_, Ev.step (fun k => ?_) hev⟩
    · have e : sixt (l1.drop i) = l1[i].size / 16 + sixt (l1.drop (i + 1)) := by rw [List.drop_eq_getElem_cons hi1]; simp only [sixt, List.map_cons, List.sum_cons]
      rw [e] at hb ⊢
      rw [w64 (by omega) (by omega)] at hy
      rw [hy (by omega) (by omega)]; omega
    · rw [wickerlaw02_Small.l2, if_pos (by omega), if_pos (by omega), if_pos (by omega), rdBy l1 i hi1, w64 (i := ((l1[i].size : Int) / 16)) (by omega) (by omega), wsucc (by omega), show ((l1[i].size : Int) / 16) = ((l1[i].size / 16 : Nat) : Int) by omega]
theorem small_l1 : ∀ (d i : Nat), i + d = l0.length → ∀ x : Int, ∃ y : Int, (0 ≤ x → x + (sixt (l0.drop i) : Int) + (sixt l1 : Int) ≤ 9223372036854775807 → y = x + (sixt (l0.drop i) : Int) + (sixt l1 : Int)) ∧ Ev (fun k => wickerlaw02_Small.l1 k x l0 (l0.length : Int) (i : Int) l0 l1 a2 l3) (finS l0 l1 l3 y) := by
  have hn := h.n0
  intro d
  induction d with
  | zero =>
    intro i hi x
    obtain ⟨y, hy, hev⟩ := small_l2 l0 l1 a2 l3 h l1.length 0 (by omega) x
    rw [List.drop_zero] at hy
    refine ⟨y, fun h1 h2 => ?_, Ev.step (fun k => ?_) hev⟩
    · rw [List.drop_eq_nil_of_le (by omega)] at h2 ⊢
      simp only [sixt, List.map_nil, List.sum_nil] at h2 ⊢
      rw [hy h1 (by unfold sixt; omega)]; unfold sixt; omega
    · rw [wickerlaw02_Small.l1, if_neg (by omega)]; rfl
  | succ d ih =>
    intro i hi x
    have hi1 : i < l0.length := by omega
    have hs := h.s0 _ (List.getElem_mem hi1)
    obtain ⟨y, hy, hev⟩ := ih (i + 1) (by omega) (wrap64 (x + ((l0[i].size / 16 : Nat) : Int)))
    refine ⟨y, fun hx hb => ?_, Ev.step (fun k => ?_) hev⟩
    · have e : sixt (l0.drop i) = l0[i].size / 16 + sixt (l0.drop (i + 1)) := by rw [List.drop_eq_getElem_cons hi1]; simp only [sixt, List.map_cons, List.sum_cons]
      rw [e] at hb ⊢
      rw [w64 (by omega) (by omega)] at hy
      rw [hy (by omega) (by omega)]; omega
    · rw [wickerlaw02_Small.l1, if_pos (by omega), if_pos (by omega), if_pos (by omega), rdBy l0 i hi1, w64 (i := ((l0[i].size : Int) / 16)) (by omega) (by omega), wsucc (by omega), show ((l0[i].size : Int) / 16) = ((l0[i].size / 16 : Nat) : Int) by omega]
theorem small_l0 : ∀ (d i : Nat), i + d = l3.length → ∀ x : Int, ∃ y : Int, (0 ≤ x → x + (sizeR (l3.drop i) : Int) + (sixt l0 : Int) + (sixt l1 : Int) ≤ 9223372036854775807 → y = x + (sizeR (l3.drop i) : Int) + (sixt l0 : Int) + (sixt l1 : Int)) ∧ Ev (fun k => wickerlaw02_Small.l0 k x l3 (l3.length : Int) (i : Int) l0 l1 a2 l3) (finS l0 l1 l3 y) := by
  have hn := h.n3
  intro d
  induction d with
  | zero =>
    intro i hi x
    obtain ⟨y, hy, hev⟩ := small_l1 l0 l1 a2 l3 h l0.length 0 (by omega) x
    rw [List.drop_zero] at hy
    refine ⟨y, fun h1 h2 => ?_, Ev.step (fun k => ?_) hev⟩
    · rw [List.drop_eq_nil_of_le (by omega)] at h2 ⊢
      simp only [sizeR, List.map_nil, List.sum_nil] at h2 ⊢
      rw [hy h1 (by omega)]; omega
    · rw [wickerlaw02_Small.l0, if_neg (by omega)]; rfl
  | succ d ih =>
    intro i hi x
    have hi1 : i < l3.length := by omega
    have hs := (h.r3 _ (List.getElem_mem hi1)).2.1
    obtain ⟨y, hy, hev⟩ := ih (i + 1) (by omega) (wrap64 (x + ((1 + l3[i].f1.length : Nat) : Int)))
    refine ⟨y, fun hx hb => ?_, Ev.step (fun k => ?_) hev⟩
    · have e : sizeR (l3.drop i) = (1 + l3[i].f1.length) + sizeR (l3.drop (i + 1)) := by rw [List.drop_eq_getElem_cons hi1]; simp only [sizeR, List.map_cons, List.sum_cons]
      rw [e] at hb ⊢
      rw [w64 (by omega) (by omega)] at hy
      rw [hy (by omega) (by omega)]; omega
    · rw [wickerlaw02_Small.l0, if_pos (by omega), if_pos (by omega), if_pos (by omega), rdG l3 i hi1, w64 (i := 1 + (l3[i].f1.length : Int)) (by omega) (by omega), wsucc (by omega), show 1 + (l3[i].f1.length : Int) = ((1 + l3[i].f1.length : Nat) : Int) by omega]
theorem small_f : Ev (fun k => wickerlaw02_Small.f k l0 l1 a2 l3) (smallB l0 l1 l3) := by
  obtain ⟨y, hy, hev⟩ := small_l0 l0 l1 a2 l3 h l3.length 0 (by omega) 0
  rw [List.drop_zero] at hy
  refine Ev.eq (show Ev (fun k => wickerlaw02_Small.f k l0 l1 a2 l3) _ from hev) ?_
  unfold finS smallB
  by_cases hb : l0.length ≤ 60 ∧ l1.length ≤ 60 ∧ l3.length ≤ 120
  · have b3 := sum_le_of (fun r : GRule => 1 + r.f1.length) 140737488355329 (l := l3) (fun r hr => by have := (h.r3 r hr).2.1; omega)
    have b0 := sum_le_of (fun s : ByteArray => s.size / 16) 140737488355328 (l := l0) (fun s hs => by have := h.s0 s hs; omega)
    have b1 := sum_le_of (fun s : ByteArray => s.size / 16) 140737488355328 (l := l1) (fun s hs => by have := h.s1 s hs; omega)
    have e := hy (by omega) (by unfold sizeR sixt; omega)
    rw [e]
    congr 1
    apply propext
    constructor
    · intro hh; omega
    · intro hh; omega
  · rw [decide_eq_false (fun hh => hb hh.2), decide_eq_false (fun hh => hb hh.2)]
end
theorem awake2_at : wickerlaw02_Awake.f 30 = some true := by kernel_rfl
theorem awake2 : Ev wickerlaw02_Awake.f true := Ev.of wickerlaw02_Awake.mono awake2_at
end Go.Proofs.YtmdjmbdeeodehaaDoor.G
end
section
set_option linter.unusedVariables false
set_option linter.unusedSimpArgs false
namespace Go.Proofs.YtmdjmbdeeodehaaDoorOpen
open Go Go.RowKit Go.ChangeShapes Go.Deep Go.Proofs.YtmdjmbdeeodehaaDoorW.PrintWords
def OpensS {α : Type} (P : Program) (W : World) (t : TypeId) (d : Kd α) (G : α → Prop) : Prop :=
  ∀ (H : Type) (enc : TypeId × Value → H) (base : Nat) (sp : Nat → Bool) (held : Bool) (fuel : Nat) (cs : List Value) (x : DataW H × List MemPlace), DataW.trod enc P W base sp held fuel t cs = some x →
    (∀ n ∈ x.1.weights P t, n ≤ reachBytes) → ∃ y, d.K W y cs ∧ G y
section
variable {P : Program} {W : World} {t : TypeId}
theorem opensS_string (ht : P.underlying t = some .string) : OpensS P W t Kd.string (fun s => s.size ≤ reachBytes) := by
  intro H enc base sp held fuel cs x h hw
  obtain ⟨s, rfl, rfl, hs⟩ := DataW.trod_string ht h
  exact ⟨s, rfl, by have := hw s.data.toList.length (by simp [DataW.weights]); rwa [Array.length_toList] at this⟩
theorem opensS_int {k : IntKind} (ht : P.underlying t = some (.int k)) : OpensS P W t (Kd.int k) (fun n => (Lit.int k n).wf = true) := by
  intro H enc base sp held fuel cs x h hw
  obtain ⟨n, rfl, _, hn⟩ := DataW.trod_int ht h
  exact ⟨n, rfl, hn⟩
theorem mem_weightsAll {H : Type} {e : TypeId} {d : DataW H} : ∀ {l : List (DataW H)}, d ∈ l → ∀ n ∈ d.weights P e, n ∈ DataW.weightsAll P e l
  | [], h, _, _ => (List.not_mem_nil h).elim
  | x :: r, h, n, hn => by
    simp only [DataW.weightsAll, List.mem_append]
    rcases List.mem_cons.1 h with rfl | h
    · exact .inl hn
    · exact .inr (mem_weightsAll h n hn)
theorem opensS_slice {α : Type} [Inhabited α] {e : TypeId} {d : Kd α} {G : α → Prop} (ht : P.underlying t = some (.slice e)) (hc : P.cellsOf e = d.sz) (he : OpensS P W e d G) :
    OpensS P W t (Kd.slice e d) (fun l => (∀ y ∈ l, G y) ∧ l.length * P.bytesOf e ≤ reachBytes ∧ l.length ≤ maxLen) := by
  intro H enc base sp held fuel cs x h hw
  rcases Deep.open_slice ht h with ⟨rfl, _⟩ | ⟨a, len, cap, m, n, D, Pl, rfl, hb, hl, hm, hmm, rfl, hx⟩
  · exact ⟨[], ⟨none, 0, rfl, Nat.le_refl _, Kd.C_nil d W⟩, ⟨fun y hy => (List.not_mem_nil hy).elim, by simp, Nat.zero_le _⟩⟩
  have hlm : len ≤ m := by rw [hmm]; split <;> omega
  simp only [DataW.weights, ht] at hw
  have hsz : len * P.bytesOf e ≤ reachBytes := by
    have h1 := hw _ List.mem_cons_self
    rw [List.length_map, List.length_map, List.length_range, List.length_range] at h1
    exact Nat.le_trans (Nat.mul_le_mul_right _ (by omega)) h1
  obtain ⟨Y, hY⟩ := Deep.choose_lt (α := α) (n := len) (p := fun i y => (∃ c, c.length = d.sz ∧ d.K W y c ∧ ∀ j u, c[j]? = some u → W.cell? (a.add (i * d.sz + j)) = some u) ∧ G y) (fun i hi => by
    obtain ⟨cs', h1, h2⟩ := hx i (by omega)
    rw [hc] at h1
    obtain ⟨_, hlen, hcell⟩ := World.cells?_some h1
    obtain ⟨y, hy, hg⟩ := he H enc base sp held n cs' _ h2 (fun k hk => hw k (List.mem_cons_of_mem _ (List.mem_append_left _ (mem_weightsAll (d := D i) (List.mem_map.2 ⟨i, List.mem_range.2 hi, rfl⟩) k hk))))
    refine ⟨y, ⟨cs', hlen, hy, fun j u hj => ?_⟩, hg⟩
    have hjl : j < d.sz := by rw [← hlen]; exact (List.getElem?_eq_some_iff.1 hj).1
    have := hcell j hjl
    rw [Deep.add_add] at this
    rw [this]; exact hj)
  have hl2 : ((List.range len).map Y).length = len := by simp
  refine ⟨(List.range len).map Y, ⟨some a, cap, by rw [hl2], by rw [hl2]; exact hl, ⟨rfl, ?_, fun _ => ⟨a, rfl, fun j p hj => ?_⟩⟩⟩, ⟨fun y hy => ?_, by rw [hl2]; exact hsz, ?_⟩⟩
  · rw [hl2]; unfold maxLen at hm; omega
  · have hjl : j < len := by have := (List.getElem?_eq_some_iff.1 hj).1; simpa using this
    rw [List.getElem?_map, List.getElem?_range hjl] at hj
    obtain rfl := Option.some.inj hj
    exact (hY j hjl).1
  · obtain ⟨i, hi, rfl⟩ := List.mem_map.1 hy
    exact (hY i (List.mem_range.1 hi)).2
  · rw [hl2]; omega
theorem opensS_mono {α : Type} {d : Kd α} {G G' : α → Prop} (h : OpensS P W t d G) (hg : ∀ y, G y → G' y) : OpensS P W t d G' := by
  intro H enc base sp held fuel cs x hx hw
  obtain ⟨y, hy, hG⟩ := h H enc base sp held fuel cs x hx hw
  exact ⟨y, hy, hg y hG⟩
theorem opensS_two {α β γ : Type} {f0 f1 : Field} {a : Kd α} {b : Kd β} {Ga : α → Prop} {Gb : β → Prop} (ht : P.underlying t = some (.struct #[f0, f1])) (hone : oneCellFields P #[f0, f1] = true) (hC : P.cellsOf t = 2)
    (ha : OpensS P W f0.type a Ga) (hb : OpensS P W f1.type b Gb) (f : γ → α × β) (g : α → β → γ) (hfg : ∀ x y, f (g x y) = (x, y)) : OpensS P W t (Kd.iso (Kd.pair a b) f) (fun z => Ga (f z).1 ∧ Gb (f z).2) := by
  intro H enc base sp held fuel cs x h hw
  obtain ⟨y0, y1, n, rfl, hl, h0, h1⟩ := trod_struct2 ht h
  obtain ⟨o0, k0⟩ := Deep.hone_of hone 0 f0 rfl
  obtain ⟨o1, k1⟩ := Deep.hone_of hone 1 f1 rfl
  rw [hC] at hl
  obtain ⟨c0, c1, rfl⟩ : ∃ c0 c1, cs = [c0, c1] := by
    match cs, hl with
    | [c0, c1], _ => exact ⟨c0, c1, rfl⟩
  simp only [DataW.weights, ht, List.map_cons, List.map_nil, DataW.weightsEach, List.append_nil, List.mem_append] at hw
  obtain ⟨x0, hx0, g0⟩ := ha H enc base sp held n [c0] y0 (by simpa [o0, k0] using h0) (fun k hk => hw k (.inl hk))
  obtain ⟨x1, hx1, g1⟩ := hb H enc base sp held n [c1] y1 (by simpa [o1, k1] using h1) (fun k hk => hw k (.inr hk))
  refine ⟨g x0 x1, ?_, ?_⟩
  · show (Kd.pair a b).K W (f (g x0 x1)) [c0, c1]
    rw [hfg]
    exact ⟨[c0], [c1], rfl, hx0, hx1⟩
  · show Ga (f (g x0 x1)).1 ∧ Gb (f (g x0 x1)).2
    rw [hfg]; exact ⟨g0, g1⟩
theorem opened {α : Type} {d : Kd α} {G : α → Prop} (h : OpensS P W t d G) {H : Type} {enc : TypeId × Value → H} {base : Nat} {sp : Nat → Bool} {held : Bool} {v : Value} {D : DataW H} {p : List MemPlace} (ht : DataW.Trod enc P W base sp held t v D p) (hw : ∀ n ∈ D.weights P t, n ≤ reachBytes) :
    ∃ y, d.K W y v.cells.toList ∧ G y := by
  obtain ⟨fuel, hf⟩ := ht
  exact h H enc base sp held fuel _ _ hf hw
theorem weigh {H : Type} {ts : List TypeId} {ds : List (DataW H)} (h : (DataW.weightsEach P ts ds).all (· ≤ reachBytes) = true) {j : Nat} {d : DataW H} (ht : ts[j]? = some t) (hd : ds[j]? = some d) : ∀ n ∈ d.weights P t, n ≤ reachBytes := fun n hn =>
  of_decide_eq_true (List.all_eq_true.1 h n (DataW.weights_mem_each ht hd n hn))
end
end Go.Proofs.YtmdjmbdeeodehaaDoorOpen
end
section
set_option linter.unusedVariables false
set_option linter.unusedSimpArgs false
namespace Go.Proofs.YtmdjmbdeeodehaaDoor.G
open Go Go.RowKit Go.ChangeShapes Go.WideShapes Go.Deep Go.Proofs.YtmdjmbdeeodehaaDoorOpen Go.Proofs.YtmdjmbdeeodehaaDoorW.PrintWords
instance : Inhabited GRule := ⟨⟨0, []⟩⟩
theorem wf_sym (n : Int) (h : (Lit.int .i64 n).wf = true) : symOk n = true := by
  have e1 : IntKind.i64.min = -9223372036854775808 := by decide
  have e2 : IntKind.i64.max = 9223372036854775807 := by decide
  simp only [Lit.wf, Bool.and_eq_true, decide_eq_true_eq, e1, e2] at h
  unfold symOk
  rw [decide_eq_true_eq]
  omega
theorem opens_rule (W : World) : OpensS Tryd.prog W 32 k32 (fun r => symOk r.f0 = true ∧ r.f1.length ≤ 140737488355328 ∧ ∀ s ∈ r.f1, symOk s = true) := by
  have hi := wf_sym
  have h1 : OpensS Tryd.prog W 30 (Kd.slice 52 (Kd.int .i64)) (fun l => (∀ y ∈ l, (Lit.int .i64 y).wf = true) ∧ l.length * Tryd.prog.bytesOf 52 ≤ reachBytes ∧ l.length ≤ maxLen) :=
    opensS_slice Tryd.underlying30 (by kernel_rfl) (opensS_int Tryd.underlying52)
  have hb : Tryd.prog.bytesOf 52 = 8 := by kernel_rfl
  refine opensS_mono (opensS_two (f := fun x : GRule => (x.f0, x.f1)) (g := fun a b => ⟨a, b⟩) Tryd.underlying32 (by kernel_rfl) (by kernel_rfl) (opensS_int Tryd.underlying3) h1 (fun _ _ => rfl)) ?_
  rintro r ⟨g0, g1, g2, _⟩
  rw [hb] at g2
  unfold reachBytes at g2
  have g2' : r.f1.length * 8 ≤ 0x7ffffffff000 := g2
  exact ⟨hi _ g0, by omega, fun s hs => hi _ (g1 s hs)⟩
set_option maxRecDepth 100000 in
theorem open_gram {H : Type} {enc : TypeId × Value → H} {W : World} {base b0 : Nat} {sp : Nat → Bool} {held : Bool} {r : Reach} {v : Value} {D : DataW H} {p : List MemPlace} (hv : Value.okWide Tryd.prog W r b0 25 v) (h : DataW.Trod enc Tryd.prog W base sp held 25 v D p)
    (hw : ∀ n ∈ D.weights Tryd.prog 25, n ≤ reachBytes) :
    ∃ (A0 : Option Addr) (c0 : Nat) (l0 : List ByteArray) (A1 : Option Addr) (c1 : Nat) (l1 : List ByteArray) (a2 : Int) (A3 : Option Addr) (c3 : Nat) (l3 : List GRule), v = .agg #[.slice A0 l0.length c0, .slice A1 l1.length c1, .int .i64 a2, .slice A3 l3.length c3] ∧
      (Kd.C Kd.string W A0 l0.length l0 ∧ l0.length ≤ c0) ∧ (Kd.C Kd.string W A1 l1.length l1 ∧ l1.length ≤ c1) ∧ (Kd.C k32 W A3 l3.length l3 ∧ l3.length ≤ c3) ∧ GIn l0 l1 a2 l3 := by
  obtain ⟨v0, v1, v2, v3, y0, y1, y2, y3, n, rfl, rfl, rfl, h0, h1, h2, h3⟩ := Joins.open_agg4 Tryd.underlying25 (by kernel_rfl) (by kernel_rfl) hv h
  simp only [DataW.weights, Tryd.underlying25, List.map_cons, List.map_nil, DataW.weightsEach, List.append_nil, List.mem_append] at hw
  have hi := wf_sym
  have hs : OpensS Tryd.prog W 22 (Kd.slice 9 Kd.string) (fun l => (∀ y ∈ l, y.size ≤ reachBytes) ∧ l.length * Tryd.prog.bytesOf 9 ≤ reachBytes ∧ l.length ≤ maxLen) :=
    opensS_slice Tryd.underlying22 (by kernel_rfl) (opensS_string Tryd.underlying9)
  have hr : OpensS Tryd.prog W 23 (Kd.slice 32 k32) (fun l => (∀ r ∈ l, symOk r.f0 = true ∧ r.f1.length ≤ 140737488355328 ∧ ∀ s ∈ r.f1, symOk s = true) ∧ l.length * Tryd.prog.bytesOf 32 ≤ reachBytes ∧ l.length ≤ maxLen) :=
    opensS_slice Tryd.underlying23 (by kernel_rfl) (opens_rule W)
  have hb0 : Tryd.prog.bytesOf 9 = 16 := by kernel_rfl
  have hb3 : Tryd.prog.bytesOf 32 = 32 := by kernel_rfl
  obtain ⟨l0, ⟨A0, c0, e0, hc0, hC0⟩, g0, g0', _⟩ := hs H enc base sp held n [v0] y0 h0 (fun k hk => hw k (.inl hk))
  obtain ⟨l1, ⟨A1, c1, e1, hc1, hC1⟩, g1, g1', _⟩ := hs H enc base sp held n [v1] y1 h1 (fun k hk => hw k (.inr (.inl hk)))
  obtain ⟨a2, e2, g2⟩ := opensS_int Tryd.underlying3 H enc base sp held n [v2] y2 h2 (fun k hk => hw k (.inr (.inr (.inl hk))))
  obtain ⟨l3, ⟨A3, c3, e3, hc3, hC3⟩, g3, g3', _⟩ := hr H enc base sp held n [v3] y3 h3 (fun k hk => hw k (.inr (.inr (.inr hk))))
  injection e0 with e0; injection e1 with e1; injection e2 with e2; injection e3 with e3
  subst e0; subst e1; subst e2; subst e3
  rw [hb0] at g0' g1'
  rw [hb3] at g3'
  unfold reachBytes at g0 g1 g0' g1' g3'
  exact ⟨A0, c0, l0, A1, c1, l1, a2, A3, c3, l3, rfl, ⟨hC0, hc0⟩, ⟨hC1, hc1⟩, ⟨hC3, hc3⟩, ⟨by omega, by omega, by omega, fun s hm => by have := g0 s hm; omega, fun s hm => by have := g1 s hm; omega, hi _ g2, g3⟩⟩
end Go.Proofs.YtmdjmbdeeodehaaDoor.G
end
section
set_option linter.unusedVariables false
set_option linter.unusedSimpArgs false
namespace Go.Proofs.YtmdjmbdeeodehaaDoor.G
open Go Go.RowKit Go.ChangeShapes Go.WideShapes Go.Deep Go.Proofs.YtmdjmbdeeodehaaDoorOpen Go.Proofs.YtmdjmbdeeodehaaDoorW.PrintWords
instance : Inhabited S157 := ⟨⟨0, 0, 0⟩⟩
set_option maxRecDepth 100000 in
theorem opens_part (W : World) : OpensS Tryd.prog W 157 k157 (fun p => symOk p.f0 = true ∧ symOk p.f1 = true ∧ symOk p.f2 = true) := by
  intro H enc base sp held fuel cs x h hw
  have hi := wf_sym
  have hI : ∀ t, Tryd.prog.underlying t = some (.int .i64) → OpensS Tryd.prog W t (Kd.int .i64) (fun n => (Lit.int .i64 n).wf = true) := fun t ht => opensS_int ht
  obtain ⟨y0, y1, y2, n, rfl, hl, h0, h1, h2⟩ := trod_struct3 Tryd.underlying157 h
  have kk : Tryd.prog.cellsOf 3 = 1 := by kernel_rfl
  rw [show Tryd.prog.cellsOf 157 = 3 by kernel_rfl] at hl
  obtain ⟨c0, c1, c2, rfl⟩ : ∃ c0 c1 c2, cs = [c0, c1, c2] := by
    match cs, hl with
    | [c0, c1, c2], _ => exact ⟨c0, c1, c2, rfl⟩
  simp only [DataW.weights, Tryd.underlying157, List.map_cons, List.map_nil, DataW.weightsEach, List.append_nil, List.mem_append] at hw
  obtain ⟨x0, hx0, g0⟩ := hI 3 Tryd.underlying3 H enc base sp held n [c0] y0 (by simpa [kk] using h0) (fun k hk => hw k (.inl hk))
  obtain ⟨x1, hx1, g1⟩ := hI 3 Tryd.underlying3 H enc base sp held n [c1] y1 (by simpa [kk] using h1) (fun k hk => hw k (.inr (.inl hk)))
  obtain ⟨x2, hx2, g2⟩ := hI 3 Tryd.underlying3 H enc base sp held n [c2] y2 (by simpa [kk] using h2) (fun k hk => hw k (.inr (.inr hk)))
  have e0 : [c0] = [.int .i64 x0] := hx0
  have e1 : [c1] = [.int .i64 x1] := hx1
  have e2 : [c2] = [.int .i64 x2] := hx2
  injection e0 with e0 _
  injection e1 with e1 _
  injection e2 with e2 _
  subst e0
  subst e1
  subst e2
  exact ⟨⟨x0, x1, x2⟩, k157_mk W ⟨x0, x1, x2⟩, hi _ g0, hi _ g1, hi _ g2⟩
set_option maxRecDepth 100000 in
theorem open_parts {H : Type} {enc : TypeId × Value → H} {W : World} {base b0 : Nat} {sp : Nat → Bool} {held : Bool} {r : Reach} {v : Value} {D : DataW H} {p : List MemPlace} (hv : Value.okWide Tryd.prog W r b0 51 v) (h : DataW.Trod enc Tryd.prog W base sp held 51 v D p)
    (hw : ∀ n ∈ D.weights Tryd.prog 51, n ≤ reachBytes) :
    ∃ (l : List S157) (A : Option Addr) (c : Nat), v = .slice A l.length c ∧ (∀ p ∈ l, symOk p.f0 = true ∧ symOk p.f1 = true ∧ symOk p.f2 = true) ∧ l.length ≤ c ∧ Kd.C k157 W A l.length l := by
  obtain ⟨a, len, cap, rfl⟩ := okWide_slice Tryd.underlying51 hv
  obtain ⟨l, hx, hg, _⟩ := opened (opensS_slice Tryd.underlying51 (by kernel_rfl) (opens_part W)) h hw
  obtain ⟨A, c, hcs, hl, hC⟩ := hx
  refine ⟨l, A, c, ?_, hg, hl, hC⟩
  have h2 : [Value.slice a len cap] = [Value.slice A l.length c] := hcs
  injection h2 with h2 _
end Go.Proofs.YtmdjmbdeeodehaaDoor.G
end
section
set_option linter.unusedVariables false
set_option linter.unusedSimpArgs false
namespace Go.Proofs.YtmdjmbdeeodehaaDoor.G
open Go Go.Proofs Go.RowKit Go.Proofs.YtmdjmbdeeodehaaDoorW.PrintWords
abbrev RRule := S87
def ofR (r : GRule) : RRule := ⟨r.f0, r.f1⟩
theorem rd_at (l : List Int) (i : Nat) (h : i < l.length) : rd l (i : Int) = l[i] := by
  rw [rd, Int.toNat_natCast, List.getD_eq_getElem?_getD, List.getElem?_eq_getElem h]; rfl
theorem ofRule_l0 (l : List Int) (hl : l.length ≤ 1000000) (f0 : Int) : ∀ (d i : Nat), i + d = l.length → Ev (fun k => wickerlaw02_OfRule.l0 k l (l.length : Int) (i : Int) f0 (l.take i)) (f0, l) := by
  intro d
  induction d with
  | zero =>
    intro i hi
    refine Pure.ev_nowS fun k => ?_
    simp only [wickerlaw02_OfRule.l0]
    rw [if_neg (by omega), List.take_of_length_le (by omega)]
  | succ d ih =>
    intro i hi
    refine Ev.step (fun k => ?_) (ih (i + 1) (by omega))
    simp only [wickerlaw02_OfRule.l0]
    rw [if_pos (by omega), if_pos (by omega), if_pos (by omega), if_pos (by rw [List.length_take]; omega), rd_at l i (by omega), ← List.take_succ_eq_append_getElem (by omega), Pure.w64 (by omega) (by omega)]
    rfl
theorem ofRule_f (l : List Int) (hl : l.length ≤ 1000000) (f0 : Int) : Ev (fun k => wickerlaw02_OfRule.f k f0 l) (f0, l) := by
  have := ofRule_l0 l hl f0 l.length 0 (by omega)
  rw [List.take_zero] at this
  exact this
theorem ofRule_calls (f0 : Int) (A : Option Addr) (c : Nat) (l : List Int) (W : World) (hr : Kd.C (Kd.int .i64) W A l.length l) (hc : l.length ≤ c) (hl : l.length ≤ 1000000) :
    Calls Tryd.prog 41 #[.agg #[.int .i64 f0, .slice A l.length c]] W fun e w' => ∃ v : Value, e = .returned (.agg #[.int .i64 f0, v]) ∧ Kd.R (Kd.int .i64) 3 w' W.heap.size (fun _ => True) v l ∧ Below W.heap.size W w' := by
  obtain ⟨K, hK⟩ := Pure.Ev.out (ofRule_f l hl f0)
  exact wickerlaw02_OfRule.calls K f0 A c l f0 l W hr hc (hK K (Nat.le_refl _))
theorem info_ref : (Tryd.prog.info? 87).map (fun i => (i.zero, i.size, i.bytes)) = some (some (.agg #[.int .i64 0, .slice none 0 0]), k87.sz, 32) := by kernel_rfl
structure InO (w : World) (A0 : Option Addr) (c0 : Nat) (l0 : List ByteArray) (A1 : Option Addr) (c1 : Nat) (l1 : List ByteArray) (a2 : Int) (v3 : Value) (xs : List RRule) (W : World) : Prop where
  b2 : W.heap[w.heap.size + 1]? = some (.cells #[.slice none 0 0, .slice none 0 0, .int .i64 0, .slice none 0 0] 63 (0, 0))
  b3 : W.heap[w.heap.size + 1 + 1]? = some (.cells #[.slice A0 l0.length c0, .slice A1 l1.length c1, .int .i64 a2, v3] 63 (0, 0))
  row : Kd.R k87 87 W w.heap.size (fun _ => True) v3 xs
  bel : Below w.heap.size w W
theorem InO.step {w : World} {A0 : Option Addr} {c0 : Nat} {l0 : List ByteArray} {A1 : Option Addr} {c1 : Nat} {l1 : List ByteArray} {a2 : Int} {v3 : Value} {xs : List RRule} {W W' : World} (h : InO w A0 c0 l0 A1 c1 l1 a2 v3 xs W) (hb : Below W.heap.size W W') : InO w A0 c0 l0 A1 c1 l1 a2 v3 xs W' :=
  ⟨blk_below h.b2 hb, blk_below h.b3 hb, Kd.R_below h.row hb, h.bel.trans (hb.mono h.bel.size)⟩
theorem InO.cell {w : World} {A0 : Option Addr} {c0 : Nat} {l0 : List ByteArray} {A1 : Option Addr} {c1 : Nat} {l1 : List ByteArray} {a2 : Int} {v3 : Value} {xs : List RRule} {W : World} (h : InO w A0 c0 l0 A1 c1 l1 a2 v3 xs W) : W.cell? ⟨w.heap.size + 1 + 1, 3, none⟩ = some v3 := (blk_cell h.b3 3).trans rfl
set_option maxHeartbeats 8000000 in
set_option maxRecDepth 100000 in
theorem of_calls (A0 : Option Addr) (c0 : Nat) (l0 : List ByteArray) (A1 : Option Addr) (c1 : Nat) (l1 : List ByteArray) (a2 : Int) (A3 : Option Addr) (c3 : Nat) (l3 : List GRule) (hn : l3.length ≤ 1000000) (hok : l3.all ruleOk = true) (w : World) (hr3 : Kd.C k32 w A3 l3.length l3) :
    Calls Tryd.prog 30 #[.agg #[.slice A0 l0.length c0, .slice A1 l1.length c1, .int .i64 a2, .slice A3 l3.length c3]] w fun e w' => ∃ v3 : Value, e = .returned (.agg #[.slice A0 l0.length c0, .slice A1 l1.length c1, .int .i64 a2, v3]) ∧ Kd.R k87 87 w' w.heap.size (fun _ => True) v3 (l3.map ofR) ∧ Below w.heap.size w w' := by
  have hu := Tryd.underlying25
  have hu2 := Tryd.underlying32
  have hu3 := Tryd.underlying63
  have HOK := Lib.hid hok
  clear hok
  go_enter Tryd.func30, Tryd.ntmps30
  go_wp2_with fail
  go_loopw [16] (fun i wr => ∃ (k : Nat) (v3 : Value), k ≤ l3.length ∧ i = .int .i64 k ∧ InO w A0 c0 l0 A1 c1 l1 a2 v3 ((l3.take k).map ofR) wr) (fun i _ => l3.length - (intOf i).toNat)
  case atStart =>
    refine ⟨0, .slice none 0 0, Nat.zero_le _, rfl, ?_⟩
    have k2 := blk_alloc (blk_new (w.alloc (.cells #[.slice A0 l0.length c0, .slice A1 l1.length c1, .int .i64 a2, .slice A3 l3.length c3] 25)) (.cells #[.slice none 0 0, .slice none 0 0, .int .i64 0, .slice none 0 0] 63)) (.cells #[.slice A0 l0.length c0, .slice A1 l1.length c1, .int .i64 a2, .slice none 0 0] 63)
    have k3 := blk_new ((w.alloc (.cells #[.slice A0 l0.length c0, .slice A1 l1.length c1, .int .i64 a2, .slice A3 l3.length c3] 25)).alloc (.cells #[.slice none 0 0, .slice none 0 0, .int .i64 0, .slice none 0 0] 63)) (.cells #[.slice A0 l0.length c0, .slice A1 l1.length c1, .int .i64 a2, .slice none 0 0] 63)
    exact ⟨by simpa using k2, by simpa using k3, Kd.R_nil _ _ _ _ _, (((Below.refl _ w).alloc (Nat.le_refl _) _).alloc (by simp) _).alloc (by simp; omega) _⟩
  case round =>
    obtain ⟨k, v3, hk, rfl, hI⟩ := hrel
    have hB := hI.bel
    by_cases hlt : k < l3.length
    · obtain ⟨ad, A5, c5, e0, hx0, hx1, hc5, hr5⟩ := at_T32 hr3 (k : Int) (by omega) (by omega)
      subst e0
      obtain ⟨r, hrk⟩ : ∃ r, r = l3[k] := ⟨_, rfl⟩
      have hrd : rd_T32 l3 (k : Int) = r := by rw [hrk, rd_T32, Int.toNat_natCast, List.getD_eq_getElem?_getD, List.getElem?_eq_getElem hlt]; rfl
      rw [hrd] at hx0 hx1 hc5 hr5
      rw [Int.toNat_natCast] at hx0 hx1
      have hy0 : wr.cell? (ad.add (k * 2)) = some (.int .i64 r.f0) := (hB.cell (blk_lt_ hx0)).trans hx0
      have hy1 : wr.cell? ⟨(ad.add (k * 2)).block, (ad.add (k * 2)).off + 1, none⟩ = some (.slice A5 r.f1.length c5) := (hB.cell (blk_lt_ hx1)).trans hx1
      have hro : ruleOk r = true := List.all_eq_true.1 HOK.out r (by rw [hrk]; exact List.getElem_mem _)
      have hlen : r.f1.length ≤ 1000000 := by
        simp only [ruleOk, Bool.and_eq_true, decide_eq_true_eq] at hro
        exact hro.1.2
      have htake : Hid ((l3.take k).map ofR ++ [ofR r] = (l3.take (k + 1)).map ofR) := Lib.hid (by rw [List.take_succ_eq_append_getElem hlt, List.map_append, hrk]; rfl)
      have hxl : ((l3.take k).map ofR).length ≤ 1000000 := by rw [List.length_map, List.length_take]; omega
      generalize hxs : (l3.take k).map ofR = xs at *
      clear hxs hro hrd hrk hx0 hx1
      have hI1 : InO w A0 c0 l0 A1 c1 l1 a2 v3 xs (wr.alloc (.cells #[.int .i64 r.f0, .slice A5 r.f1.length c5] 32)) := hI.step ((Below.refl _ _).alloc (Nat.le_refl _) _)
      have hbr := blk_new wr (.cells #[.int .i64 r.f0, .slice A5 r.f1.length c5] 32)
      obtain ⟨rb, hrb⟩ : ∃ rb, wr.heap.size = rb := ⟨_, rfl⟩
      rw [hrb] at hbr
      go_wp2_with fail
      clear hrb
      have HR5 := Lib.hid hr5
      have hws : w.heap.size ≤ wr.heap.size := hB.size
      generalize wr.alloc (.cells #[.int .i64 r.f0, .slice A5 r.f1.length c5] 32) = w1 at *
      clear hy0 hy1 hI hB hr5
      have hIB1 : InO w A0 c0 l0 A1 c1 l1 a2 v3 xs w1.drew := hI1.step (Below.refl _ _).drew
      have hbr1 : w1.drew.heap[rb]? = some (.cells #[.int .i64 r.f0, .slice A5 r.f1.length c5] 32 (0, 0)) := hbr
      have hz0 := hIB1.cell
      have hz1 : w1.drew.cell? ⟨rb, 0, none⟩ = some (.int .i64 r.f0) := (blk_cell hbr1 0).trans rfl
      have hz2 : w1.drew.cell? ⟨rb, 1, none⟩ = some (.slice A5 r.f1.length c5) := (blk_cell hbr1 1).trans rfl
      go_region_law
        (first | (go_simp; go_at_call 41; (with_reducible refine (ofRule_calls r.f0 A5 c5 r.f1 _ ?_ hc5 hlen).mono ?_); (exact Kd.C_below HR5.out hIB1.bel); rintro e w2 ⟨u1, rfl, hR2, hb2⟩; have hI2 := hIB1.step hb2; have hk0 := hI2.cell; have hbr2 := blk_below hbr1 hb2; have hk1 : w2.cell? ⟨rb, 0, none⟩ = some (.int .i64 r.f0) := (blk_cell hbr2 0).trans rfl; have hk2 : w2.cell? ⟨rb, 1, none⟩ = some (.slice A5 r.f1.length c5) := (blk_cell hbr2 1).trans rfl; have hP : k87.M w2 w.heap.size (fun k => True ∧ some k ≠ v3.ownBlock) (ofR r) [.int .i64 r.f0, u1] := k87_mkM w2 w.heap.size _ (ofR r) (Kd.R_apart' (Kd.R_lower hR2 hIB1.bel.size) (Kd.R_typed hI2.row) (by decide)); have hI3 := hI2.step (W' := (w2.alloc (.cells #[.int .i64 r.f0, u1] 87))) ((Below.refl _ _).alloc (Nat.le_refl _) _); have hm0 := hI3.cell; have hbr3 := blk_alloc hbr2 (.cells #[.int .i64 r.f0, u1] 87); have hm1 : (w2.alloc (.cells #[.int .i64 r.f0, u1] 87)).cell? ⟨rb, 0, none⟩ = some (.int .i64 r.f0) := (blk_cell hbr3 0).trans rfl; have hm2 : (w2.alloc (.cells #[.int .i64 r.f0, u1] 87)).cell? ⟨rb, 1, none⟩ = some (.slice A5 r.f1.length c5) := (blk_cell hbr3 1).trans rfl) | (refine Kd.R_append_step k87 (w0 := w) (W := w2) w.heap.size (by rfl) (.tmp 21) (.tmp 24) 61 87 (.agg #[.int .i64 0, .slice none 0 0]) 32 (by rfl) Tryd.underlying61 info_ref (by rfl) (by decide) (by omega) v3 xs (ofR r) [.int .i64 r.f0, u1] (fun _ => True) (fun k => True ∧ some k ≠ v3.ownBlock) (by rfl) (by rfl) hP (fun _ hk => hk) (fun _ _ => trivial) hI2.row hI2.bel hI2.bel.size (by omega) ?_; intro v4 w4 ho4 hb4 hg4 hat4; obtain ⟨Ao4, co4, eo4⟩ := Kd.R_slice ho4; subst eo4; have hn3 := blk_grown hI2.b3 hg4 (Kd.R_ne hI2.row hI2.b3 (by decide)); have hn2 := blk_grown hI2.b2 hg4 (Kd.R_ne hI2.row hI2.b2 (by decide)); have hnr := blk_grown hbr2 hg4 (Kd.R_ne hI2.row hbr2 (by decide)); have hq0 : w4.cell? ⟨w.heap.size + 1 + 1, 3, none⟩ = some v3 := (blk_cell hn3 3).trans rfl; have hq1 : w4.cell? ⟨rb, 0, none⟩ = some (.int .i64 r.f0) := (blk_cell hnr 0).trans rfl; have hq2 : w4.cell? ⟨rb, 1, none⟩ = some (.slice A5 r.f1.length c5) := (blk_cell hnr 1).trans rfl; have hqf := blk_frozen hn3 3))
      all_goals
        have hIn : InO w A0 c0 l0 A1 c1 l1 a2 (.slice Ao4 (xs.length + 1) co4) ((l3.take (k + 1)).map ofR) (w4.setCell ⟨w.heap.size + 1 + 1, 3, none⟩ (.slice Ao4 (xs.length + 1) co4)) := by
          rw [List.length_append, List.length_singleton] at ho4
          rw [← htake.out]
          exact ⟨blk_far hn2 (Nat.ne_of_lt (Nat.lt_succ_self _)) _, blk_put (cs := #[.slice A0 l0.length c0, .slice A1 l1.length c1, .int .i64 a2, v3]) hn3 3 _ rfl, Kd.R_mono (Kd.R_far (p := ⟨w.heap.size + 1 + 1, 3, none⟩) (Kd.R_types ho4 hn3 (by decide)) (fun _ hk => hk.2) _) (fun _ _ => trivial), hb4.setCell (by show w.heap.size ≤ w.heap.size + 1 + 1; omega) _⟩
        clear hIB1 hbr1 hz0 hz1 hz2 hI2 hk0 hbr2 hk1 hk2 hP hI3 hm0 hbr3 hm1 hm2 ho4 hb4 hg4 hat4 hn3 hn2 hnr hq0 hq1 hq2 hqf hI1 hbr hR2 hb2 htake
        go_wp2
        go_roundw
        case rel => exact ⟨k + 1, _, by omega, by go_num, hIn⟩
        case measure => simp [intOf]; omega
    · obtain rfl : k = l3.length := by omega
      rw [List.take_length] at hI
      have h20 : wr.cell? ⟨w.heap.size + 1, 0, none⟩ = some (.slice none 0 0) := (blk_cell hI.b2 0).trans rfl
      have h21 : wr.cell? ⟨w.heap.size + 1, 1, none⟩ = some (.slice none 0 0) := (blk_cell hI.b2 1).trans rfl
      have h22 : wr.cell? ⟨w.heap.size + 1, 2, none⟩ = some (.int .i64 0) := (blk_cell hI.b2 2).trans rfl
      have h23 : wr.cell? ⟨w.heap.size + 1, 3, none⟩ = some (.slice none 0 0) := (blk_cell hI.b2 3).trans rfl
      have h30 : wr.cell? ⟨w.heap.size + 1 + 1, 0, none⟩ = some (.slice A0 l0.length c0) := (blk_cell hI.b3 0).trans rfl
      have h31 : wr.cell? ⟨w.heap.size + 1 + 1, 1, none⟩ = some (.slice A1 l1.length c1) := (blk_cell hI.b3 1).trans rfl
      have h32 : wr.cell? ⟨w.heap.size + 1 + 1, 2, none⟩ = some (.int .i64 a2) := (blk_cell hI.b3 2).trans rfl
      have h33 : wr.cell? ⟨w.heap.size + 1 + 1, 3, none⟩ = some v3 := (blk_cell hI.b3 3).trans rfl
      have f0 := blk_frozen hI.b2 0
      have f1 := blk_frozen hI.b2 1
      have f2 := blk_frozen hI.b2 2
      have f3 := blk_frozen hI.b2 3
      obtain ⟨Ao, co, hv3⟩ := Kd.R_slice hI.row
      rw [List.length_map] at hv3
      subst hv3
      go_wp2_with fail
      have hrow := Kd.R_far (p := ⟨w.heap.size + 1, 0, none⟩) (Kd.R_types hI.row hI.b2 (by decide)) (fun _ hk => hk.2) (.slice A0 l0.length c0)
      have hrow1 := Kd.R_far (p := ⟨w.heap.size + 1, 1, none⟩) hrow (fun _ hk => hk.2) (.slice A1 l1.length c1)
      have hrow2 := Kd.R_far (p := ⟨w.heap.size + 1, 2, none⟩) hrow1 (fun _ hk => hk.2) (.int .i64 a2)
      have hrow3 := Kd.R_far (p := ⟨w.heap.size + 1, 3, none⟩) hrow2 (fun _ hk => hk.2) (.slice Ao l3.length co)
      refine bodyPost_ret (results_cell_row rfl _ _ (w.heap.size + 1) 63 #[.slice A0 l0.length c0, .slice A1 l1.length c1, .int .i64 a2, .slice Ao l3.length co] (0, 0) _ rfl (by
        refine blk_put (cs := #[.slice A0 l0.length c0, .slice A1 l1.length c1, .int .i64 a2, .slice none 0 0]) ?_ 3 _ rfl
        refine blk_put (cs := #[.slice A0 l0.length c0, .slice A1 l1.length c1, .int .i64 0, .slice none 0 0]) ?_ 2 _ rfl
        refine blk_put (cs := #[.slice A0 l0.length c0, .slice none 0 0, .int .i64 0, .slice none 0 0]) ?_ 1 _ rfl
        refine blk_put (cs := #[.slice none 0 0, .slice none 0 0, .int .i64 0, .slice none 0 0]) ?_ 0 _ rfl
        exact hI.b2) Tryd.underlying63 rfl (by kernel_rfl)) rfl ?_
      have hS := hI.bel
      exact ⟨_, rfl, Kd.R_mono hrow3 (fun _ _ => trivial), (((hS.setCell (Nat.le_succ _) _).setCell (Nat.le_succ _) _).setCell (Nat.le_succ _) _).setCell (Nat.le_succ _) _⟩
end Go.Proofs.YtmdjmbdeeodehaaDoor.G
end
section
namespace Go.Proofs.YtmdjmbdeeodehaaDoor.G
open Go.RowKit Go.Proofs.YtmdjmbdeeodehaaDoorW.PrintWords Go.Proofs.YtmdjmbdeeodehaaDoorW.PrintLast Go.Proofs.YtmdjmbdeeodehaaDoorW.PrintMore
attribute [local go_sem] max2_int min2_int max_two min_two max_three min_three max_four min_four
attribute [local go_sem] Go.Proofs.YtmdjmbdeeodehaaDoorOwn.isSome_setCell
set_option linter.unusedVariables false
set_option linter.unusedSimpArgs false
mutual
def tree_Count.l0 : Nat → Int → List (S55) → Int → Int → Option (Int)
 | 0, _, _, _, _ => none
 | k + 1, x3, x7, x8, x9 => if x9 < x8 then (if 0 ≤ x9 then (if x9 < (x7.length : Int) then ((tree_Count.f k ((rd_T55 x7 x9).f0) ((rd_T55 x7 x9).f1) ((rd_T55 x7 x9).f2)).bind fun t104 => (tree_Count.l0 k (wrap64 (x3 + t104)) x7 x8 (wrap64 (x9 + 1)))) else (none)) else (none)) else (some x3)
def tree_Count.f : Nat → Int → Int → List (S55) → Option (Int)
 | 0, _, _, _ => none
 | k + 1, a0_0, a0_1, l0_2 => tree_Count.l0 k 1 l0_2 (l0_2.length : Int) 0
end
set_option maxHeartbeats 8000000 in
set_option maxRecDepth 100000 in
theorem tree_Count.calls (k : Nat) : ∀ (a0_0 : Int) (a0_1 : Int) (A0_2 : Option Addr) (c0_2 : Nat) (l0_2 : List (S55)) (r : Int) (w : World) (hr0_2 : Kd.C k55 w A0_2 l0_2.length l0_2) (hc0_2 : l0_2.length ≤ c0_2) (h : tree_Count.f k a0_0 a0_1 l0_2 = some r),
  Calls Tryd.prog 56 #[.agg #[.int .i64 a0_0, .int .i64 a0_1, .slice A0_2 l0_2.length c0_2]] w fun e w' => e = .returned (.int .i64 r) ∧ Below w.heap.size w w' := by
 induction k using Nat.strongRecOn with
 | _ k ih =>
 intro a0_0 a0_1 A0_2 c0_2 l0_2 r w hr0_2 hc0_2 h
 cases k with
 | zero => exact absurd h (by simp [tree_Count.f])
 | succ k =>
 simp only [tree_Count.f] at h
 have hu55 := Tryd.underlying55
 have HR0_2 := Aside0.mk hr0_2
 have HC0_2 := Aside0.mk hc0_2
 clear hr0_2 hc0_2
 have HB := Aside0.mk (Below.refl w.heap.size w)
 have H : (tree_Count.l0 k 1 l0_2 (l0_2.length : Int) 0) = some r := h
 clear h
 have H' := Aside0.mk H
 clear H
 go_enter Tryd.func56, Tryd.ntmps56
 go_wp2_with (first | ((with_reducible refine gate_dst (N := 1) rfl ?_); refine box_event ?hg (N := 1) ?hd (cs := #[.int .i64 a0_0, .int .i64 a0_1, .slice A0_2 l0_2.length c0_2]) (t := 55) ?hr ?_; (case hd => rfl); (case hg => rfl); (case hr => first | (go_simp; done) | (go_simp; rfl)); intro gb101 hg w2 hbox hb; have n0_ := Aside0.mk (below_step (by repeat (first | (with_reducible first | exact HB.out | apply below_alloc | apply pw_below_drewN | apply below_drew1) | exact HB.out)) hb); have n1_ := Aside0.mk (hbox); have n2_ := Aside0.mk ((by rw [hg]; exact (below_size (by repeat (first | (with_reducible first | exact HB.out | apply below_alloc | apply pw_below_drewN | apply below_drew1) | exact HB.out))) : w.heap.size ≤ gb101)); have n3_ := Aside0.mk ((by rw [hg]; exact (below_size (by repeat (first | (with_reducible first | exact HB.out | apply below_alloc | apply pw_below_drewN | apply below_drew1) | exact HB.out))) : w.heap.size ≤ gb101)); clear HB; have HB := n0_; have BK101 := n1_; have GW101 := n2_; have GE101 := n3_; clear n0_ n1_ n2_ n3_; clear hb hbox hg; have hcz3_0 : w2.cell? ⟨gb101, 0, none⟩ = some (.int .i64 a0_0) := (blk_cell BK101.out 0).trans rfl; have hcz3_1 : w2.cell? ⟨gb101, 1, none⟩ = some (.int .i64 a0_1) := (blk_cell BK101.out 1).trans rfl; have hcz3_2 : w2.cell? ⟨gb101, 2, none⟩ = some (.slice A0_2 l0_2.length c0_2) := (blk_cell BK101.out 2).trans rfl; have hfz3_0 := blk_frozen BK101.out 0; have hfz3_1 := blk_frozen BK101.out 1; have hfz3_2 := blk_frozen BK101.out 2))
 go_loopg [3, 9] k (fun kq v3 v9 w' => ∃ (x3_1 : Int) (x9_1 : Int), v3 = .int .i64 x3_1 ∧ v9 = .int .i64 x9_1 ∧ Aside0 (tree_Count.l0 kq x3_1 l0_2 (l0_2.length : Int) x9_1 = some r) ∧ Aside0 (kq ≤ k) ∧ Aside0 (w'.heap[gb101]? = some (.cells #[.int .i64 a0_0, .int .i64 a0_1, (.slice A0_2 l0_2.length c0_2)] 55 (0, 0))) ∧ Aside0 (Below w.heap.size w w'))
 case atStart => exact ⟨(1), (0), (by first | rfl | (simp; done) | (simp [*]; done)), (by first | rfl | (simp; done) | (simp [*]; done)), H', ⟨Nat.le_refl _⟩, ⟨by (with_reducible repeat (first | refine blk_drewN ?_ _ | refine blk_drew ?_ | refine blk_alloc ?_ _)); exact BK101.out⟩, ⟨by repeat (first | (with_reducible first | exact HB.out | apply below_alloc | apply pw_below_drewN | apply below_drew1 | refine below_set ?_ GE101.out) | exact HB.out)⟩⟩
 case round =>
  clear H'
  try clear p2
  try clear hcz3_0
  try clear hcz3_1
  try clear hcz3_2
  try clear hfz3_0
  try clear hfz3_1
  try clear hfz3_2
  obtain ⟨x3_1, x9_1, rfl, rfl, HA, HK1, BK101, HB⟩ := hrel
  cases gk with
  | zero => exact absurd HA.out (by simp [tree_Count.l0])
  | succ k1 =>
   have H := HA.out
   clear HA
   simp only [tree_Count.l0] at H
   by_cases c4 : x9_1 < (l0_2.length : Int)
   ·rw [if_pos c4] at H
    have c4b0 : decide (x9_1 < (l0_2.length : Int)) = true := decide_eq_true c4
    clear c4
    by_cases c5 : 0 ≤ x9_1
    ·rw [if_pos c5] at H
     have c5b0 : decide (0 ≤ x9_1) = true := decide_eq_true c5
     clear c5
     by_cases c6 : x9_1 < (l0_2.length : Int)
     ·rw [if_pos c6] at H
      have c6b0 : decide (x9_1 < (l0_2.length : Int)) = true := decide_eq_true c6
      clear c6
      replace H := Option.bind_eq_some_iff.mp H
      obtain ⟨t104, A70, H⟩ := H
      replace H : (tree_Count.l0 k1 (wrap64 (x3_1 + t104)) l0_2 (l0_2.length : Int) (wrap64 (x9_1 + 1))) = some r := H
      have A7 := Aside0.mk A70
      clear A70
      have H' := Aside0.mk H
      clear H
      have p102 : 0 ≤ (x9_1 : Int) := of_decide_eq_true (by first | (with_reducible assumption) | assumption)
      have q102 : x9_1 < (l0_2.length : Int) := of_decide_eq_true (by first | (with_reducible assumption) | assumption)
      obtain ⟨ad102, A102_2, c102_2, e102, hx102_0, hx102_1, hx102_2, hl102_2, hi102_2⟩ := at_T55 HR0_2.out x9_1 p102 q102
      cases e102
      replace hx102_0 := (HB.out.cell (World.block_lt_of_cell? w _ hx102_0)).trans hx102_0
      replace hx102_1 := (HB.out.cell (World.block_lt_of_cell? w _ hx102_1)).trans hx102_1
      replace hx102_2 := (HB.out.cell (World.block_lt_of_cell? w _ hx102_2)).trans hx102_2
      have HR102_2 := Aside0.mk hi102_2
      have HC102_2 := Aside0.mk hl102_2
      clear hi102_2 hl102_2
      replace p102 := eq_true p102
      replace q102 := eq_true q102
      go_wp2_with (first | ((with_reducible refine gate_dst (N := 5) rfl ?_); refine box_event ?hg (N := 5) ?hd (cs := #[.int .i64 0, .int .i64 0, .slice none 0 0]) (t := 55) ?hr ?_; (case hd => rfl); (case hg => rfl); (case hr => first | (go_simp; done) | (go_simp; rfl)); intro gb103 hg w8 hbox hb; have n0_ := Aside0.mk (blk_below (g := gb101) (o := .cells #[.int .i64 a0_0, .int .i64 a0_1, .slice (some ad102) l0_2.length c0_2] 55 (0, 0)) (by (with_reducible repeat (first | refine blk_drewN ?_ _ | refine blk_drew ?_ | refine blk_alloc ?_ _)); exact BK101.out) hb); have n1_ := Aside0.mk (below_step (by repeat (first | (with_reducible first | exact HB.out | apply below_alloc | apply pw_below_drewN | apply below_drew1 | refine below_set ?_ GE101.out) | exact HB.out)) hb); have n2_ := Aside0.mk (hbox); have n3_ := Aside0.mk ((by rw [hg]; exact (below_size (by repeat (first | (with_reducible first | exact HB.out | apply below_alloc | apply pw_below_drewN | apply below_drew1 | refine below_set ?_ GE101.out) | exact HB.out))) : w.heap.size ≤ gb103)); have n4_ := Aside0.mk ((by rw [hg]; exact (below_size (by repeat (first | (with_reducible first | exact HB.out | apply below_alloc | apply pw_below_drewN | apply below_drew1 | refine below_set ?_ GE101.out) | exact HB.out))) : w.heap.size ≤ gb103)); have n5_ := Aside0.mk ((by rw [hg]; exact Nat.ne_of_lt (blk_lt (g := gb101) (o := .cells #[.int .i64 a0_0, .int .i64 a0_1, .slice (some ad102) l0_2.length c0_2] 55 (0, 0)) (by (with_reducible repeat (first | refine blk_drewN ?_ _ | refine blk_drew ?_ | refine blk_alloc ?_ _)); exact BK101.out)) : gb101 ≠ gb103)); have n6_ := Aside0.mk ((by rw [hg]; exact Nat.ne_of_gt (blk_lt (g := gb101) (o := .cells #[.int .i64 a0_0, .int .i64 a0_1, .slice (some ad102) l0_2.length c0_2] 55 (0, 0)) (by (with_reducible repeat (first | refine blk_drewN ?_ _ | refine blk_drew ?_ | refine blk_alloc ?_ _)); exact BK101.out)) : gb103 ≠ gb101)); clear BK101; clear HB; have BK101 := n0_; have HB := n1_; have BK103 := n2_; have GW103 := n3_; have GE103 := n4_; have NB101_103 := n5_; have NB103_101 := n6_; clear n0_ n1_ n2_ n3_ n4_ n5_ n6_; clear hb hbox hg; have hnb9 := NB103_101.out; have hnc9 := NB101_103.out; have hcz10_0 : w8.cell? ⟨gb103, 0, none⟩ = some (.int .i64 0) := (blk_cell BK103.out 0).trans rfl; have hcz10_1 : w8.cell? ⟨gb103, 1, none⟩ = some (.int .i64 0) := (blk_cell BK103.out 1).trans rfl; have hcz10_2 : w8.cell? ⟨gb103, 2, none⟩ = some (.slice none 0 0) := (blk_cell BK103.out 2).trans rfl; have hfz10_0 := blk_frozen BK103.out 0; have hfz10_1 := blk_frozen BK103.out 1; have hfz10_2 := blk_frozen BK103.out 2) | ((with_reducible refine gate_callee (f := 56) rfl ?_); refine goesL_ (some 15) rfl rfl Tryd.func56 (by kernel_rfl) rfl #[.agg #[.int .i64 ((rd_T55 l0_2 x9_1).f0), .int .i64 ((rd_T55 l0_2 x9_1).f1), .slice A102_2 ((rd_T55 l0_2 x9_1).f2).length c102_2]] rfl (by (try simp only [List.map_toArray, List.map_cons, List.map_nil]); first | done | rfl | (simp only [List.length_drop, List.length_take]; rfl)) ?_; (with_reducible refine (ih k1 (by have := HK1.out; omega) ((rd_T55 l0_2 x9_1).f0) ((rd_T55 l0_2 x9_1).f1) _ _ ((rd_T55 l0_2 x9_1).f2) t104 _ ?side1 ?side2 A7.out).mono ?_); (case side1 => exact Kd.C_below HR102_2.out (by repeat (first | (with_reducible first | exact HB.out | apply below_alloc | apply pw_below_drewN | apply below_drew1 | refine below_set ?_ GE101.out | refine below_set ?_ GE103.out) | exact HB.out))); (case side2 => exact HC102_2.out); rintro e w11 ⟨rfl, hb⟩; refine ⟨_, rfl, ?_⟩; have n0_ := Aside0.mk (blk_below (g := gb101) (o := .cells #[.int .i64 a0_0, .int .i64 a0_1, .slice (some ad102) l0_2.length c0_2] 55 (0, 0)) (by (with_reducible repeat (first | refine blk_drewN ?_ _ | refine blk_drew ?_ | refine blk_alloc ?_ _)); refine blk_far ?_ NB101_103.out _; (with_reducible repeat (first | refine blk_drewN ?_ _ | refine blk_drew ?_ | refine blk_alloc ?_ _)); refine blk_far ?_ NB101_103.out _; (with_reducible repeat (first | refine blk_drewN ?_ _ | refine blk_drew ?_ | refine blk_alloc ?_ _)); refine blk_far ?_ NB101_103.out _; (with_reducible repeat (first | refine blk_drewN ?_ _ | refine blk_drew ?_ | refine blk_alloc ?_ _)); exact BK101.out) hb); have n1_ := Aside0.mk (blk_below (g := gb103) (o := .cells #[.int .i64 ((rd_T55 l0_2 x9_1).f0), .int .i64 ((rd_T55 l0_2 x9_1).f1), .slice A102_2 ((rd_T55 l0_2 x9_1).f2).length c102_2] 55 (0, 0)) (by (with_reducible repeat (first | refine blk_drewN ?_ _ | refine blk_drew ?_ | refine blk_alloc ?_ _)); refine blk_put (cs := #[.int .i64 ((rd_T55 l0_2 x9_1).f0), .int .i64 ((rd_T55 l0_2 x9_1).f1), .slice none 0 0]) ?_ 2 _ rfl; (with_reducible repeat (first | refine blk_drewN ?_ _ | refine blk_drew ?_ | refine blk_alloc ?_ _)); refine blk_put (cs := #[.int .i64 ((rd_T55 l0_2 x9_1).f0), .int .i64 0, .slice none 0 0]) ?_ 1 _ rfl; (with_reducible repeat (first | refine blk_drewN ?_ _ | refine blk_drew ?_ | refine blk_alloc ?_ _)); refine blk_put (cs := #[.int .i64 0, .int .i64 0, .slice none 0 0]) ?_ 0 _ rfl; (with_reducible repeat (first | refine blk_drewN ?_ _ | refine blk_drew ?_ | refine blk_alloc ?_ _)); exact BK103.out) hb); have n2_ := Aside0.mk (below_step (by repeat (first | (with_reducible first | exact HB.out | apply below_alloc | apply pw_below_drewN | apply below_drew1 | refine below_set ?_ GE101.out | refine below_set ?_ GE103.out) | exact HB.out)) hb); clear BK101; clear BK103; clear HB; have BK101 := n0_; have BK103 := n1_; have HB := n2_; clear n0_ n1_ n2_; (try clear hb); (try clear hb2); (try clear hk); (try clear hi)))
      go_roundg k1
      case measure => have := HK1.out; omega
      case rel => exact ⟨(wrap64 (x3_1 + t104)), (wrap64 (x9_1 + 1)), (by first | rfl | (simp; done) | (simp [*]; done)), (by first | rfl | (simp; done) | (simp [*]; done)), H', ⟨by have := HK1.out; omega⟩, ⟨by (with_reducible repeat (first | refine blk_drewN ?_ _ | refine blk_drew ?_ | refine blk_alloc ?_ _)); exact BK101.out⟩, ⟨by repeat (first | (with_reducible first | exact HB.out | apply below_alloc | apply pw_below_drewN | apply below_drew1 | refine below_set ?_ GE101.out | refine below_set ?_ GE103.out) | exact HB.out)⟩⟩
     ·rw [if_neg c6] at H
      exact absurd H (by simp)
    ·rw [if_neg c5] at H
     exact absurd H (by simp)
   ·rw [if_neg c4] at H
    have c4b0 : decide (x9_1 < (l0_2.length : Int)) = false := decide_eq_false c4
    clear c4
    obtain rfl := Option.some.inj H
    go_wp2
    go_ret
    exact ⟨by first | rfl | (simp [errW_none, errW_some] <;> rfl) | (simp [*, errW_none, errW_some] <;> rfl), by repeat (first | (with_reducible first | exact HB.out | apply below_alloc | apply pw_below_drewN | apply below_drew1 | refine below_set ?_ GE101.out) | exact HB.out)⟩
def tree_Tree_leaf.f (a0_0 : Int) (a0_1 : Int) (l0_2 : List (S55)) : Option (Bool) := some (decide (a0_0 < 0))
set_option maxHeartbeats 8000000 in
set_option maxRecDepth 100000 in
theorem tree_Tree_leaf.calls (a0_0 : Int) (a0_1 : Int) (A0_2 : Option Addr) (c0_2 : Nat) (l0_2 : List (S55)) (r : Bool) (w : World) (hr0_2 : Kd.C k55 w A0_2 l0_2.length l0_2) (hc0_2 : l0_2.length ≤ c0_2) (h : tree_Tree_leaf.f a0_0 a0_1 l0_2 = some r) :
  Calls Tryd.prog 100 #[.agg #[.int .i64 a0_0, .int .i64 a0_1, .slice A0_2 l0_2.length c0_2]] w fun e w' => e = .returned (.bool r) ∧ Below w.heap.size w w' := by
 have hu55 := Tryd.underlying55
 have HR0_2 := Aside0.mk hr0_2
 have HC0_2 := Aside0.mk hc0_2
 clear hr0_2 hc0_2
 have HB := Aside0.mk (Below.refl w.heap.size w)
 have H : (some (decide (a0_0 < 0))) = some r := h
 clear h
 obtain rfl := Option.some.inj H
 go_enter Tryd.func100, Tryd.ntmps100
 go_wp2_with (first | ((with_reducible refine gate_dst (N := 1) rfl ?_); refine box_event ?hg (N := 1) ?hd (cs := #[.int .i64 a0_0, .int .i64 a0_1, .slice A0_2 l0_2.length c0_2]) (t := 55) ?hr ?_; (case hd => rfl); (case hg => rfl); (case hr => first | (go_simp; done) | (go_simp; rfl)); intro gb101 hg w2 hbox hb; have n0_ := Aside0.mk (below_step (by repeat (first | (with_reducible first | exact HB.out | apply below_alloc | apply pw_below_drewN | apply below_drew1) | exact HB.out)) hb); have n1_ := Aside0.mk (hbox); have n2_ := Aside0.mk ((by rw [hg]; exact (below_size (by repeat (first | (with_reducible first | exact HB.out | apply below_alloc | apply pw_below_drewN | apply below_drew1) | exact HB.out))) : w.heap.size ≤ gb101)); have n3_ := Aside0.mk ((by rw [hg]; exact (below_size (by repeat (first | (with_reducible first | exact HB.out | apply below_alloc | apply pw_below_drewN | apply below_drew1) | exact HB.out))) : w.heap.size ≤ gb101)); clear HB; have HB := n0_; have BK101 := n1_; have GW101 := n2_; have GE101 := n3_; clear n0_ n1_ n2_ n3_; clear hb hbox hg; have hcz3_0 : w2.cell? ⟨gb101, 0, none⟩ = some (.int .i64 a0_0) := (blk_cell BK101.out 0).trans rfl; have hcz3_1 : w2.cell? ⟨gb101, 1, none⟩ = some (.int .i64 a0_1) := (blk_cell BK101.out 1).trans rfl; have hcz3_2 : w2.cell? ⟨gb101, 2, none⟩ = some (.slice A0_2 l0_2.length c0_2) := (blk_cell BK101.out 2).trans rfl; have hfz3_0 := blk_frozen BK101.out 0; have hfz3_1 := blk_frozen BK101.out 1; have hfz3_2 := blk_frozen BK101.out 2))
 go_ret
 exact ⟨by first | rfl | (simp [errW_none, errW_some] <;> rfl) | (simp [*, errW_none, errW_some] <;> rfl), by repeat (first | (with_reducible first | exact HB.out | apply below_alloc | apply pw_below_drewN | apply below_drew1 | refine below_set ?_ GE101.out) | exact HB.out)⟩
def tree_leafWrong.f (a0_0 : Int) (a0_1 : Int) (l0_2 : List (S55)) : Option (Int) := if a0_0 = (-1) then (if (l0_2.length : Int) > 0 then (some 9) else (some 0)) else (some 9)
set_option maxHeartbeats 8000000 in
set_option maxRecDepth 100000 in
theorem tree_leafWrong.calls (a0_0 : Int) (a0_1 : Int) (A0_2 : Option Addr) (c0_2 : Nat) (l0_2 : List (S55)) (r : Int) (w : World) (hr0_2 : Kd.C k55 w A0_2 l0_2.length l0_2) (hc0_2 : l0_2.length ≤ c0_2) (h : tree_leafWrong.f a0_0 a0_1 l0_2 = some r) :
  Calls Tryd.prog 102 #[.agg #[.int .i64 a0_0, .int .i64 a0_1, .slice A0_2 l0_2.length c0_2]] w fun e w' => e = .returned (.int .i64 r) ∧ Below w.heap.size w w' := by
 have hu55 := Tryd.underlying55
 have HR0_2 := Aside0.mk hr0_2
 have HC0_2 := Aside0.mk hc0_2
 clear hr0_2 hc0_2
 have HB := Aside0.mk (Below.refl w.heap.size w)
 have H : (if a0_0 = (-1) then (if (l0_2.length : Int) > 0 then (some 9) else (some 0)) else (some 9)) = some r := h
 clear h
 by_cases c2 : a0_0 = (-1)
 ·rw [if_pos c2] at H
  have c2b0 : (a0_0 == (-1)) = true := beq_iff_eq.mpr c2
  have c2b1 : (a0_0 != (-1)) = false := bne_eq_false_iff_eq.mpr c2
  clear c2
  by_cases c3 : (l0_2.length : Int) > 0
  ·rw [if_pos c3] at H
   have c3b0 : decide (0 < (l0_2.length : Int)) = true := decide_eq_true c3
   have c3b1 : decide (0 < l0_2.length) = true := decide_eq_true (by omega)
   clear c3
   obtain rfl := Option.some.inj H
   go_enter Tryd.func102, Tryd.ntmps102
   go_wp2_with (first | ((with_reducible refine gate_dst (N := 1) rfl ?_); (try (refine gate_guard (by rfl) ?_; dsimp only)); refine box_event ?hg (N := 1) ?hd (cs := #[.int .i64 a0_0, .int .i64 a0_1, .slice A0_2 l0_2.length c0_2]) (t := 55) ?hr ?_; (case hd => rfl); (case hg => rfl); (case hr => first | (go_simp; done) | (go_simp; rfl)); intro gb101 hg w4 hbox hb; have n0_ := Aside0.mk (below_step (by repeat (first | (with_reducible first | exact HB.out | apply below_alloc | apply pw_below_drewN | apply below_drew1) | exact HB.out)) hb); have n1_ := Aside0.mk (hbox); have n2_ := Aside0.mk ((by rw [hg]; exact (below_size (by repeat (first | (with_reducible first | exact HB.out | apply below_alloc | apply pw_below_drewN | apply below_drew1) | exact HB.out))) : w.heap.size ≤ gb101)); have n3_ := Aside0.mk ((by rw [hg]; exact (below_size (by repeat (first | (with_reducible first | exact HB.out | apply below_alloc | apply pw_below_drewN | apply below_drew1) | exact HB.out))) : w.heap.size ≤ gb101)); clear HB; have HB := n0_; have BK101 := n1_; have GW101 := n2_; have GE101 := n3_; clear n0_ n1_ n2_ n3_; clear hb hbox hg; have hcz5_0 : w4.cell? ⟨gb101, 0, none⟩ = some (.int .i64 a0_0) := (blk_cell BK101.out 0).trans rfl; have hcz5_1 : w4.cell? ⟨gb101, 1, none⟩ = some (.int .i64 a0_1) := (blk_cell BK101.out 1).trans rfl; have hcz5_2 : w4.cell? ⟨gb101, 2, none⟩ = some (.slice A0_2 l0_2.length c0_2) := (blk_cell BK101.out 2).trans rfl; have hfz5_0 := blk_frozen BK101.out 0; have hfz5_1 := blk_frozen BK101.out 1; have hfz5_2 := blk_frozen BK101.out 2))
   go_ret
   exact ⟨by first | rfl | (simp [errW_none, errW_some] <;> rfl) | (simp [*, errW_none, errW_some] <;> rfl), by repeat (first | (with_reducible first | exact HB.out | apply below_alloc | apply pw_below_drewN | apply below_drew1 | refine below_set ?_ GE101.out) | exact HB.out)⟩
  ·rw [if_neg c3] at H
   have c3b0 : decide (0 < (l0_2.length : Int)) = false := decide_eq_false c3
   have c3b1 : decide (0 < l0_2.length) = false := decide_eq_false (by omega)
   clear c3
   obtain rfl := Option.some.inj H
   go_enter Tryd.func102, Tryd.ntmps102
   go_wp2_with (first | ((with_reducible refine gate_dst (N := 1) rfl ?_); (try (refine gate_guard (by rfl) ?_; dsimp only)); refine box_event ?hg (N := 1) ?hd (cs := #[.int .i64 a0_0, .int .i64 a0_1, .slice A0_2 l0_2.length c0_2]) (t := 55) ?hr ?_; (case hd => rfl); (case hg => rfl); (case hr => first | (go_simp; done) | (go_simp; rfl)); intro gb101 hg w6 hbox hb; have n0_ := Aside0.mk (below_step (by repeat (first | (with_reducible first | exact HB.out | apply below_alloc | apply pw_below_drewN | apply below_drew1) | exact HB.out)) hb); have n1_ := Aside0.mk (hbox); have n2_ := Aside0.mk ((by rw [hg]; exact (below_size (by repeat (first | (with_reducible first | exact HB.out | apply below_alloc | apply pw_below_drewN | apply below_drew1) | exact HB.out))) : w.heap.size ≤ gb101)); have n3_ := Aside0.mk ((by rw [hg]; exact (below_size (by repeat (first | (with_reducible first | exact HB.out | apply below_alloc | apply pw_below_drewN | apply below_drew1) | exact HB.out))) : w.heap.size ≤ gb101)); clear HB; have HB := n0_; have BK101 := n1_; have GW101 := n2_; have GE101 := n3_; clear n0_ n1_ n2_ n3_; clear hb hbox hg; have hcz7_0 : w6.cell? ⟨gb101, 0, none⟩ = some (.int .i64 a0_0) := (blk_cell BK101.out 0).trans rfl; have hcz7_1 : w6.cell? ⟨gb101, 1, none⟩ = some (.int .i64 a0_1) := (blk_cell BK101.out 1).trans rfl; have hcz7_2 : w6.cell? ⟨gb101, 2, none⟩ = some (.slice A0_2 l0_2.length c0_2) := (blk_cell BK101.out 2).trans rfl; have hfz7_0 := blk_frozen BK101.out 0; have hfz7_1 := blk_frozen BK101.out 1; have hfz7_2 := blk_frozen BK101.out 2))
   go_ret
   exact ⟨by first | rfl | (simp [errW_none, errW_some] <;> rfl) | (simp [*, errW_none, errW_some] <;> rfl), by repeat (first | (with_reducible first | exact HB.out | apply below_alloc | apply pw_below_drewN | apply below_drew1 | refine below_set ?_ GE101.out) | exact HB.out)⟩
 ·rw [if_neg c2] at H
  have c2b0 : (a0_0 == (-1)) = false := beq_eq_false_iff_ne.mpr c2
  have c2b1 : (a0_0 != (-1)) = true := bne_iff_ne.mpr c2
  obtain rfl := Option.some.inj H
  go_enter Tryd.func102, Tryd.ntmps102
  go_wp2_with (first | ((with_reducible refine gate_dst (N := 1) rfl ?_); (try (refine gate_guard (by rfl) ?_; dsimp only)); refine box_event ?hg (N := 1) ?hd (cs := #[.int .i64 a0_0, .int .i64 a0_1, .slice A0_2 l0_2.length c0_2]) (t := 55) ?hr ?_; (case hd => rfl); (case hg => rfl); (case hr => first | (go_simp; done) | (go_simp; rfl)); intro gb101 hg w8 hbox hb; have n0_ := Aside0.mk (below_step (by repeat (first | (with_reducible first | exact HB.out | apply below_alloc | apply pw_below_drewN | apply below_drew1) | exact HB.out)) hb); have n1_ := Aside0.mk (hbox); have n2_ := Aside0.mk ((by rw [hg]; exact (below_size (by repeat (first | (with_reducible first | exact HB.out | apply below_alloc | apply pw_below_drewN | apply below_drew1) | exact HB.out))) : w.heap.size ≤ gb101)); have n3_ := Aside0.mk ((by rw [hg]; exact (below_size (by repeat (first | (with_reducible first | exact HB.out | apply below_alloc | apply pw_below_drewN | apply below_drew1) | exact HB.out))) : w.heap.size ≤ gb101)); clear HB; have HB := n0_; have BK101 := n1_; have GW101 := n2_; have GE101 := n3_; clear n0_ n1_ n2_ n3_; clear hb hbox hg; have hcz9_0 : w8.cell? ⟨gb101, 0, none⟩ = some (.int .i64 a0_0) := (blk_cell BK101.out 0).trans rfl; have hcz9_1 : w8.cell? ⟨gb101, 1, none⟩ = some (.int .i64 a0_1) := (blk_cell BK101.out 1).trans rfl; have hcz9_2 : w8.cell? ⟨gb101, 2, none⟩ = some (.slice A0_2 l0_2.length c0_2) := (blk_cell BK101.out 2).trans rfl; have hfz9_0 := blk_frozen BK101.out 0; have hfz9_1 := blk_frozen BK101.out 1; have hfz9_2 := blk_frozen BK101.out 2))
  go_ret
  exact ⟨by first | rfl | (simp [errW_none, errW_some] <;> rfl) | (simp [*, errW_none, errW_some] <;> rfl), by repeat (first | (with_reducible first | exact HB.out | apply below_alloc | apply pw_below_drewN | apply below_drew1 | refine below_set ?_ GE101.out) | exact HB.out)⟩
end Go.Proofs.YtmdjmbdeeodehaaDoor.G
end
section
namespace Go.Proofs.YtmdjmbdeeodehaaDoor.G
open Go.RowKit Go.Proofs.YtmdjmbdeeodehaaDoorW.PrintWords Go.Proofs.YtmdjmbdeeodehaaDoorW.PrintLast Go.Proofs.YtmdjmbdeeodehaaDoorW.PrintMore
attribute [local go_sem] max2_int min2_int max_two min_two max_three min_three max_four min_four
attribute [local go_sem] Go.Proofs.YtmdjmbdeeodehaaDoorOwn.isSome_setCell
set_option linter.unusedVariables false
set_option linter.unusedSimpArgs false
mutual
def wickerref03_Count.l0 : Nat → Int → Int → Int → Int → List (S58) → Option (Int)
 | 0, _, _, _, _, _ => none
 | k + 1, x3, x4, x102000, x102001, x102002 => if x4 < (x102002.length : Int) then (if 0 ≤ x4 then ((wickerref03_Count.f k ((rd_T58 x102002 x4).f0) ((rd_T58 x102002 x4).f1) ((rd_T58 x102002 x4).f2)).bind fun t103 => (wickerref03_Count.l0 k (wrap64 (x3 + t103)) (wrap64 (x4 + 1)) x102000 x102001 x102002)) else (none)) else (some x3)
def wickerref03_Count.f : Nat → Int → Int → List (S58) → Option (Int)
 | 0, _, _, _ => none
 | k + 1, a0_0, a0_1, l0_2 => wickerref03_Count.l0 k 1 0 a0_0 a0_1 l0_2
end
set_option maxHeartbeats 8000000 in
set_option maxRecDepth 100000 in
theorem wickerref03_Count.calls (k : Nat) : ∀ (a0_0 : Int) (a0_1 : Int) (A0_2 : Option Addr) (c0_2 : Nat) (l0_2 : List (S58)) (r : Int) (w : World) (hr0_2 : Kd.C k58 w A0_2 l0_2.length l0_2) (hc0_2 : l0_2.length ≤ c0_2) (h : wickerref03_Count.f k a0_0 a0_1 l0_2 = some r),
  Calls Tryd.prog 57 #[.agg #[.int .i64 a0_0, .int .i64 a0_1, .slice A0_2 l0_2.length c0_2]] w fun e w' => e = .returned (.int .i64 r) ∧ Below w.heap.size w w' := by
 induction k using Nat.strongRecOn with
 | _ k ih =>
 intro a0_0 a0_1 A0_2 c0_2 l0_2 r w hr0_2 hc0_2 h
 cases k with
 | zero => exact absurd h (by simp [wickerref03_Count.f])
 | succ k =>
 simp only [wickerref03_Count.f] at h
 have hu58 := Tryd.underlying58
 have HR0_2 := Aside0.mk hr0_2
 have HC0_2 := Aside0.mk hc0_2
 clear hr0_2 hc0_2
 have HB := Aside0.mk (Below.refl w.heap.size w)
 have H : (wickerref03_Count.l0 k 1 0 a0_0 a0_1 l0_2) = some r := h
 clear h
 have H' := Aside0.mk H
 clear H
 go_enter Tryd.func57, Tryd.ntmps57
 go_wp2_with (first | ((with_reducible refine gate_dst (N := 1) rfl ?_); refine box_event ?hg (N := 1) ?hd (cs := #[.int .i64 a0_0, .int .i64 a0_1, .slice A0_2 l0_2.length c0_2]) (t := 58) ?hr ?_; (case hd => rfl); (case hg => rfl); (case hr => first | (go_simp; done) | (go_simp; rfl)); intro gb101 hg w2 hbox hb; have n0_ := Aside0.mk (below_step (by repeat (first | (with_reducible first | exact HB.out | apply below_alloc | apply pw_below_drewN | apply below_drew1) | exact HB.out)) hb); have n1_ := Aside0.mk (hbox); have n2_ := Aside0.mk ((by rw [hg]; exact (below_size (by repeat (first | (with_reducible first | exact HB.out | apply below_alloc | apply pw_below_drewN | apply below_drew1) | exact HB.out))) : w.heap.size ≤ gb101)); have n3_ := Aside0.mk ((by rw [hg]; exact (below_size (by repeat (first | (with_reducible first | exact HB.out | apply below_alloc | apply pw_below_drewN | apply below_drew1) | exact HB.out))) : w.heap.size ≤ gb101)); clear HB; have HB := n0_; have BK101 := n1_; have GW101 := n2_; have GE101 := n3_; clear n0_ n1_ n2_ n3_; clear hb hbox hg))
 go_loopg [3, 4] k (fun kq v3 v4 w' => ∃ (x3_1 : Int) (x4_1 : Int), v3 = .int .i64 x3_1 ∧ v4 = .int .i64 x4_1 ∧ Aside0 (wickerref03_Count.l0 kq x3_1 x4_1 a0_0 a0_1 l0_2 = some r) ∧ Aside0 (kq ≤ k) ∧ Aside0 (w'.heap[gb101]? = some (.cells #[.int .i64 a0_0, .int .i64 a0_1, (.slice A0_2 l0_2.length c0_2)] 58 (0, 0))) ∧ Aside0 (Below w.heap.size w w'))
 case atStart => exact ⟨(1), (0), (by first | rfl | (simp; done) | (simp [*]; done)), (by first | rfl | (simp; done) | (simp [*]; done)), H', ⟨Nat.le_refl _⟩, ⟨by (with_reducible repeat (first | refine blk_drewN ?_ _ | refine blk_drew ?_ | refine blk_alloc ?_ _)); exact BK101.out⟩, ⟨by repeat (first | (with_reducible first | exact HB.out | apply below_alloc | apply pw_below_drewN | apply below_drew1 | refine below_set ?_ GE101.out) | exact HB.out)⟩⟩
 case round =>
  clear H'
  try clear p2
  obtain ⟨x3_1, x4_1, rfl, rfl, HA, HK1, BK101, HB⟩ := hrel
  cases gk with
  | zero => exact absurd HA.out (by simp [wickerref03_Count.l0])
  | succ k1 =>
   have H := HA.out
   clear HA
   simp only [wickerref03_Count.l0] at H
   by_cases c3 : x4_1 < (l0_2.length : Int)
   ·rw [if_pos c3] at H
    have c3b0 : decide (x4_1 < (l0_2.length : Int)) = true := decide_eq_true c3
    clear c3
    by_cases c4 : 0 ≤ x4_1
    ·rw [if_pos c4] at H
     have c4b0 : decide (0 ≤ x4_1) = true := decide_eq_true c4
     clear c4
     replace H := Option.bind_eq_some_iff.mp H
     obtain ⟨t103, A50, H⟩ := H
     replace H : (wickerref03_Count.l0 k1 (wrap64 (x3_1 + t103)) (wrap64 (x4_1 + 1)) a0_0 a0_1 l0_2) = some r := H
     have A5 := Aside0.mk A50
     clear A50
     have H' := Aside0.mk H
     clear H
     have hcz6_0 : wr.cell? ⟨gb101, 0, none⟩ = some (.int .i64 a0_0) := (blk_cell BK101.out 0).trans rfl
     have hcz6_1 : wr.cell? ⟨gb101, 1, none⟩ = some (.int .i64 a0_1) := (blk_cell BK101.out 1).trans rfl
     have hcz6_2 : wr.cell? ⟨gb101, 2, none⟩ = some (.slice A0_2 l0_2.length c0_2) := (blk_cell BK101.out 2).trans rfl
     have hfz6_0 := blk_frozen BK101.out 0
     have hfz6_1 := blk_frozen BK101.out 1
     have hfz6_2 := blk_frozen BK101.out 2
     have p102 : 0 ≤ (x4_1 : Int) := of_decide_eq_true (by first | (with_reducible assumption) | assumption)
     have q102 : x4_1 < (l0_2.length : Int) := of_decide_eq_true (by first | (with_reducible assumption) | assumption)
     obtain ⟨ad102, A102_2, c102_2, e102, hx102_0, hx102_1, hx102_2, hl102_2, hi102_2⟩ := at_T58 HR0_2.out x4_1 p102 q102
     cases e102
     replace hx102_0 := (HB.out.cell (World.block_lt_of_cell? w _ hx102_0)).trans hx102_0
     replace hx102_1 := (HB.out.cell (World.block_lt_of_cell? w _ hx102_1)).trans hx102_1
     replace hx102_2 := (HB.out.cell (World.block_lt_of_cell? w _ hx102_2)).trans hx102_2
     have HR102_2 := Aside0.mk hi102_2
     have HC102_2 := Aside0.mk hl102_2
     clear hi102_2 hl102_2
     replace p102 := eq_true p102
     replace q102 := eq_true q102
     go_wp2_with (first | ((with_reducible refine gate_callee (f := 57) rfl ?_); refine goesL_ (some 18) rfl rfl Tryd.func57 (by kernel_rfl) rfl #[.agg #[.int .i64 ((rd_T58 l0_2 x4_1).f0), .int .i64 ((rd_T58 l0_2 x4_1).f1), .slice A102_2 ((rd_T58 l0_2 x4_1).f2).length c102_2]] rfl (by (try simp only [List.map_toArray, List.map_cons, List.map_nil]); first | done | rfl | (simp only [List.length_drop, List.length_take]; rfl)) ?_; (with_reducible refine (ih k1 (by have := HK1.out; omega) ((rd_T58 l0_2 x4_1).f0) ((rd_T58 l0_2 x4_1).f1) _ _ ((rd_T58 l0_2 x4_1).f2) t103 _ ?side1 ?side2 A5.out).mono ?_); (case side1 => repeat (first | exact (Kd.C_below HR102_2.out HB.out) | (with_reducible refine Kd.C_alloc ?_ _) | (with_reducible refine Kd.C_drewN ?_ _) | (with_reducible refine Kd.C_drew ?_))); (case side2 => exact HC102_2.out); rintro e w7 ⟨rfl, hb⟩; refine ⟨_, rfl, ?_⟩; have n0_ := Aside0.mk (blk_below (g := gb101) (o := .cells #[.int .i64 a0_0, .int .i64 a0_1, .slice (some ad102) l0_2.length c0_2] 58 (0, 0)) (by (with_reducible repeat (first | refine blk_drewN ?_ _ | refine blk_drew ?_ | refine blk_alloc ?_ _)); exact BK101.out) hb); have n1_ := Aside0.mk (below_step (by repeat (first | (with_reducible first | exact HB.out | apply below_alloc | apply pw_below_drewN | apply below_drew1 | refine below_set ?_ GE101.out) | exact HB.out)) hb); clear BK101; clear HB; have BK101 := n0_; have HB := n1_; clear n0_ n1_; (try clear hb); (try clear hb2); (try clear hk); (try clear hi)))
     go_roundg k1
     case measure => have := HK1.out; omega
     case rel => exact ⟨(wrap64 (x3_1 + t103)), (wrap64 (x4_1 + 1)), (by first | rfl | (simp; done) | (simp [*]; done)), (by first | rfl | (simp; done) | (simp [*]; done)), H', ⟨by have := HK1.out; omega⟩, ⟨by (with_reducible repeat (first | refine blk_drewN ?_ _ | refine blk_drew ?_ | refine blk_alloc ?_ _)); exact BK101.out⟩, ⟨by repeat (first | (with_reducible first | exact HB.out | apply below_alloc | apply pw_below_drewN | apply below_drew1 | refine below_set ?_ GE101.out) | exact HB.out)⟩⟩
    ·rw [if_neg c4] at H
     exact absurd H (by simp)
   ·rw [if_neg c3] at H
    have c3b0 : decide (x4_1 < (l0_2.length : Int)) = false := decide_eq_false c3
    clear c3
    obtain rfl := Option.some.inj H
    have hcz8_0 : wr.cell? ⟨gb101, 0, none⟩ = some (.int .i64 a0_0) := (blk_cell BK101.out 0).trans rfl
    have hcz8_1 : wr.cell? ⟨gb101, 1, none⟩ = some (.int .i64 a0_1) := (blk_cell BK101.out 1).trans rfl
    have hcz8_2 : wr.cell? ⟨gb101, 2, none⟩ = some (.slice A0_2 l0_2.length c0_2) := (blk_cell BK101.out 2).trans rfl
    have hfz8_0 := blk_frozen BK101.out 0
    have hfz8_1 := blk_frozen BK101.out 1
    have hfz8_2 := blk_frozen BK101.out 2
    go_wp2
    go_ret
    exact ⟨by first | rfl | (simp [errW_none, errW_some] <;> rfl) | (simp [*, errW_none, errW_some] <;> rfl), by repeat (first | (with_reducible first | exact HB.out | apply below_alloc | apply pw_below_drewN | apply below_drew1 | refine below_set ?_ GE101.out) | exact HB.out)⟩
end Go.Proofs.YtmdjmbdeeodehaaDoor.G
end
section
set_option linter.unusedVariables false
set_option linter.unusedSimpArgs false
namespace Go.Proofs.YtmdjmbdeeodehaaDoor.G
open Go Go.Proofs Go.RowKit Go.Proofs.YtmdjmbdeeodehaaDoorW.PrintWords Go.Proofs.YtmdjmbdeeodehaaDoor.Pure
abbrev TTree := S55
abbrev RTree := S58
abbrev ruleAt (l3 : List GRule) (r : Int) : GRule := rd_T32 l3 r
abbrev rruleAt (m3 : List S87) (r : Int) : S87 := rd_T87 m3 r
mutual
def toR : TTree → RTree
  | ⟨r, s, ks⟩ => ⟨r, s, toRs ks⟩
def toRs : List TTree → List RTree
  | [] => []
  | k :: ks => toR k :: toRs ks
end
mutual
def cntT : TTree → Nat
  | ⟨_, _, ks⟩ => 1 + cntTs ks
def cntTs : List TTree → Nat
  | [] => 0
  | k :: ks => cntT k + cntTs ks
end
mutual
def cntR : RTree → Nat
  | ⟨_, _, ks⟩ => 1 + cntRs ks
def cntRs : List RTree → Nat
  | [] => 0
  | k :: ks => cntR k + cntRs ks
end
mutual
def fitT (l3 : List GRule) : TTree → Int
  | ⟨r, s, ks⟩ => if r < 0 ∨ (l3.length : Int) ≤ r ∨ s ≠ 0 then 8 else if ks.length ≠ (ruleAt l3 r).f1.length then 9 else fitTs l3 (ruleAt l3 r).f1 ks
def fitTs (l3 : List GRule) : List Int → List TTree → Int
  | s :: ss, k :: ks =>
    if decide (k.f0 < 0) ≠ decide (s < 0) then 9
    else if s < 0 then (if k.f1 ≠ s ∨ k.f0 ≠ -1 ∨ 0 < k.f2.length then 9 else fitTs l3 ss ks)
    else if fitT l3 k ≠ 0 then fitT l3 k
    else if (ruleAt l3 k.f0).f0 ≠ s then 9 else fitTs l3 ss ks
  | _, _ => 0
end
mutual
def fitR (m3 : List S87) : RTree → Int
  | ⟨r, s, ks⟩ => if r < 0 ∨ (m3.length : Int) ≤ r ∨ s ≠ 0 then 8 else if ks.length ≠ (rruleAt m3 r).f1.length then 9 else fitRs m3 (rruleAt m3 r).f1 ks
def fitRs (m3 : List S87) : List Int → List RTree → Int
  | s :: ss, k :: ks =>
    if s < 0 then (if k.f0 ≠ -1 ∨ k.f1 ≠ s ∨ 0 < k.f2.length then 9 else fitRs m3 ss ks)
    else if k.f0 < 0 then 9
    else if fitR m3 k ≠ 0 then fitR m3 k
    else if (rruleAt m3 k.f0).f0 ≠ s then 9 else fitRs m3 ss ks
  | _, _ => 0
end
theorem toRs_length : ∀ l : List TTree, (toRs l).length = l.length
  | [] => by simp [toRs]
  | k :: ks => by simp [toRs, toRs_length ks]
theorem toRs_map : ∀ l : List TTree, toRs l = l.map toR
  | [] => by simp [toRs]
  | k :: ks => by simp [toRs, toRs_map ks]
theorem toR_f0 (t : TTree) : (toR t).f0 = t.f0 := by cases t; simp [toR]
theorem toR_f1 (t : TTree) : (toR t).f1 = t.f1 := by cases t; simp [toR]
theorem toR_f2 (t : TTree) : (toR t).f2 = toRs t.f2 := by cases t; simp [toR]
theorem cntT_pos (t : TTree) : 1 ≤ cntT t := by cases t; simp [cntT]
theorem cntT_eq (t : TTree) : cntT t = 1 + cntTs t.f2 := by cases t; simp [cntT]
theorem cntR_pos (t : RTree) : 1 ≤ cntR t := by cases t; simp [cntR]
theorem cntR_eq (t : RTree) : cntR t = 1 + cntRs t.f2 := by cases t; simp [cntR]
theorem cntTs_len : ∀ l : List TTree, l.length ≤ cntTs l
  | [] => by simp [cntTs]
  | k :: ks => by have := cntT_pos k; have := cntTs_len ks; simp only [cntTs, List.length_cons]; omega
theorem cntRs_len : ∀ l : List RTree, l.length ≤ cntRs l
  | [] => by simp [cntRs]
  | k :: ks => by have := cntR_pos k; have := cntRs_len ks; simp only [cntRs, List.length_cons]; omega
theorem cntTs_mem : ∀ {l : List TTree} {k : TTree}, k ∈ l → cntT k ≤ cntTs l
  | x :: ks, k, h => by
    rcases List.mem_cons.1 h with rfl | h
    · simp only [cntTs]; omega
    · have := cntTs_mem h; simp only [cntTs]; omega
theorem cntRs_mem : ∀ {l : List RTree} {k : RTree}, k ∈ l → cntR k ≤ cntRs l
  | x :: ks, k, h => by
    rcases List.mem_cons.1 h with rfl | h
    · simp only [cntRs]; omega
    · have := cntRs_mem h; simp only [cntRs]; omega
mutual
theorem cnt_toR : ∀ t : TTree, cntR (toR t) = cntT t
  | ⟨r, s, ks⟩ => by simp only [toR, cntR, cntT]; rw [cnt_toRs ks]
theorem cnt_toRs : ∀ l : List TTree, cntRs (toRs l) = cntTs l
  | [] => by simp [toRs, cntRs, cntTs]
  | k :: ks => by simp only [toRs, cntRs, cntTs]; rw [cnt_toR k, cnt_toRs ks]
end
theorem rruleAt_of (l3 : List GRule) (r : Int) (h0 : 0 ≤ r) (h1 : r < l3.length) : rruleAt (l3.map ofR) r = ofR (ruleAt l3 r) := by
  obtain ⟨n, rfl⟩ : ∃ n : Nat, r = n := ⟨r.toNat, by omega⟩
  have hn : n < l3.length := by omega
  simp only [rd_T87, rd_T32, Int.toNat_natCast, List.getD_eq_getElem?_getD, List.getElem?_map, List.getElem?_eq_getElem hn, Option.map_some, Option.getD_some]
theorem ofR_f0 (r : GRule) : (ofR r).f0 = r.f0 := rfl
theorem ofR_f1 (r : GRule) : (ofR r).f1 = r.f1 := rfl
mutual
theorem fit_toR (l3 : List GRule) : ∀ t : TTree, fitR (l3.map ofR) (toR t) = fitT l3 t
  | ⟨r, s, ks⟩ => by
    simp only [toR, fitR, fitT, List.length_map]
    by_cases h : r < 0 ∨ (l3.length : Int) ≤ r ∨ s ≠ 0
    · rw [if_pos h, if_pos h]
    · rw [if_neg h, if_neg h, rruleAt_of l3 r (by omega) (by omega), ofR_f1, toRs_length, fits_toRs l3 _ ks]
theorem fits_toRs (l3 : List GRule) : ∀ (ss : List Int) (ks : List TTree), fitRs (l3.map ofR) ss (toRs ks) = fitTs l3 ss ks
  | [], _ => by simp [fitRs, fitTs]
  | _ :: _, [] => by simp [toRs, fitRs, fitTs]
  | s :: ss, k :: ks => by
    simp only [toRs, fitRs, fitTs]
    have hk := fit_toR l3 k
    have hs := fits_toRs l3 ss ks
    rw [toR_f0, toR_f1, toR_f2, toRs_length, hk, hs]
    by_cases h0 : s < 0
    · rw [if_pos h0, decide_eq_true h0]
      by_cases h1 : k.f0 < 0
      · rw [decide_eq_true h1]
        by_cases x : k.f0 = -1 <;> by_cases y : k.f1 = s <;> by_cases z : 0 < k.f2.length <;> simp [x, y, z, h0]
      · rw [decide_eq_false h1]
        have x : ¬ k.f0 = -1 := by omega
        simp [x]
    · rw [if_neg h0, decide_eq_false h0]
      by_cases h1 : k.f0 < 0
      · rw [if_pos h1, decide_eq_true h1, if_pos (by simp)]
      · rw [if_neg h1, decide_eq_false h1, if_neg (show ¬ (false ≠ false) by simp), if_neg h0]
        by_cases h2 : fitT l3 k ≠ 0
        · rw [if_pos h2, if_pos h2]
        · rw [if_neg h2, if_neg h2]
          have h3 : 0 ≤ k.f0 ∧ k.f0 < l3.length := by
            obtain ⟨r, y, kk⟩ := k
            simp only [fitT] at h2
            split at h2
            · exact absurd h2 (by decide)
            · rename_i h; simp only at h1 ⊢; omega
          rw [rruleAt_of l3 _ h3.1 h3.2, ofR_f0]
end
theorem fitT_in {l3 : List GRule} {t : TTree} (h : fitT l3 t = 0) : 0 ≤ t.f0 ∧ t.f0 < l3.length ∧ t.f1 = 0 := by
  obtain ⟨r, y, kk⟩ := t
  simp only [fitT] at h
  split at h
  · exact absurd h (by decide)
  · rename_i h; simp only at h ⊢; omega
theorem fitR_in {l3 : List S87} {t : RTree} (h : fitR l3 t = 0) : 0 ≤ t.f0 ∧ t.f0 < l3.length ∧ t.f1 = 0 := by
  obtain ⟨r, y, kk⟩ := t
  simp only [fitR] at h
  split at h
  · exact absurd h (by decide)
  · rename_i h; simp only at h ⊢; omega
theorem rdT_at (xs : List TTree) (j : Nat) (h : j < xs.length) : rd_T55 xs (j : Int) = xs[j] := by
  rw [rd_T55, Int.toNat_natCast, List.getD_eq_getElem?_getD, List.getElem?_eq_getElem h]; rfl
theorem rdR_at (xs : List RTree) (j : Nat) (h : j < xs.length) : rd_T58 xs (j : Int) = xs[j] := by
  rw [rd_T58, Int.toNat_natCast, List.getD_eq_getElem?_getD, List.getElem?_eq_getElem h]; rfl
theorem w64b {a : Int} (h0 : 0 ≤ a) (h1 : a ≤ 9223372036854775807) : wrap64 a = a := by unfold wrap64; omega
theorem count_f : ∀ (n : Nat) (t : TTree), cntT t ≤ n → cntT t ≤ 1000000 → Ev (fun k => tree_Count.f k t.f0 t.f1 t.f2) (cntT t : Int) := by
  intro n
  induction n with
  | zero => intro t h; have := cntT_pos t; omega
  | succ n ih =>
    intro t hn hb
    have hl : ∀ (d j : Nat) (x : Nat), d + j = t.f2.length → x + cntTs (t.f2.drop j) ≤ 1000000 → Ev (fun k => tree_Count.l0 k (x : Int) t.f2 (t.f2.length : Int) (j : Int)) ((x + cntTs (t.f2.drop j) : Nat) : Int) := by
      have ht := cntT_eq t
      have htl := cntTs_len t.f2
      intro d
      induction d with
      | zero =>
        intro j x hd hx
        obtain rfl : j = t.f2.length := by omega
        refine Ev.step (f := fun _ => some (x : Int)) (fun k => ?_) ?_
        · rw [tree_Count.l0, if_neg (by omega)]
        · rw [List.drop_length, cntTs]; exact Ev.now _
      | succ d ihd =>
        intro j x hd hx
        have hj : j < t.f2.length := by omega
        have hdr : t.f2.drop j = t.f2[j] :: t.f2.drop (j + 1) := List.drop_eq_getElem_cons hj
        rw [hdr, cntTs] at hx ⊢
        have hm := cntTs_mem (List.getElem_mem hj)
        refine Ev.step (fun k => by rw [tree_Count.l0, if_pos (by omega), if_pos (by omega), if_pos (by omega), rdT_at _ j hj]) (Ev.bind (ih t.f2[j] (by omega) (by omega)) ?_)
        rw [w64b (by omega) (by omega), w64b (by omega) (by omega), show (x : Int) + (cntT t.f2[j] : Int) = ((x + cntT t.f2[j] : Nat) : Int) by omega, show (j : Int) + 1 = ((j + 1 : Nat) : Int) by omega, ← Nat.add_assoc]
        exact ihd (j + 1) (x + cntT t.f2[j]) (by omega) (by omega)
    have h1 := hl t.f2.length 0 1 (by omega) (by have := cntT_eq t; simp only [List.drop_zero]; omega)
    refine Ev.step (fun k => by rw [tree_Count.f]) ?_
    have h2 := cntT_eq t
    rw [List.drop_zero, ← h2] at h1
    exact h1
theorem rcount_f : ∀ (n : Nat) (t : RTree), cntR t ≤ n → cntR t ≤ 1000000 → Ev (fun k => wickerref03_Count.f k t.f0 t.f1 t.f2) (cntR t : Int) := by
  intro n
  induction n with
  | zero => intro t h; have := cntR_pos t; omega
  | succ n ih =>
    intro t hn hb
    have hl : ∀ (d j : Nat) (x : Nat), d + j = t.f2.length → x + cntRs (t.f2.drop j) ≤ 1000000 → Ev (fun k => wickerref03_Count.l0 k (x : Int) (j : Int) t.f0 t.f1 t.f2) ((x + cntRs (t.f2.drop j) : Nat) : Int) := by
      have ht := cntR_eq t
      have htl := cntRs_len t.f2
      intro d
      induction d with
      | zero =>
        intro j x hd hx
        obtain rfl : j = t.f2.length := by omega
        refine Ev.step (f := fun _ => some (x : Int)) (fun k => ?_) ?_
        · rw [wickerref03_Count.l0, if_neg (by omega)]
        · rw [List.drop_length, cntRs]; exact Ev.now _
      | succ d ihd =>
        intro j x hd hx
        have hj : j < t.f2.length := by omega
        have hdr : t.f2.drop j = t.f2[j] :: t.f2.drop (j + 1) := List.drop_eq_getElem_cons hj
        rw [hdr, cntRs] at hx ⊢
        have hm := cntRs_mem (List.getElem_mem hj)
        refine Ev.step (fun k => by rw [wickerref03_Count.l0, if_pos (by omega), if_pos (by omega), rdR_at _ j hj]) (Ev.bind (ih t.f2[j] (by omega) (by omega)) ?_)
        rw [w64b (by omega) (by omega), w64b (by omega) (by omega), show (x : Int) + (cntR t.f2[j] : Int) = ((x + cntR t.f2[j] : Nat) : Int) by omega, show (j : Int) + 1 = ((j + 1 : Nat) : Int) by omega, ← Nat.add_assoc]
        exact ihd (j + 1) (x + cntR t.f2[j]) (by omega) (by omega)
    have h1 := hl t.f2.length 0 1 (by omega) (by have := cntR_eq t; simp only [List.drop_zero]; omega)
    refine Ev.step (fun k => by rw [wickerref03_Count.f]) ?_
    have h2 := cntR_eq t
    rw [List.drop_zero, ← h2] at h1
    exact h1
end Go.Proofs.YtmdjmbdeeodehaaDoor.G
end
