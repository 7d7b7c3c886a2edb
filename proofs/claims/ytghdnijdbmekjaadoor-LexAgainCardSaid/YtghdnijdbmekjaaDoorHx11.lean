-- Written for this claim by a program of this session over the kit's printer.
import Derived.Test.YtghdnijdbmekjaaDoorHx0
import Derived.Test.YtghdnijdbmekjaaDoorHx7
import Derived.Test.YtghdnijdbmekjaaDoorHx8
namespace Go.Proofs.YtghdnijdbmekjaaDoor.H
open Go.RowKit Go.Proofs.YtghdnijdbmekjaaDoorW.PrintWords Go.Proofs.YtghdnijdbmekjaaDoorW.PrintLast Go.Proofs.YtghdnijdbmekjaaDoorW.PrintMore
attribute [local go_sem] max2_int min2_int max_two min_two max_three min_three max_four min_four   -- for this text's walks alone
attribute [local go_sem] Go.Proofs.YtghdnijdbmekjaaDoorOwn.isSome_setCell
set_option linter.unusedVariables false
set_option linter.unusedSimpArgs false

/-! ### wickerlaw01_Awake: function 10 -/
def wickerlaw01_Awake.f (k : Nat)  : Option (Bool) := (names_Quote.f (⟨#[97, 34, 98]⟩ : ByteArray)).bind fun t145 => (if t145.toList = ([34, 97, 92, 34, 98, 34] : List UInt8) then ((names_Fresh.f k (([(⟨#[83]⟩ : ByteArray), (⟨#[83, 45, 49]⟩ : ByteArray)] : List ByteArray)) (⟨#[83]⟩ : ByteArray)).bind fun t149 => (if t149.toList = ([83, 45, 50] : List UInt8) then ((names_Name.f k (⟨#[97, 45, 49]⟩ : ByteArray)).bind fun t150 => (if t150 = true then ((names_Name.f k (⟨#[49, 97]⟩ : ByteArray)).bind fun t151 => (some (!t151))) else (some false))) else (some false))) else (some false))
theorem wickerlaw01_Awake.mono : ∀ k, LeO (wickerlaw01_Awake.f k ) (wickerlaw01_Awake.f (k + 1) ) := by
  intro  k
  unfold wickerlaw01_Awake.f
  repeat' first
      | (with_reducible exact names_Fresh.mono _ _ _)
      | (with_reducible exact names_Name.mono _ _)
      | (with_reducible exact LeO.refl _)
      | (with_reducible exact LeO.none _)
      | (with_reducible refine LeO.ite ?_ ?_)
      | (with_reducible refine LeO.bind ?_ (fun _ => ?_))
      | exact names_Fresh.mono _ _ _
      | exact names_Name.mono _ _
      | exact LeO.none _
      | refine LeO.ite ?_ ?_
      | refine LeO.bind ?_ (fun _ => ?_)
set_option maxHeartbeats 8000000 in
set_option maxRecDepth 100000 in
theorem wickerlaw01_Awake.calls (k : Nat)  (r : Bool) (w : World) (h : wickerlaw01_Awake.f k  = some r) :
    Calls Tryd.prog 10 #[] w fun e w' => e = .returned (.bool r) ∧ Below w.heap.size w w' := by
  have HB := Aside0.mk (Below.refl w.heap.size w)
  have H : ((names_Quote.f (⟨#[97, 34, 98]⟩ : ByteArray)).bind fun t145 => (if t145.toList = ([34, 97, 92, 34, 98, 34] : List UInt8) then ((names_Fresh.f k (([(⟨#[83]⟩ : ByteArray), (⟨#[83, 45, 49]⟩ : ByteArray)] : List ByteArray)) (⟨#[83]⟩ : ByteArray)).bind fun t149 => (if t149.toList = ([83, 45, 50] : List UInt8) then ((names_Name.f k (⟨#[97, 45, 49]⟩ : ByteArray)).bind fun t150 => (if t150 = true then ((names_Name.f k (⟨#[49, 97]⟩ : ByteArray)).bind fun t151 => (some (!t151))) else (some false))) else (some false))) else (some false))) = some r := h
  clear h
  replace H := Option.bind_eq_some_iff.mp H
  obtain ⟨t145, A10, H⟩ := H
  replace H : (if t145.toList = ([34, 97, 92, 34, 98, 34] : List UInt8) then ((names_Fresh.f k (([(⟨#[83]⟩ : ByteArray), (⟨#[83, 45, 49]⟩ : ByteArray)] : List ByteArray)) (⟨#[83]⟩ : ByteArray)).bind fun t149 => (if t149.toList = ([83, 45, 50] : List UInt8) then ((names_Name.f k (⟨#[97, 45, 49]⟩ : ByteArray)).bind fun t150 => (if t150 = true then ((names_Name.f k (⟨#[49, 97]⟩ : ByteArray)).bind fun t151 => (some (!t151))) else (some false))) else (some false))) else (some false)) = some r := H
  have A1 := Aside0.mk A10
  clear A10
  by_cases c2 : t145.toList = ([34, 97, 92, 34, 98, 34] : List UInt8)
  · rw [if_pos c2] at H
    have c2b0 : (t145.toList == ([34, 97, 92, 34, 98, 34] : List UInt8)) = true := beq_iff_eq.mpr c2
    have c2b1 : (t145.toList != ([34, 97, 92, 34, 98, 34] : List UInt8)) = false := bne_eq_false_iff_eq.mpr c2
    clear c2
    obtain ⟨y146, hy146⟩ : ∃ y_ : List ByteArray, y_ = (([(⟨#[83]⟩ : ByteArray), (⟨#[83, 45, 49]⟩ : ByteArray)] : List ByteArray)) := ⟨_, rfl⟩
    replace H : ((names_Fresh.f k y146 (⟨#[83]⟩ : ByteArray)).bind fun t149 => (if t149.toList = ([83, 45, 50] : List UInt8) then ((names_Name.f k (⟨#[97, 45, 49]⟩ : ByteArray)).bind fun t150 => (if t150 = true then ((names_Name.f k (⟨#[49, 97]⟩ : ByteArray)).bind fun t151 => (some (!t151))) else (some false))) else (some false))) = some r := by first | (rw [hy146]; with_reducible exact H) | (have H2_ := (Option.bind_some _ _).symm.trans H; rw [hy146]; with_reducible exact H2_) | (have H2_ := (Option.bind_some _ _).symm.trans H; with_reducible exact H2_) | with_reducible exact H | (rw [hy146]; exact H) | exact H
    have Ny146 := Aside0.mk hy146
    clear hy146
    replace H := Option.bind_eq_some_iff.mp H
    obtain ⟨t149, A30, H⟩ := H
    replace H : (if t149.toList = ([83, 45, 50] : List UInt8) then ((names_Name.f k (⟨#[97, 45, 49]⟩ : ByteArray)).bind fun t150 => (if t150 = true then ((names_Name.f k (⟨#[49, 97]⟩ : ByteArray)).bind fun t151 => (some (!t151))) else (some false))) else (some false)) = some r := H
    have A3 := Aside0.mk A30
    clear A30
    by_cases c4 : t149.toList = ([83, 45, 50] : List UInt8)
    · rw [if_pos c4] at H
      have c4b0 : (t149.toList == ([83, 45, 50] : List UInt8)) = true := beq_iff_eq.mpr c4
      have c4b1 : (t149.toList != ([83, 45, 50] : List UInt8)) = false := bne_eq_false_iff_eq.mpr c4
      clear c4
      replace H := Option.bind_eq_some_iff.mp H
      obtain ⟨t150, A50, H⟩ := H
      replace H : (if t150 = true then ((names_Name.f k (⟨#[49, 97]⟩ : ByteArray)).bind fun t151 => (some (!t151))) else (some false)) = some r := H
      have A5 := Aside0.mk A50
      clear A50
      by_cases c6 : t150 = true
      · subst c6
        have H1 : ((names_Name.f k (⟨#[49, 97]⟩ : ByteArray)).bind fun t151 => (some (!t151))) = some r := by rw [if_pos rfl] at H; exact H
        clear H
        have H := H1
        clear H1
        replace H := Option.bind_eq_some_iff.mp H
        obtain ⟨t151, A70, H⟩ := H
        replace H : (some (!t151)) = some r := H
        have A7 := Aside0.mk A70
        clear A70
        obtain rfl := Option.some.inj H
        go_enter Tryd.func10, Tryd.ntmps10
        go_wp2_with (first | ((with_reducible refine gate_callee (f := 17) rfl ?_); refine goesL_ (some 1) rfl rfl Tryd.func17 (by kernel_rfl) rfl #[.string (⟨#[97, 34, 98]⟩ : ByteArray)] rfl (by (try simp only [List.map_toArray, List.map_cons, List.map_nil]); first | done | rfl | (simp only [List.length_drop, List.length_take]; rfl)) ?_; (with_reducible refine (names_Quote.calls (⟨#[97, 34, 98]⟩ : ByteArray) t145 _ A1.out).mono ?_); rintro e w8 ⟨rfl, hb⟩; refine ⟨_, rfl, ?_⟩; have n0_ := Aside0.mk (below_step (by repeat (first | (with_reducible first | exact HB.out | apply below_alloc | apply pw_below_drewN | apply below_drew1) | exact HB.out)) hb); clear HB; have HB := n0_; clear n0_; (try clear hb); (try clear hb2); (try clear hk); (try clear hi)) | ((with_reducible refine gate_dst (N := 4) rfl ?_); (try (refine gate_guard (by rfl) ?_; dsimp only)); refine Kd.R_lit Kd.string _ 9 ?hg (N := 4) ?hd (xs := ([(⟨#[83]⟩ : ByteArray), (⟨#[83, 45, 49]⟩ : ByteArray)] : List ByteArray)) (inner := [.string (⟨#[83]⟩ : ByteArray), .string (⟨#[83, 45, 49]⟩ : ByteArray)]) (ok := fun _ => True) (okp := fun _ => True) ?hr ?hp (fun _ hk => hk) trivial (Below.refl _ _) (Nat.le_refl _) (by simp) ?_; (case hd => rfl); (case hg => rfl); (case hr => first | (go_simp; done) | (go_simp; rfl)); (case hp => exact (Reps.one (show Kd.M Kd.string _ _ _ (⟨#[83]⟩ : ByteArray) [.string (⟨#[83]⟩ : ByteArray)] from rfl) (Reps.one (show Kd.M Kd.string _ _ _ (⟨#[83, 45, 49]⟩ : ByteArray) [.string (⟨#[83, 45, 49]⟩ : ByteArray)] from rfl) (Reps.none _ _)))); intro v147 w9 ho10 hb hg_ hnew_; clear hg_ hnew_; (first | rw [← Ny146.out] at ho10 | (simp only [Int.reduceToNat] at ho10; rw [← Ny146.out] at ho10)); have n0_ := Aside0.mk (Kd.R_lower ho10 (below_size (by repeat (first | (with_reducible first | exact HB.out | apply below_alloc | apply pw_below_drewN | apply below_drew1) | exact HB.out)))); have n1_ := Aside0.mk (below_step (by repeat (first | (with_reducible first | exact HB.out | apply below_alloc | apply pw_below_drewN | apply below_drew1) | exact HB.out)) hb); clear HB; have HO148 := n0_; have HB := n1_; clear n0_ n1_; clear hb ho10; obtain ⟨Ao11, co11, eo11⟩ := Kd.R_slice HO148.out; subst eo11) | (go_at_call 11; (with_reducible refine (names_Fresh.calls k _ _ y146 (⟨#[83]⟩ : ByteArray) t149 _ ?side1 ?side2 A3.out).mono ?_); (case side1 => repeat (first | exact (Kd.R_reads' HO148.out).2.2 | (with_reducible refine Kd.C_alloc ?_ _) | (with_reducible refine Kd.C_drewN ?_ _) | (with_reducible refine Kd.C_drew ?_))); (case side2 => exact (Kd.R_reads' HO148.out).2.1); rintro e w12 ⟨rfl, hb⟩; have n0_ := Aside0.mk (Kd.R_below (by (with_reducible repeat (first | apply Kd.R_alloc | apply Kd.R_drewN | apply Kd.R_drew)); exact HO148.out) hb); have n1_ := Aside0.mk (below_step (by repeat (first | (with_reducible first | exact HB.out | apply below_alloc | apply pw_below_drewN | apply below_drew1) | exact HB.out)) hb); clear HO148; clear HB; have HO148 := n0_; have HB := n1_; clear n0_ n1_; (try clear hb); (try clear hb2); (try clear hk); (try clear hi)) | (go_at_call 12; (with_reducible refine (names_Name.calls k (⟨#[97, 45, 49]⟩ : ByteArray) true _ A5.out).mono ?_); rintro e w' ⟨rfl, ⟨nd, rfl⟩⟩) | (go_at_call 12; (with_reducible refine (names_Name.calls k (⟨#[49, 97]⟩ : ByteArray) t151 _ A7.out).mono ?_); rintro e w' ⟨rfl, ⟨nd, rfl⟩⟩))
        go_ret
        exact ⟨by first | rfl | (simp [errW_none, errW_some] <;> rfl) | (simp [*, errW_none, errW_some] <;> rfl), by repeat (first | (with_reducible first | exact HB.out | apply below_alloc | apply pw_below_drewN | apply below_drew1) | exact HB.out)⟩
      · replace c6 := Bool.eq_false_iff.mpr c6
        subst c6
        have H1 : (some false) = some r := by rw [if_neg (show ¬ (false = true) by decide)] at H; exact H
        clear H
        have H := H1
        clear H1
        obtain rfl := Option.some.inj H
        go_enter Tryd.func10, Tryd.ntmps10
        go_wp2_with (first | ((with_reducible refine gate_callee (f := 17) rfl ?_); refine goesL_ (some 1) rfl rfl Tryd.func17 (by kernel_rfl) rfl #[.string (⟨#[97, 34, 98]⟩ : ByteArray)] rfl (by (try simp only [List.map_toArray, List.map_cons, List.map_nil]); first | done | rfl | (simp only [List.length_drop, List.length_take]; rfl)) ?_; (with_reducible refine (names_Quote.calls (⟨#[97, 34, 98]⟩ : ByteArray) t145 _ A1.out).mono ?_); rintro e w13 ⟨rfl, hb⟩; refine ⟨_, rfl, ?_⟩; have n0_ := Aside0.mk (below_step (by repeat (first | (with_reducible first | exact HB.out | apply below_alloc | apply pw_below_drewN | apply below_drew1) | exact HB.out)) hb); clear HB; have HB := n0_; clear n0_; (try clear hb); (try clear hb2); (try clear hk); (try clear hi)) | ((with_reducible refine gate_dst (N := 4) rfl ?_); (try (refine gate_guard (by rfl) ?_; dsimp only)); refine Kd.R_lit Kd.string _ 9 ?hg (N := 4) ?hd (xs := ([(⟨#[83]⟩ : ByteArray), (⟨#[83, 45, 49]⟩ : ByteArray)] : List ByteArray)) (inner := [.string (⟨#[83]⟩ : ByteArray), .string (⟨#[83, 45, 49]⟩ : ByteArray)]) (ok := fun _ => True) (okp := fun _ => True) ?hr ?hp (fun _ hk => hk) trivial (Below.refl _ _) (Nat.le_refl _) (by simp) ?_; (case hd => rfl); (case hg => rfl); (case hr => first | (go_simp; done) | (go_simp; rfl)); (case hp => exact (Reps.one (show Kd.M Kd.string _ _ _ (⟨#[83]⟩ : ByteArray) [.string (⟨#[83]⟩ : ByteArray)] from rfl) (Reps.one (show Kd.M Kd.string _ _ _ (⟨#[83, 45, 49]⟩ : ByteArray) [.string (⟨#[83, 45, 49]⟩ : ByteArray)] from rfl) (Reps.none _ _)))); intro v147 w14 ho15 hb hg_ hnew_; clear hg_ hnew_; (first | rw [← Ny146.out] at ho15 | (simp only [Int.reduceToNat] at ho15; rw [← Ny146.out] at ho15)); have n0_ := Aside0.mk (Kd.R_lower ho15 (below_size (by repeat (first | (with_reducible first | exact HB.out | apply below_alloc | apply pw_below_drewN | apply below_drew1) | exact HB.out)))); have n1_ := Aside0.mk (below_step (by repeat (first | (with_reducible first | exact HB.out | apply below_alloc | apply pw_below_drewN | apply below_drew1) | exact HB.out)) hb); clear HB; have HO148 := n0_; have HB := n1_; clear n0_ n1_; clear hb ho15; obtain ⟨Ao16, co16, eo16⟩ := Kd.R_slice HO148.out; subst eo16) | (go_at_call 11; (with_reducible refine (names_Fresh.calls k _ _ y146 (⟨#[83]⟩ : ByteArray) t149 _ ?side1 ?side2 A3.out).mono ?_); (case side1 => repeat (first | exact (Kd.R_reads' HO148.out).2.2 | (with_reducible refine Kd.C_alloc ?_ _) | (with_reducible refine Kd.C_drewN ?_ _) | (with_reducible refine Kd.C_drew ?_))); (case side2 => exact (Kd.R_reads' HO148.out).2.1); rintro e w17 ⟨rfl, hb⟩; have n0_ := Aside0.mk (Kd.R_below (by (with_reducible repeat (first | apply Kd.R_alloc | apply Kd.R_drewN | apply Kd.R_drew)); exact HO148.out) hb); have n1_ := Aside0.mk (below_step (by repeat (first | (with_reducible first | exact HB.out | apply below_alloc | apply pw_below_drewN | apply below_drew1) | exact HB.out)) hb); clear HO148; clear HB; have HO148 := n0_; have HB := n1_; clear n0_ n1_; (try clear hb); (try clear hb2); (try clear hk); (try clear hi)) | (go_at_call 12; (with_reducible refine (names_Name.calls k (⟨#[97, 45, 49]⟩ : ByteArray) false _ A5.out).mono ?_); rintro e w' ⟨rfl, ⟨nd, rfl⟩⟩))
        go_ret
        exact ⟨by first | rfl | (simp [errW_none, errW_some] <;> rfl) | (simp [*, errW_none, errW_some] <;> rfl), by repeat (first | (with_reducible first | exact HB.out | apply below_alloc | apply pw_below_drewN | apply below_drew1) | exact HB.out)⟩
    · rw [if_neg c4] at H
      have c4b0 : (t149.toList == ([83, 45, 50] : List UInt8)) = false := beq_eq_false_iff_ne.mpr c4
      have c4b1 : (t149.toList != ([83, 45, 50] : List UInt8)) = true := bne_iff_ne.mpr c4
      obtain rfl := Option.some.inj H
      go_enter Tryd.func10, Tryd.ntmps10
      go_wp2_with (first | ((with_reducible refine gate_callee (f := 17) rfl ?_); refine goesL_ (some 1) rfl rfl Tryd.func17 (by kernel_rfl) rfl #[.string (⟨#[97, 34, 98]⟩ : ByteArray)] rfl (by (try simp only [List.map_toArray, List.map_cons, List.map_nil]); first | done | rfl | (simp only [List.length_drop, List.length_take]; rfl)) ?_; (with_reducible refine (names_Quote.calls (⟨#[97, 34, 98]⟩ : ByteArray) t145 _ A1.out).mono ?_); rintro e w18 ⟨rfl, hb⟩; refine ⟨_, rfl, ?_⟩; have n0_ := Aside0.mk (below_step (by repeat (first | (with_reducible first | exact HB.out | apply below_alloc | apply pw_below_drewN | apply below_drew1) | exact HB.out)) hb); clear HB; have HB := n0_; clear n0_; (try clear hb); (try clear hb2); (try clear hk); (try clear hi)) | ((with_reducible refine gate_dst (N := 4) rfl ?_); (try (refine gate_guard (by rfl) ?_; dsimp only)); refine Kd.R_lit Kd.string _ 9 ?hg (N := 4) ?hd (xs := ([(⟨#[83]⟩ : ByteArray), (⟨#[83, 45, 49]⟩ : ByteArray)] : List ByteArray)) (inner := [.string (⟨#[83]⟩ : ByteArray), .string (⟨#[83, 45, 49]⟩ : ByteArray)]) (ok := fun _ => True) (okp := fun _ => True) ?hr ?hp (fun _ hk => hk) trivial (Below.refl _ _) (Nat.le_refl _) (by simp) ?_; (case hd => rfl); (case hg => rfl); (case hr => first | (go_simp; done) | (go_simp; rfl)); (case hp => exact (Reps.one (show Kd.M Kd.string _ _ _ (⟨#[83]⟩ : ByteArray) [.string (⟨#[83]⟩ : ByteArray)] from rfl) (Reps.one (show Kd.M Kd.string _ _ _ (⟨#[83, 45, 49]⟩ : ByteArray) [.string (⟨#[83, 45, 49]⟩ : ByteArray)] from rfl) (Reps.none _ _)))); intro v147 w19 ho20 hb hg_ hnew_; clear hg_ hnew_; (first | rw [← Ny146.out] at ho20 | (simp only [Int.reduceToNat] at ho20; rw [← Ny146.out] at ho20)); have n0_ := Aside0.mk (Kd.R_lower ho20 (below_size (by repeat (first | (with_reducible first | exact HB.out | apply below_alloc | apply pw_below_drewN | apply below_drew1) | exact HB.out)))); have n1_ := Aside0.mk (below_step (by repeat (first | (with_reducible first | exact HB.out | apply below_alloc | apply pw_below_drewN | apply below_drew1) | exact HB.out)) hb); clear HB; have HO148 := n0_; have HB := n1_; clear n0_ n1_; clear hb ho20; obtain ⟨Ao21, co21, eo21⟩ := Kd.R_slice HO148.out; subst eo21) | (go_at_call 11; (with_reducible refine (names_Fresh.calls k _ _ y146 (⟨#[83]⟩ : ByteArray) t149 _ ?side1 ?side2 A3.out).mono ?_); (case side1 => repeat (first | exact (Kd.R_reads' HO148.out).2.2 | (with_reducible refine Kd.C_alloc ?_ _) | (with_reducible refine Kd.C_drewN ?_ _) | (with_reducible refine Kd.C_drew ?_))); (case side2 => exact (Kd.R_reads' HO148.out).2.1); rintro e w22 ⟨rfl, hb⟩; have n0_ := Aside0.mk (Kd.R_below (by (with_reducible repeat (first | apply Kd.R_alloc | apply Kd.R_drewN | apply Kd.R_drew)); exact HO148.out) hb); have n1_ := Aside0.mk (below_step (by repeat (first | (with_reducible first | exact HB.out | apply below_alloc | apply pw_below_drewN | apply below_drew1) | exact HB.out)) hb); clear HO148; clear HB; have HO148 := n0_; have HB := n1_; clear n0_ n1_; (try clear hb); (try clear hb2); (try clear hk); (try clear hi)))
      go_ret
      exact ⟨by first | rfl | (simp [errW_none, errW_some] <;> rfl) | (simp [*, errW_none, errW_some] <;> rfl), by repeat (first | (with_reducible first | exact HB.out | apply below_alloc | apply pw_below_drewN | apply below_drew1) | exact HB.out)⟩
  · rw [if_neg c2] at H
    have c2b0 : (t145.toList == ([34, 97, 92, 34, 98, 34] : List UInt8)) = false := beq_eq_false_iff_ne.mpr c2
    have c2b1 : (t145.toList != ([34, 97, 92, 34, 98, 34] : List UInt8)) = true := bne_iff_ne.mpr c2
    obtain rfl := Option.some.inj H
    go_enter Tryd.func10, Tryd.ntmps10
    go_wp2_with (first | ((with_reducible refine gate_callee (f := 17) rfl ?_); refine goesL_ (some 1) rfl rfl Tryd.func17 (by kernel_rfl) rfl #[.string (⟨#[97, 34, 98]⟩ : ByteArray)] rfl (by (try simp only [List.map_toArray, List.map_cons, List.map_nil]); first | done | rfl | (simp only [List.length_drop, List.length_take]; rfl)) ?_; (with_reducible refine (names_Quote.calls (⟨#[97, 34, 98]⟩ : ByteArray) t145 _ A1.out).mono ?_); rintro e w23 ⟨rfl, hb⟩; refine ⟨_, rfl, ?_⟩; have n0_ := Aside0.mk (below_step (by repeat (first | (with_reducible first | exact HB.out | apply below_alloc | apply pw_below_drewN | apply below_drew1) | exact HB.out)) hb); clear HB; have HB := n0_; clear n0_; (try clear hb); (try clear hb2); (try clear hk); (try clear hi)))
    go_ret
    exact ⟨by first | rfl | (simp [errW_none, errW_some] <;> rfl) | (simp [*, errW_none, errW_some] <;> rfl), by repeat (first | (with_reducible first | exact HB.out | apply below_alloc | apply pw_below_drewN | apply below_drew1) | exact HB.out)⟩

end Go.Proofs.YtghdnijdbmekjaaDoor.H
