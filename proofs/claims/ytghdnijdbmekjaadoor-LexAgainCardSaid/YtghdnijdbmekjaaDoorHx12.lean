-- Written for this claim by a program of this session over the kit's printer.
import Derived.Test.YtghdnijdbmekjaaDoorHx0
import Derived.Test.YtghdnijdbmekjaaDoorHx1
import Derived.Test.YtghdnijdbmekjaaDoorHx8
import Derived.Test.YtghdnijdbmekjaaDoorHx10
import Derived.Test.YtghdnijdbmekjaaDoorHx11
namespace Go.Proofs.YtghdnijdbmekjaaDoor.H
open Go.RowKit Go.Proofs.YtghdnijdbmekjaaDoorW.PrintWords Go.Proofs.YtghdnijdbmekjaaDoorW.PrintLast Go.Proofs.YtghdnijdbmekjaaDoorW.PrintMore
attribute [local go_sem] max2_int min2_int max_two min_two max_three min_three max_four min_four   -- for this text's walks alone
attribute [local go_sem] Go.Proofs.YtghdnijdbmekjaaDoorOwn.isSome_setCell
set_option linter.unusedVariables false
set_option linter.unusedSimpArgs false

attribute [local go_sem high] eqA45
/-! ### wickerlaw05_Awake: function 21 -/
def wickerlaw05_Awake.f (k : Nat)  : Option (Bool) := (lex_Lex.f k (⟨#[60, 83, 62, 32, 58, 58, 61, 32, 34, 97, 34, 32, 59]⟩ : ByteArray)).bind fun bt152 => ((wickerlaw01_Awake.f k).bind fun t157 => (if t157 = true then (if bt152.2.2 = 0 then (if (bt152.1.length : Int) = 5 then (if 0 < (bt152.1.length : Int) then (if (((rd_T45 bt152.1 0).f0) == 0 && ((((rd_T45 bt152.1 0).f1).toList) == ([83] : List UInt8) && (((rd_T45 bt152.1 0).f2) == 0))) = true then (if 2 < (bt152.1.length : Int) then (if (((rd_T45 bt152.1 2).f0) == 1 && ((((rd_T45 bt152.1 2).f1).toList) == ([97] : List UInt8) && (((rd_T45 bt152.1 2).f2) == 8))) = true then (if 4 < (bt152.1.length : Int) then (some (((rd_T45 bt152.1 4).f0) == 5 && ((((rd_T45 bt152.1 4).f1).toList) == ([] : List UInt8) && (((rd_T45 bt152.1 4).f2) == 13)))) else (none)) else (some false)) else (none)) else (some false)) else (none)) else (some false)) else (some false)) else (some false)))
theorem wickerlaw05_Awake.mono : ∀ k, LeO (wickerlaw05_Awake.f k ) (wickerlaw05_Awake.f (k + 1) ) := by
  intro  k
  unfold wickerlaw05_Awake.f
  repeat' first
      | (with_reducible exact lex_Lex.mono _ _)
      | (with_reducible exact wickerlaw01_Awake.mono _)
      | (with_reducible exact LeO.refl _)
      | (with_reducible exact LeO.none _)
      | (with_reducible refine LeO.ite ?_ ?_)
      | (with_reducible refine LeO.bind ?_ (fun _ => ?_))
      | exact lex_Lex.mono _ _
      | exact wickerlaw01_Awake.mono _
      | exact LeO.none _
      | refine LeO.ite ?_ ?_
      | refine LeO.bind ?_ (fun _ => ?_)
set_option maxHeartbeats 8000000 in
set_option maxRecDepth 100000 in
theorem wickerlaw05_Awake.calls (k : Nat)  (r : Bool) (w : World) (h : wickerlaw05_Awake.f k  = some r) :
    Calls Tryd.prog 21 #[] w fun e w' => e = .returned (.bool r) ∧ Below w.heap.size w w' := by
  have hu45 := Tryd.underlying45
  have HB := Aside0.mk (Below.refl w.heap.size w)
  have H : ((lex_Lex.f k (⟨#[60, 83, 62, 32, 58, 58, 61, 32, 34, 97, 34, 32, 59]⟩ : ByteArray)).bind fun bt152 => ((wickerlaw01_Awake.f k).bind fun t157 => (if t157 = true then (if bt152.2.2 = 0 then (if (bt152.1.length : Int) = 5 then (if 0 < (bt152.1.length : Int) then (if (((rd_T45 bt152.1 0).f0) == 0 && ((((rd_T45 bt152.1 0).f1).toList) == ([83] : List UInt8) && (((rd_T45 bt152.1 0).f2) == 0))) = true then (if 2 < (bt152.1.length : Int) then (if (((rd_T45 bt152.1 2).f0) == 1 && ((((rd_T45 bt152.1 2).f1).toList) == ([97] : List UInt8) && (((rd_T45 bt152.1 2).f2) == 8))) = true then (if 4 < (bt152.1.length : Int) then (some (((rd_T45 bt152.1 4).f0) == 5 && ((((rd_T45 bt152.1 4).f1).toList) == ([] : List UInt8) && (((rd_T45 bt152.1 4).f2) == 13)))) else (none)) else (some false)) else (none)) else (some false)) else (none)) else (some false)) else (some false)) else (some false)))) = some r := h
  clear h
  replace H := Option.bind_eq_some_iff.mp H
  obtain ⟨⟨t152, t153, t154⟩, A10, H⟩ := H
  replace H : ((wickerlaw01_Awake.f k).bind fun t157 => (if t157 = true then (if t154 = 0 then (if (t152.length : Int) = 5 then (if 0 < (t152.length : Int) then (if (((rd_T45 t152 0).f0) == 0 && ((((rd_T45 t152 0).f1).toList) == ([83] : List UInt8) && (((rd_T45 t152 0).f2) == 0))) = true then (if 2 < (t152.length : Int) then (if (((rd_T45 t152 2).f0) == 1 && ((((rd_T45 t152 2).f1).toList) == ([97] : List UInt8) && (((rd_T45 t152 2).f2) == 8))) = true then (if 4 < (t152.length : Int) then (some (((rd_T45 t152 4).f0) == 5 && ((((rd_T45 t152 4).f1).toList) == ([] : List UInt8) && (((rd_T45 t152 4).f2) == 13)))) else (none)) else (some false)) else (none)) else (some false)) else (none)) else (some false)) else (some false)) else (some false))) = some r := H
  have A1 := Aside0.mk A10
  clear A10
  replace H := Option.bind_eq_some_iff.mp H
  obtain ⟨t157, A20, H⟩ := H
  replace H : (if t157 = true then (if t154 = 0 then (if (t152.length : Int) = 5 then (if 0 < (t152.length : Int) then (if (((rd_T45 t152 0).f0) == 0 && ((((rd_T45 t152 0).f1).toList) == ([83] : List UInt8) && (((rd_T45 t152 0).f2) == 0))) = true then (if 2 < (t152.length : Int) then (if (((rd_T45 t152 2).f0) == 1 && ((((rd_T45 t152 2).f1).toList) == ([97] : List UInt8) && (((rd_T45 t152 2).f2) == 8))) = true then (if 4 < (t152.length : Int) then (some (((rd_T45 t152 4).f0) == 5 && ((((rd_T45 t152 4).f1).toList) == ([] : List UInt8) && (((rd_T45 t152 4).f2) == 13)))) else (none)) else (some false)) else (none)) else (some false)) else (none)) else (some false)) else (some false)) else (some false)) = some r := H
  have A2 := Aside0.mk A20
  clear A20
  by_cases c3 : t157 = true
  · subst c3
    have H1 : (if t154 = 0 then (if (t152.length : Int) = 5 then (if 0 < (t152.length : Int) then (if (((rd_T45 t152 0).f0) == 0 && ((((rd_T45 t152 0).f1).toList) == ([83] : List UInt8) && (((rd_T45 t152 0).f2) == 0))) = true then (if 2 < (t152.length : Int) then (if (((rd_T45 t152 2).f0) == 1 && ((((rd_T45 t152 2).f1).toList) == ([97] : List UInt8) && (((rd_T45 t152 2).f2) == 8))) = true then (if 4 < (t152.length : Int) then (some (((rd_T45 t152 4).f0) == 5 && ((((rd_T45 t152 4).f1).toList) == ([] : List UInt8) && (((rd_T45 t152 4).f2) == 13)))) else (none)) else (some false)) else (none)) else (some false)) else (none)) else (some false)) else (some false)) = some r := by rw [if_pos rfl] at H; exact H
    clear H
    have H := H1
    clear H1
    by_cases c4 : t154 = 0
    · rw [if_pos c4] at H
      have c4b0 : (t154 == 0) = true := beq_iff_eq.mpr c4
      have c4b1 : (t154 != 0) = false := bne_eq_false_iff_eq.mpr c4
      clear c4
      by_cases c5 : (t152.length : Int) = 5
      · rw [if_pos c5] at H
        have c5b0 : ((t152.length : Int) == 5) = true := beq_iff_eq.mpr c5
        have c5b1 : ((t152.length : Int) != 5) = false := bne_eq_false_iff_eq.mpr c5
        clear c5
        by_cases c6 : 0 < (t152.length : Int)
        · rw [if_pos c6] at H
          have c6b0 : decide (0 < (t152.length : Int)) = true := decide_eq_true c6
          have c6b1 : decide (0 < t152.length) = true := decide_eq_true (by omega)
          clear c6
          by_cases c7 : (((rd_T45 t152 0).f0) == 0 && ((((rd_T45 t152 0).f1).toList) == ([83] : List UInt8) && (((rd_T45 t152 0).f2) == 0))) = true
          · rw [if_pos c7] at H
            have c7b0 : (((rd_T45 t152 0).f0) == 0 && ((((rd_T45 t152 0).f1).toList) == ([83] : List UInt8) && (((rd_T45 t152 0).f2) == 0))) = true := c7
            (try (have c7b1 : decide (((rd_T45 t152 0).f0) = 0 && ((((rd_T45 t152 0).f1).toList) == ([83] : List UInt8) && (((rd_T45 t152 0).f2) == 0))) = true := by simpa using c7))
            (try (have c7b2 : (((rd_T45 t152 0).f0) == 0 && ((((rd_T45 t152 0).f1).toList) == ([83] : List UInt8) && (((rd_T45 t152 0).f2) == 0))) = true := by simpa using c7))
            clear c7
            by_cases c8 : 2 < (t152.length : Int)
            · rw [if_pos c8] at H
              have c8b0 : decide (2 < (t152.length : Int)) = true := decide_eq_true c8
              have c8b1 : decide (2 < t152.length) = true := decide_eq_true (by omega)
              clear c8
              by_cases c9 : (((rd_T45 t152 2).f0) == 1 && ((((rd_T45 t152 2).f1).toList) == ([97] : List UInt8) && (((rd_T45 t152 2).f2) == 8))) = true
              · rw [if_pos c9] at H
                have c9b0 : (((rd_T45 t152 2).f0) == 1 && ((((rd_T45 t152 2).f1).toList) == ([97] : List UInt8) && (((rd_T45 t152 2).f2) == 8))) = true := c9
                (try (have c9b1 : decide (((rd_T45 t152 2).f0) = 1 && ((((rd_T45 t152 2).f1).toList) == ([97] : List UInt8) && (((rd_T45 t152 2).f2) == 8))) = true := by simpa using c9))
                (try (have c9b2 : (((rd_T45 t152 2).f0) == 1 && ((((rd_T45 t152 2).f1).toList) == ([97] : List UInt8) && (((rd_T45 t152 2).f2) == 8))) = true := by simpa using c9))
                clear c9
                by_cases c10 : 4 < (t152.length : Int)
                · rw [if_pos c10] at H
                  have c10b0 : decide (4 < (t152.length : Int)) = true := decide_eq_true c10
                  have c10b1 : decide (4 < t152.length) = true := decide_eq_true (by omega)
                  clear c10
                  obtain rfl := Option.some.inj H
                  go_enter Tryd.func21, Tryd.ntmps21
                  go_wp2_with (first | ((with_reducible refine gate_callee (f := 22) rfl ?_); refine goesL_ (some 5) rfl rfl Tryd.func22 (by kernel_rfl) rfl #[.string (⟨#[60, 83, 62, 32, 58, 58, 61, 32, 34, 97, 34, 32, 59]⟩ : ByteArray)] rfl (by (try simp only [List.map_toArray, List.map_cons, List.map_nil]); first | done | rfl | (simp only [List.length_drop, List.length_take]; rfl)) ?_; (with_reducible refine (lex_Lex.calls k (⟨#[60, 83, 62, 32, 58, 58, 61, 32, 34, 97, 34, 32, 59]⟩ : ByteArray) t152 t153 t154 _ A1.out).mono ?_); rintro e w11 ⟨v155, rfl, ho0, hb⟩; refine ⟨_, rfl, ?_⟩; have n0_ := Aside0.mk (Kd.R_lower ho0 (below_size (by repeat (first | (with_reducible first | exact HB.out | apply below_alloc | apply pw_below_drewN | apply below_drew1) | exact HB.out)))); have n1_ := Aside0.mk (below_step (by repeat (first | (with_reducible first | exact HB.out | apply below_alloc | apply pw_below_drewN | apply below_drew1) | exact HB.out)) hb); clear HB; have HO156 := n0_; have HB := n1_; clear n0_ n1_; (try clear hb); (try clear hb2); (try clear hk); (try clear hi); (try clear ho0)) | ((with_reducible refine gate_callee (f := 10) rfl ?_); refine goesL_ (some 9) rfl rfl Tryd.func10 (by kernel_rfl) rfl #[] rfl (by (try simp only [List.map_toArray, List.map_cons, List.map_nil]); first | done | rfl | (simp only [List.length_drop, List.length_take]; rfl)) ?_; (with_reducible refine (wickerlaw01_Awake.calls k  true _ A2.out).mono ?_); rintro e w12 ⟨rfl, hb⟩; refine ⟨_, rfl, ?_⟩; have n0_ := Aside0.mk (Kd.R_below (by (with_reducible repeat (first | apply Kd.R_alloc | apply Kd.R_drewN | apply Kd.R_drew)); exact HO156.out) hb); have n1_ := Aside0.mk (below_step (by repeat (first | (with_reducible first | exact HB.out | apply below_alloc | apply pw_below_drewN | apply below_drew1) | exact HB.out)) hb); clear HO156; clear HB; have HO156 := n0_; have HB := n1_; clear n0_ n1_; (try clear hb); (try clear hb2); (try clear hk); (try clear hi); obtain ⟨Ao13, co13, eo13⟩ := Kd.R_slice HO156.out; subst eo13; have p158 : 0 ≤ (0 : Int) := (by omega); have q158 : 0 < (t152.length : Int) := of_decide_eq_true (by first | (with_reducible assumption) | assumption); obtain ⟨ad158, e158, hx158_0, hx158_1, hx158_2⟩ := at_T45 (Kd.R_reads' HO156.out).2.2 0 p158 q158; cases e158; have qi158 : (0 < t152.length) = True := eq_true (by omega); (try rw [show ((0 : Int)).toNat = 0 from rfl] at hx158_0); (try rw [show 0 * 3 = 0 from rfl] at hx158_0); (try rw [Addr.add_zero'] at hx158_0); (try rw [show ((0 : Int)).toNat = 0 from rfl] at hx158_1); (try rw [show 0 * 3 = 0 from rfl] at hx158_1); (try rw [Addr.add_zero'] at hx158_1); (try rw [show ((0 : Int)).toNat = 0 from rfl] at hx158_2); (try rw [show 0 * 3 = 0 from rfl] at hx158_2); (try rw [Addr.add_zero'] at hx158_2); replace p158 := eq_true p158; replace q158 := eq_true q158; have p159 : 0 ≤ (2 : Int) := (by omega); have q159 : 2 < (t152.length : Int) := of_decide_eq_true (by first | (with_reducible assumption) | assumption); obtain ⟨ad159, e159, hx159_0, hx159_1, hx159_2⟩ := at_T45 (Kd.R_reads' HO156.out).2.2 2 p159 q159; obtain rfl : ad158 = ad159 := (by injection e159); (try simp only [show (2 : Int).toNat = 2 from rfl, Nat.reduceMul, Nat.reduceEqDiff, Go.Addr.add, ↓reduceIte] at hx159_0); (try simp only [show (2 : Int).toNat = 2 from rfl, Nat.reduceMul, Nat.reduceEqDiff, Go.Addr.add, ↓reduceIte] at hx159_1); (try simp only [show (2 : Int).toNat = 2 from rfl, Nat.reduceMul, Nat.reduceEqDiff, Go.Addr.add, ↓reduceIte] at hx159_2); have qi159 : (2 < t152.length) = True := eq_true (by omega); (try rw [show ((2 : Int)).toNat = 2 from rfl] at hx159_0); (try rw [show 2 * 3 = 6 from rfl] at hx159_0); (try rw [show ((2 : Int)).toNat = 2 from rfl] at hx159_1); (try rw [show 2 * 3 = 6 from rfl] at hx159_1); (try rw [show ((2 : Int)).toNat = 2 from rfl] at hx159_2); (try rw [show 2 * 3 = 6 from rfl] at hx159_2); replace p159 := eq_true p159; replace q159 := eq_true q159; have p160 : 0 ≤ (4 : Int) := (by omega); have q160 : 4 < (t152.length : Int) := of_decide_eq_true (by first | (with_reducible assumption) | assumption); obtain ⟨ad160, e160, hx160_0, hx160_1, hx160_2⟩ := at_T45 (Kd.R_reads' HO156.out).2.2 4 p160 q160; obtain rfl : ad158 = ad160 := (by injection e160); (try simp only [show (4 : Int).toNat = 4 from rfl, Nat.reduceMul, Nat.reduceEqDiff, Go.Addr.add, ↓reduceIte] at hx160_0); (try simp only [show (4 : Int).toNat = 4 from rfl, Nat.reduceMul, Nat.reduceEqDiff, Go.Addr.add, ↓reduceIte] at hx160_1); (try simp only [show (4 : Int).toNat = 4 from rfl, Nat.reduceMul, Nat.reduceEqDiff, Go.Addr.add, ↓reduceIte] at hx160_2); have qi160 : (4 < t152.length) = True := eq_true (by omega); (try rw [show ((4 : Int)).toNat = 4 from rfl] at hx160_0); (try rw [show 4 * 3 = 12 from rfl] at hx160_0); (try rw [show ((4 : Int)).toNat = 4 from rfl] at hx160_1); (try rw [show 4 * 3 = 12 from rfl] at hx160_1); (try rw [show ((4 : Int)).toNat = 4 from rfl] at hx160_2); (try rw [show 4 * 3 = 12 from rfl] at hx160_2); replace p160 := eq_true p160; replace q160 := eq_true q160))
                  go_ret
                  exact ⟨by first | rfl | (simp [errW_none, errW_some] <;> rfl) | (simp [*, errW_none, errW_some] <;> rfl), by repeat (first | (with_reducible first | exact HB.out | apply below_alloc | apply pw_below_drewN | apply below_drew1) | exact HB.out)⟩
                · rw [if_neg c10] at H
                  exact absurd H (by simp)
              · rw [if_neg c9] at H
                have c9b0 : (((rd_T45 t152 2).f0) == 1 && ((((rd_T45 t152 2).f1).toList) == ([97] : List UInt8) && (((rd_T45 t152 2).f2) == 8))) = false := by simpa using c9
                (try (have c9b1 : decide (((rd_T45 t152 2).f0) = 1 && ((((rd_T45 t152 2).f1).toList) == ([97] : List UInt8) && (((rd_T45 t152 2).f2) == 8))) = false := by simpa using c9))
                (try (have c9b2 : (((rd_T45 t152 2).f0) == 1 && ((((rd_T45 t152 2).f1).toList) == ([97] : List UInt8) && (((rd_T45 t152 2).f2) == 8))) = false := by simpa using c9))
                (try (have c9b3 : ¬ (((rd_T45 t152 2).f0) = 1 && ((((rd_T45 t152 2).f1).toList) == ([97] : List UInt8) && (((rd_T45 t152 2).f2) == 8))) := by simpa using c9))
                clear c9
                obtain rfl := Option.some.inj H
                go_enter Tryd.func21, Tryd.ntmps21
                go_wp2_with (first | ((with_reducible refine gate_callee (f := 22) rfl ?_); refine goesL_ (some 5) rfl rfl Tryd.func22 (by kernel_rfl) rfl #[.string (⟨#[60, 83, 62, 32, 58, 58, 61, 32, 34, 97, 34, 32, 59]⟩ : ByteArray)] rfl (by (try simp only [List.map_toArray, List.map_cons, List.map_nil]); first | done | rfl | (simp only [List.length_drop, List.length_take]; rfl)) ?_; (with_reducible refine (lex_Lex.calls k (⟨#[60, 83, 62, 32, 58, 58, 61, 32, 34, 97, 34, 32, 59]⟩ : ByteArray) t152 t153 t154 _ A1.out).mono ?_); rintro e w14 ⟨v155, rfl, ho0, hb⟩; refine ⟨_, rfl, ?_⟩; have n0_ := Aside0.mk (Kd.R_lower ho0 (below_size (by repeat (first | (with_reducible first | exact HB.out | apply below_alloc | apply pw_below_drewN | apply below_drew1) | exact HB.out)))); have n1_ := Aside0.mk (below_step (by repeat (first | (with_reducible first | exact HB.out | apply below_alloc | apply pw_below_drewN | apply below_drew1) | exact HB.out)) hb); clear HB; have HO156 := n0_; have HB := n1_; clear n0_ n1_; (try clear hb); (try clear hb2); (try clear hk); (try clear hi); (try clear ho0)) | ((with_reducible refine gate_callee (f := 10) rfl ?_); refine goesL_ (some 9) rfl rfl Tryd.func10 (by kernel_rfl) rfl #[] rfl (by (try simp only [List.map_toArray, List.map_cons, List.map_nil]); first | done | rfl | (simp only [List.length_drop, List.length_take]; rfl)) ?_; (with_reducible refine (wickerlaw01_Awake.calls k  true _ A2.out).mono ?_); rintro e w15 ⟨rfl, hb⟩; refine ⟨_, rfl, ?_⟩; have n0_ := Aside0.mk (Kd.R_below (by (with_reducible repeat (first | apply Kd.R_alloc | apply Kd.R_drewN | apply Kd.R_drew)); exact HO156.out) hb); have n1_ := Aside0.mk (below_step (by repeat (first | (with_reducible first | exact HB.out | apply below_alloc | apply pw_below_drewN | apply below_drew1) | exact HB.out)) hb); clear HO156; clear HB; have HO156 := n0_; have HB := n1_; clear n0_ n1_; (try clear hb); (try clear hb2); (try clear hk); (try clear hi); obtain ⟨Ao16, co16, eo16⟩ := Kd.R_slice HO156.out; subst eo16; have p158 : 0 ≤ (0 : Int) := (by omega); have q158 : 0 < (t152.length : Int) := of_decide_eq_true (by first | (with_reducible assumption) | assumption); obtain ⟨ad158, e158, hx158_0, hx158_1, hx158_2⟩ := at_T45 (Kd.R_reads' HO156.out).2.2 0 p158 q158; cases e158; have qi158 : (0 < t152.length) = True := eq_true (by omega); (try rw [show ((0 : Int)).toNat = 0 from rfl] at hx158_0); (try rw [show 0 * 3 = 0 from rfl] at hx158_0); (try rw [Addr.add_zero'] at hx158_0); (try rw [show ((0 : Int)).toNat = 0 from rfl] at hx158_1); (try rw [show 0 * 3 = 0 from rfl] at hx158_1); (try rw [Addr.add_zero'] at hx158_1); (try rw [show ((0 : Int)).toNat = 0 from rfl] at hx158_2); (try rw [show 0 * 3 = 0 from rfl] at hx158_2); (try rw [Addr.add_zero'] at hx158_2); replace p158 := eq_true p158; replace q158 := eq_true q158; have p159 : 0 ≤ (2 : Int) := (by omega); have q159 : 2 < (t152.length : Int) := of_decide_eq_true (by first | (with_reducible assumption) | assumption); obtain ⟨ad159, e159, hx159_0, hx159_1, hx159_2⟩ := at_T45 (Kd.R_reads' HO156.out).2.2 2 p159 q159; obtain rfl : ad158 = ad159 := (by injection e159); (try simp only [show (2 : Int).toNat = 2 from rfl, Nat.reduceMul, Nat.reduceEqDiff, Go.Addr.add, ↓reduceIte] at hx159_0); (try simp only [show (2 : Int).toNat = 2 from rfl, Nat.reduceMul, Nat.reduceEqDiff, Go.Addr.add, ↓reduceIte] at hx159_1); (try simp only [show (2 : Int).toNat = 2 from rfl, Nat.reduceMul, Nat.reduceEqDiff, Go.Addr.add, ↓reduceIte] at hx159_2); have qi159 : (2 < t152.length) = True := eq_true (by omega); (try rw [show ((2 : Int)).toNat = 2 from rfl] at hx159_0); (try rw [show 2 * 3 = 6 from rfl] at hx159_0); (try rw [show ((2 : Int)).toNat = 2 from rfl] at hx159_1); (try rw [show 2 * 3 = 6 from rfl] at hx159_1); (try rw [show ((2 : Int)).toNat = 2 from rfl] at hx159_2); (try rw [show 2 * 3 = 6 from rfl] at hx159_2); replace p159 := eq_true p159; replace q159 := eq_true q159))
                go_ret
                exact ⟨by first | rfl | (simp [errW_none, errW_some] <;> rfl) | (simp [*, errW_none, errW_some] <;> rfl), by repeat (first | (with_reducible first | exact HB.out | apply below_alloc | apply pw_below_drewN | apply below_drew1) | exact HB.out)⟩
            · rw [if_neg c8] at H
              exact absurd H (by simp)
          · rw [if_neg c7] at H
            have c7b0 : (((rd_T45 t152 0).f0) == 0 && ((((rd_T45 t152 0).f1).toList) == ([83] : List UInt8) && (((rd_T45 t152 0).f2) == 0))) = false := by simpa using c7
            (try (have c7b1 : decide (((rd_T45 t152 0).f0) = 0 && ((((rd_T45 t152 0).f1).toList) == ([83] : List UInt8) && (((rd_T45 t152 0).f2) == 0))) = false := by simpa using c7))
            (try (have c7b2 : (((rd_T45 t152 0).f0) == 0 && ((((rd_T45 t152 0).f1).toList) == ([83] : List UInt8) && (((rd_T45 t152 0).f2) == 0))) = false := by simpa using c7))
            (try (have c7b3 : ¬ (((rd_T45 t152 0).f0) = 0 && ((((rd_T45 t152 0).f1).toList) == ([83] : List UInt8) && (((rd_T45 t152 0).f2) == 0))) := by simpa using c7))
            clear c7
            obtain rfl := Option.some.inj H
            go_enter Tryd.func21, Tryd.ntmps21
            go_wp2_with (first | ((with_reducible refine gate_callee (f := 22) rfl ?_); refine goesL_ (some 5) rfl rfl Tryd.func22 (by kernel_rfl) rfl #[.string (⟨#[60, 83, 62, 32, 58, 58, 61, 32, 34, 97, 34, 32, 59]⟩ : ByteArray)] rfl (by (try simp only [List.map_toArray, List.map_cons, List.map_nil]); first | done | rfl | (simp only [List.length_drop, List.length_take]; rfl)) ?_; (with_reducible refine (lex_Lex.calls k (⟨#[60, 83, 62, 32, 58, 58, 61, 32, 34, 97, 34, 32, 59]⟩ : ByteArray) t152 t153 t154 _ A1.out).mono ?_); rintro e w17 ⟨v155, rfl, ho0, hb⟩; refine ⟨_, rfl, ?_⟩; have n0_ := Aside0.mk (Kd.R_lower ho0 (below_size (by repeat (first | (with_reducible first | exact HB.out | apply below_alloc | apply pw_below_drewN | apply below_drew1) | exact HB.out)))); have n1_ := Aside0.mk (below_step (by repeat (first | (with_reducible first | exact HB.out | apply below_alloc | apply pw_below_drewN | apply below_drew1) | exact HB.out)) hb); clear HB; have HO156 := n0_; have HB := n1_; clear n0_ n1_; (try clear hb); (try clear hb2); (try clear hk); (try clear hi); (try clear ho0)) | ((with_reducible refine gate_callee (f := 10) rfl ?_); refine goesL_ (some 9) rfl rfl Tryd.func10 (by kernel_rfl) rfl #[] rfl (by (try simp only [List.map_toArray, List.map_cons, List.map_nil]); first | done | rfl | (simp only [List.length_drop, List.length_take]; rfl)) ?_; (with_reducible refine (wickerlaw01_Awake.calls k  true _ A2.out).mono ?_); rintro e w18 ⟨rfl, hb⟩; refine ⟨_, rfl, ?_⟩; have n0_ := Aside0.mk (Kd.R_below (by (with_reducible repeat (first | apply Kd.R_alloc | apply Kd.R_drewN | apply Kd.R_drew)); exact HO156.out) hb); have n1_ := Aside0.mk (below_step (by repeat (first | (with_reducible first | exact HB.out | apply below_alloc | apply pw_below_drewN | apply below_drew1) | exact HB.out)) hb); clear HO156; clear HB; have HO156 := n0_; have HB := n1_; clear n0_ n1_; (try clear hb); (try clear hb2); (try clear hk); (try clear hi); obtain ⟨Ao19, co19, eo19⟩ := Kd.R_slice HO156.out; subst eo19; have p158 : 0 ≤ (0 : Int) := (by omega); have q158 : 0 < (t152.length : Int) := of_decide_eq_true (by first | (with_reducible assumption) | assumption); obtain ⟨ad158, e158, hx158_0, hx158_1, hx158_2⟩ := at_T45 (Kd.R_reads' HO156.out).2.2 0 p158 q158; cases e158; have qi158 : (0 < t152.length) = True := eq_true (by omega); (try rw [show ((0 : Int)).toNat = 0 from rfl] at hx158_0); (try rw [show 0 * 3 = 0 from rfl] at hx158_0); (try rw [Addr.add_zero'] at hx158_0); (try rw [show ((0 : Int)).toNat = 0 from rfl] at hx158_1); (try rw [show 0 * 3 = 0 from rfl] at hx158_1); (try rw [Addr.add_zero'] at hx158_1); (try rw [show ((0 : Int)).toNat = 0 from rfl] at hx158_2); (try rw [show 0 * 3 = 0 from rfl] at hx158_2); (try rw [Addr.add_zero'] at hx158_2); replace p158 := eq_true p158; replace q158 := eq_true q158))
            go_ret
            exact ⟨by first | rfl | (simp [errW_none, errW_some] <;> rfl) | (simp [*, errW_none, errW_some] <;> rfl), by repeat (first | (with_reducible first | exact HB.out | apply below_alloc | apply pw_below_drewN | apply below_drew1) | exact HB.out)⟩
        · rw [if_neg c6] at H
          exact absurd H (by simp)
      · rw [if_neg c5] at H
        have c5b0 : ((t152.length : Int) == 5) = false := beq_eq_false_iff_ne.mpr c5
        have c5b1 : ((t152.length : Int) != 5) = true := bne_iff_ne.mpr c5
        obtain rfl := Option.some.inj H
        go_enter Tryd.func21, Tryd.ntmps21
        go_wp2_with (first | ((with_reducible refine gate_callee (f := 22) rfl ?_); refine goesL_ (some 5) rfl rfl Tryd.func22 (by kernel_rfl) rfl #[.string (⟨#[60, 83, 62, 32, 58, 58, 61, 32, 34, 97, 34, 32, 59]⟩ : ByteArray)] rfl (by (try simp only [List.map_toArray, List.map_cons, List.map_nil]); first | done | rfl | (simp only [List.length_drop, List.length_take]; rfl)) ?_; (with_reducible refine (lex_Lex.calls k (⟨#[60, 83, 62, 32, 58, 58, 61, 32, 34, 97, 34, 32, 59]⟩ : ByteArray) t152 t153 t154 _ A1.out).mono ?_); rintro e w20 ⟨v155, rfl, ho0, hb⟩; refine ⟨_, rfl, ?_⟩; have n0_ := Aside0.mk (Kd.R_lower ho0 (below_size (by repeat (first | (with_reducible first | exact HB.out | apply below_alloc | apply pw_below_drewN | apply below_drew1) | exact HB.out)))); have n1_ := Aside0.mk (below_step (by repeat (first | (with_reducible first | exact HB.out | apply below_alloc | apply pw_below_drewN | apply below_drew1) | exact HB.out)) hb); clear HB; have HO156 := n0_; have HB := n1_; clear n0_ n1_; (try clear hb); (try clear hb2); (try clear hk); (try clear hi); (try clear ho0)) | ((with_reducible refine gate_callee (f := 10) rfl ?_); refine goesL_ (some 9) rfl rfl Tryd.func10 (by kernel_rfl) rfl #[] rfl (by (try simp only [List.map_toArray, List.map_cons, List.map_nil]); first | done | rfl | (simp only [List.length_drop, List.length_take]; rfl)) ?_; (with_reducible refine (wickerlaw01_Awake.calls k  true _ A2.out).mono ?_); rintro e w21 ⟨rfl, hb⟩; refine ⟨_, rfl, ?_⟩; have n0_ := Aside0.mk (Kd.R_below (by (with_reducible repeat (first | apply Kd.R_alloc | apply Kd.R_drewN | apply Kd.R_drew)); exact HO156.out) hb); have n1_ := Aside0.mk (below_step (by repeat (first | (with_reducible first | exact HB.out | apply below_alloc | apply pw_below_drewN | apply below_drew1) | exact HB.out)) hb); clear HO156; clear HB; have HO156 := n0_; have HB := n1_; clear n0_ n1_; (try clear hb); (try clear hb2); (try clear hk); (try clear hi); obtain ⟨Ao22, co22, eo22⟩ := Kd.R_slice HO156.out; subst eo22))
        go_ret
        exact ⟨by first | rfl | (simp [errW_none, errW_some] <;> rfl) | (simp [*, errW_none, errW_some] <;> rfl), by repeat (first | (with_reducible first | exact HB.out | apply below_alloc | apply pw_below_drewN | apply below_drew1) | exact HB.out)⟩
    · rw [if_neg c4] at H
      have c4b0 : (t154 == 0) = false := beq_eq_false_iff_ne.mpr c4
      have c4b1 : (t154 != 0) = true := bne_iff_ne.mpr c4
      obtain rfl := Option.some.inj H
      go_enter Tryd.func21, Tryd.ntmps21
      go_wp2_with (first | ((with_reducible refine gate_callee (f := 22) rfl ?_); refine goesL_ (some 5) rfl rfl Tryd.func22 (by kernel_rfl) rfl #[.string (⟨#[60, 83, 62, 32, 58, 58, 61, 32, 34, 97, 34, 32, 59]⟩ : ByteArray)] rfl (by (try simp only [List.map_toArray, List.map_cons, List.map_nil]); first | done | rfl | (simp only [List.length_drop, List.length_take]; rfl)) ?_; (with_reducible refine (lex_Lex.calls k (⟨#[60, 83, 62, 32, 58, 58, 61, 32, 34, 97, 34, 32, 59]⟩ : ByteArray) t152 t153 t154 _ A1.out).mono ?_); rintro e w23 ⟨v155, rfl, ho0, hb⟩; refine ⟨_, rfl, ?_⟩; have n0_ := Aside0.mk (Kd.R_lower ho0 (below_size (by repeat (first | (with_reducible first | exact HB.out | apply below_alloc | apply pw_below_drewN | apply below_drew1) | exact HB.out)))); have n1_ := Aside0.mk (below_step (by repeat (first | (with_reducible first | exact HB.out | apply below_alloc | apply pw_below_drewN | apply below_drew1) | exact HB.out)) hb); clear HB; have HO156 := n0_; have HB := n1_; clear n0_ n1_; (try clear hb); (try clear hb2); (try clear hk); (try clear hi); (try clear ho0)) | ((with_reducible refine gate_callee (f := 10) rfl ?_); refine goesL_ (some 9) rfl rfl Tryd.func10 (by kernel_rfl) rfl #[] rfl (by (try simp only [List.map_toArray, List.map_cons, List.map_nil]); first | done | rfl | (simp only [List.length_drop, List.length_take]; rfl)) ?_; (with_reducible refine (wickerlaw01_Awake.calls k  true _ A2.out).mono ?_); rintro e w24 ⟨rfl, hb⟩; refine ⟨_, rfl, ?_⟩; have n0_ := Aside0.mk (Kd.R_below (by (with_reducible repeat (first | apply Kd.R_alloc | apply Kd.R_drewN | apply Kd.R_drew)); exact HO156.out) hb); have n1_ := Aside0.mk (below_step (by repeat (first | (with_reducible first | exact HB.out | apply below_alloc | apply pw_below_drewN | apply below_drew1) | exact HB.out)) hb); clear HO156; clear HB; have HO156 := n0_; have HB := n1_; clear n0_ n1_; (try clear hb); (try clear hb2); (try clear hk); (try clear hi)))
      go_ret
      exact ⟨by first | rfl | (simp [errW_none, errW_some] <;> rfl) | (simp [*, errW_none, errW_some] <;> rfl), by repeat (first | (with_reducible first | exact HB.out | apply below_alloc | apply pw_below_drewN | apply below_drew1) | exact HB.out)⟩
  · replace c3 := Bool.eq_false_iff.mpr c3
    subst c3
    have H1 : (some false) = some r := by rw [if_neg (show ¬ (false = true) by decide)] at H; exact H
    clear H
    have H := H1
    clear H1
    obtain rfl := Option.some.inj H
    go_enter Tryd.func21, Tryd.ntmps21
    go_wp2_with (first | ((with_reducible refine gate_callee (f := 22) rfl ?_); refine goesL_ (some 5) rfl rfl Tryd.func22 (by kernel_rfl) rfl #[.string (⟨#[60, 83, 62, 32, 58, 58, 61, 32, 34, 97, 34, 32, 59]⟩ : ByteArray)] rfl (by (try simp only [List.map_toArray, List.map_cons, List.map_nil]); first | done | rfl | (simp only [List.length_drop, List.length_take]; rfl)) ?_; (with_reducible refine (lex_Lex.calls k (⟨#[60, 83, 62, 32, 58, 58, 61, 32, 34, 97, 34, 32, 59]⟩ : ByteArray) t152 t153 t154 _ A1.out).mono ?_); rintro e w25 ⟨v155, rfl, ho0, hb⟩; refine ⟨_, rfl, ?_⟩; have n0_ := Aside0.mk (Kd.R_lower ho0 (below_size (by repeat (first | (with_reducible first | exact HB.out | apply below_alloc | apply pw_below_drewN | apply below_drew1) | exact HB.out)))); have n1_ := Aside0.mk (below_step (by repeat (first | (with_reducible first | exact HB.out | apply below_alloc | apply pw_below_drewN | apply below_drew1) | exact HB.out)) hb); clear HB; have HO156 := n0_; have HB := n1_; clear n0_ n1_; (try clear hb); (try clear hb2); (try clear hk); (try clear hi); (try clear ho0)) | ((with_reducible refine gate_callee (f := 10) rfl ?_); refine goesL_ (some 9) rfl rfl Tryd.func10 (by kernel_rfl) rfl #[] rfl (by (try simp only [List.map_toArray, List.map_cons, List.map_nil]); first | done | rfl | (simp only [List.length_drop, List.length_take]; rfl)) ?_; (with_reducible refine (wickerlaw01_Awake.calls k  false _ A2.out).mono ?_); rintro e w26 ⟨rfl, hb⟩; refine ⟨_, rfl, ?_⟩; have n0_ := Aside0.mk (Kd.R_below (by (with_reducible repeat (first | apply Kd.R_alloc | apply Kd.R_drewN | apply Kd.R_drew)); exact HO156.out) hb); have n1_ := Aside0.mk (below_step (by repeat (first | (with_reducible first | exact HB.out | apply below_alloc | apply pw_below_drewN | apply below_drew1) | exact HB.out)) hb); clear HO156; clear HB; have HO156 := n0_; have HB := n1_; clear n0_ n1_; (try clear hb); (try clear hb2); (try clear hk); (try clear hi)))
    go_ret
    exact ⟨by first | rfl | (simp [errW_none, errW_some] <;> rfl) | (simp [*, errW_none, errW_some] <;> rfl), by repeat (first | (with_reducible first | exact HB.out | apply below_alloc | apply pw_below_drewN | apply below_drew1) | exact HB.out)⟩

/-! ### wickerlaw05_show: function 25 -/
def wickerlaw05_show.f (a0_0 : Int) (a0_1 : ByteArray) (a0_2 : Int) : Option (ByteArray) := if a0_0 = 0 then (if 1 + a0_1.size ≤ 9223372036854775807 then (if ((⟨#[60]⟩ : ByteArray) ++ a0_1).size + 1 ≤ 9223372036854775807 then (some (((⟨#[60]⟩ : ByteArray) ++ a0_1) ++ (⟨#[62]⟩ : ByteArray))) else (none)) else (none)) else (if a0_0 = 1 then ((names_Quote.f a0_1).bind fun t162 => (some t162)) else (if a0_0 = 2 then (some (⟨#[58, 58, 61]⟩ : ByteArray)) else (if a0_0 = 3 then (some (⟨#[124]⟩ : ByteArray)) else (if a0_0 = 4 then (some (⟨#[59]⟩ : ByteArray)) else (some (⟨#[]⟩ : ByteArray))))))
set_option maxHeartbeats 8000000 in
set_option maxRecDepth 100000 in
theorem wickerlaw05_show.calls (a0_0 : Int) (a0_1 : ByteArray) (a0_2 : Int) (r : ByteArray) (w : World) (h : wickerlaw05_show.f a0_0 a0_1 a0_2 = some r) :
    Calls Tryd.prog 25 #[.agg #[.int .i64 a0_0, .string a0_1, .int .i64 a0_2]] w fun e w' => e = .returned (.string r) ∧ Below w.heap.size w w' := by
  have hu45 := Tryd.underlying45
  have HB := Aside0.mk (Below.refl w.heap.size w)
  have H : (if a0_0 = 0 then (if 1 + a0_1.size ≤ 9223372036854775807 then (if ((⟨#[60]⟩ : ByteArray) ++ a0_1).size + 1 ≤ 9223372036854775807 then (some (((⟨#[60]⟩ : ByteArray) ++ a0_1) ++ (⟨#[62]⟩ : ByteArray))) else (none)) else (none)) else (if a0_0 = 1 then ((names_Quote.f a0_1).bind fun t162 => (some t162)) else (if a0_0 = 2 then (some (⟨#[58, 58, 61]⟩ : ByteArray)) else (if a0_0 = 3 then (some (⟨#[124]⟩ : ByteArray)) else (if a0_0 = 4 then (some (⟨#[59]⟩ : ByteArray)) else (some (⟨#[]⟩ : ByteArray))))))) = some r := h
  clear h
  by_cases c2 : a0_0 = 0
  · rw [if_pos c2] at H
    have c2b0 : (a0_0 == 0) = true := beq_iff_eq.mpr c2
    have c2b1 : (a0_0 != 0) = false := bne_eq_false_iff_eq.mpr c2
    clear c2
    by_cases c3 : 1 + a0_1.size ≤ 9223372036854775807
    · rw [if_pos c3] at H
      have c3b0 := eq_true c3
      have c3b1 : decide (1 + a0_1.size ≤ 9223372036854775807) = true := decide_eq_true c3
      try have c3b2 : (9223372036854775807 < 1 + a0_1.size) = False := eq_false (Nat.not_lt.2 c3)
      by_cases c4 : ((⟨#[60]⟩ : ByteArray) ++ a0_1).size + 1 ≤ 9223372036854775807
      · rw [if_pos c4] at H
        have c4b0 := eq_true c4
        have c4b1 : decide (((⟨#[60]⟩ : ByteArray) ++ a0_1).size + 1 ≤ 9223372036854775807) = true := decide_eq_true c4
        try have c4b2 : (9223372036854775807 < ((⟨#[60]⟩ : ByteArray) ++ a0_1).size + 1) = False := eq_false (Nat.not_lt.2 c4)
        try (have c4b3 := c4b2; simp only [ByteArray.size_append, ByteArray.size_extract, Nat.sub_zero, show (⟨#[60]⟩ : ByteArray).size = 1 from rfl] at c4b3)
        obtain rfl := Option.some.inj H
        go_enter Tryd.func25, Tryd.ntmps25
        go_wp2_with (first | ((with_reducible refine gate_dst (N := 1) rfl ?_); refine box_event ?hg (N := 1) ?hd (cs := #[.int .i64 a0_0, .string a0_1, .int .i64 a0_2]) (t := 45) ?hr ?_; (case hd => rfl); (case hg => rfl); (case hr => first | (go_simp; done) | (go_simp; rfl)); intro gb161 hg w5 hbox hb; have n0_ := Aside0.mk (below_step (by repeat (first | (with_reducible first | exact HB.out | apply below_alloc | apply pw_below_drewN | apply below_drew1) | exact HB.out)) hb); have n1_ := Aside0.mk (hbox); have n2_ := Aside0.mk ((by rw [hg]; exact (below_size (by repeat (first | (with_reducible first | exact HB.out | apply below_alloc | apply pw_below_drewN | apply below_drew1) | exact HB.out))) : w.heap.size ≤ gb161)); have n3_ := Aside0.mk ((by rw [hg]; exact (below_size (by repeat (first | (with_reducible first | exact HB.out | apply below_alloc | apply pw_below_drewN | apply below_drew1) | exact HB.out))) : w.heap.size ≤ gb161)); clear HB; have HB := n0_; have BK161 := n1_; have GW161 := n2_; have GE161 := n3_; clear n0_ n1_ n2_ n3_; clear hb hbox hg; have hcz6_0 : w5.cell? ⟨gb161, 0, none⟩ = some (.int .i64 a0_0) := (blk_cell BK161.out 0).trans rfl; have hcz6_1 : w5.cell? ⟨gb161, 1, none⟩ = some (.string a0_1) := (blk_cell BK161.out 1).trans rfl; have hcz6_2 : w5.cell? ⟨gb161, 2, none⟩ = some (.int .i64 a0_2) := (blk_cell BK161.out 2).trans rfl; have hfz6_0 := blk_frozen BK161.out 0; have hfz6_1 := blk_frozen BK161.out 1; have hfz6_2 := blk_frozen BK161.out 2))
        go_ret
        exact ⟨by first | rfl | (simp [errW_none, errW_some] <;> rfl) | (simp [*, errW_none, errW_some] <;> rfl), by repeat (first | (with_reducible first | exact HB.out | apply below_alloc | apply pw_below_drewN | apply below_drew1 | refine below_set ?_ GE161.out) | exact HB.out)⟩
      · rw [if_neg c4] at H
        exact absurd H (by simp)
    · rw [if_neg c3] at H
      exact absurd H (by simp)
  · rw [if_neg c2] at H
    have c2b0 : (a0_0 == 0) = false := beq_eq_false_iff_ne.mpr c2
    have c2b1 : (a0_0 != 0) = true := bne_iff_ne.mpr c2
    by_cases c7 : a0_0 = 1
    · rw [if_pos c7] at H
      have c7b0 : (a0_0 == 1) = true := beq_iff_eq.mpr c7
      have c7b1 : (a0_0 != 1) = false := bne_eq_false_iff_eq.mpr c7
      clear c7
      replace H := Option.bind_eq_some_iff.mp H
      obtain ⟨t162, A80, H⟩ := H
      replace H : (some t162) = some r := H
      have A8 := Aside0.mk A80
      clear A80
      obtain rfl := Option.some.inj H
      go_enter Tryd.func25, Tryd.ntmps25
      go_wp2_with (first | ((with_reducible refine gate_dst (N := 1) rfl ?_); refine box_event ?hg (N := 1) ?hd (cs := #[.int .i64 a0_0, .string a0_1, .int .i64 a0_2]) (t := 45) ?hr ?_; (case hd => rfl); (case hg => rfl); (case hr => first | (go_simp; done) | (go_simp; rfl)); intro gb161 hg w9 hbox hb; have n0_ := Aside0.mk (below_step (by repeat (first | (with_reducible first | exact HB.out | apply below_alloc | apply pw_below_drewN | apply below_drew1) | exact HB.out)) hb); have n1_ := Aside0.mk (hbox); have n2_ := Aside0.mk ((by rw [hg]; exact (below_size (by repeat (first | (with_reducible first | exact HB.out | apply below_alloc | apply pw_below_drewN | apply below_drew1) | exact HB.out))) : w.heap.size ≤ gb161)); have n3_ := Aside0.mk ((by rw [hg]; exact (below_size (by repeat (first | (with_reducible first | exact HB.out | apply below_alloc | apply pw_below_drewN | apply below_drew1) | exact HB.out))) : w.heap.size ≤ gb161)); clear HB; have HB := n0_; have BK161 := n1_; have GW161 := n2_; have GE161 := n3_; clear n0_ n1_ n2_ n3_; clear hb hbox hg; have hcz10_0 : w9.cell? ⟨gb161, 0, none⟩ = some (.int .i64 a0_0) := (blk_cell BK161.out 0).trans rfl; have hcz10_1 : w9.cell? ⟨gb161, 1, none⟩ = some (.string a0_1) := (blk_cell BK161.out 1).trans rfl; have hcz10_2 : w9.cell? ⟨gb161, 2, none⟩ = some (.int .i64 a0_2) := (blk_cell BK161.out 2).trans rfl; have hfz10_0 := blk_frozen BK161.out 0; have hfz10_1 := blk_frozen BK161.out 1; have hfz10_2 := blk_frozen BK161.out 2) | ((with_reducible refine gate_callee (f := 17) rfl ?_); refine goesL_ (some 15) rfl rfl Tryd.func17 (by kernel_rfl) rfl #[.string a0_1] rfl (by (try simp only [List.map_toArray, List.map_cons, List.map_nil]); first | done | rfl | (simp only [List.length_drop, List.length_take]; rfl)) ?_; (with_reducible refine (names_Quote.calls a0_1 t162 _ A8.out).mono ?_); rintro e w11 ⟨rfl, hb⟩; refine ⟨_, rfl, ?_⟩; have n0_ := Aside0.mk (blk_below (g := gb161) (o := .cells #[.int .i64 a0_0, .string a0_1, .int .i64 a0_2] 45 (0, 0)) (by (with_reducible repeat (first | refine blk_drewN ?_ _ | refine blk_drew ?_ | refine blk_alloc ?_ _)); exact BK161.out) hb); have n1_ := Aside0.mk (below_step (by repeat (first | (with_reducible first | exact HB.out | apply below_alloc | apply pw_below_drewN | apply below_drew1 | refine below_set ?_ GE161.out) | exact HB.out)) hb); clear BK161; clear HB; have BK161 := n0_; have HB := n1_; clear n0_ n1_; (try clear hb); (try clear hb2); (try clear hk); (try clear hi)))
      go_ret
      exact ⟨by first | rfl | (simp [errW_none, errW_some] <;> rfl) | (simp [*, errW_none, errW_some] <;> rfl), by repeat (first | (with_reducible first | exact HB.out | apply below_alloc | apply pw_below_drewN | apply below_drew1 | refine below_set ?_ GE161.out) | exact HB.out)⟩
    · rw [if_neg c7] at H
      have c7b0 : (a0_0 == 1) = false := beq_eq_false_iff_ne.mpr c7
      have c7b1 : (a0_0 != 1) = true := bne_iff_ne.mpr c7
      by_cases c12 : a0_0 = 2
      · rw [if_pos c12] at H
        have c12b0 : (a0_0 == 2) = true := beq_iff_eq.mpr c12
        have c12b1 : (a0_0 != 2) = false := bne_eq_false_iff_eq.mpr c12
        clear c12
        obtain rfl := Option.some.inj H
        go_enter Tryd.func25, Tryd.ntmps25
        go_wp2_with (first | ((with_reducible refine gate_dst (N := 1) rfl ?_); refine box_event ?hg (N := 1) ?hd (cs := #[.int .i64 a0_0, .string a0_1, .int .i64 a0_2]) (t := 45) ?hr ?_; (case hd => rfl); (case hg => rfl); (case hr => first | (go_simp; done) | (go_simp; rfl)); intro gb161 hg w13 hbox hb; have n0_ := Aside0.mk (below_step (by repeat (first | (with_reducible first | exact HB.out | apply below_alloc | apply pw_below_drewN | apply below_drew1) | exact HB.out)) hb); have n1_ := Aside0.mk (hbox); have n2_ := Aside0.mk ((by rw [hg]; exact (below_size (by repeat (first | (with_reducible first | exact HB.out | apply below_alloc | apply pw_below_drewN | apply below_drew1) | exact HB.out))) : w.heap.size ≤ gb161)); have n3_ := Aside0.mk ((by rw [hg]; exact (below_size (by repeat (first | (with_reducible first | exact HB.out | apply below_alloc | apply pw_below_drewN | apply below_drew1) | exact HB.out))) : w.heap.size ≤ gb161)); clear HB; have HB := n0_; have BK161 := n1_; have GW161 := n2_; have GE161 := n3_; clear n0_ n1_ n2_ n3_; clear hb hbox hg; have hcz14_0 : w13.cell? ⟨gb161, 0, none⟩ = some (.int .i64 a0_0) := (blk_cell BK161.out 0).trans rfl; have hcz14_1 : w13.cell? ⟨gb161, 1, none⟩ = some (.string a0_1) := (blk_cell BK161.out 1).trans rfl; have hcz14_2 : w13.cell? ⟨gb161, 2, none⟩ = some (.int .i64 a0_2) := (blk_cell BK161.out 2).trans rfl; have hfz14_0 := blk_frozen BK161.out 0; have hfz14_1 := blk_frozen BK161.out 1; have hfz14_2 := blk_frozen BK161.out 2))
        go_ret
        exact ⟨by first | rfl | (simp [errW_none, errW_some] <;> rfl) | (simp [*, errW_none, errW_some] <;> rfl), by repeat (first | (with_reducible first | exact HB.out | apply below_alloc | apply pw_below_drewN | apply below_drew1 | refine below_set ?_ GE161.out) | exact HB.out)⟩
      · rw [if_neg c12] at H
        have c12b0 : (a0_0 == 2) = false := beq_eq_false_iff_ne.mpr c12
        have c12b1 : (a0_0 != 2) = true := bne_iff_ne.mpr c12
        by_cases c15 : a0_0 = 3
        · rw [if_pos c15] at H
          have c15b0 : (a0_0 == 3) = true := beq_iff_eq.mpr c15
          have c15b1 : (a0_0 != 3) = false := bne_eq_false_iff_eq.mpr c15
          clear c15
          obtain rfl := Option.some.inj H
          go_enter Tryd.func25, Tryd.ntmps25
          go_wp2_with (first | ((with_reducible refine gate_dst (N := 1) rfl ?_); refine box_event ?hg (N := 1) ?hd (cs := #[.int .i64 a0_0, .string a0_1, .int .i64 a0_2]) (t := 45) ?hr ?_; (case hd => rfl); (case hg => rfl); (case hr => first | (go_simp; done) | (go_simp; rfl)); intro gb161 hg w16 hbox hb; have n0_ := Aside0.mk (below_step (by repeat (first | (with_reducible first | exact HB.out | apply below_alloc | apply pw_below_drewN | apply below_drew1) | exact HB.out)) hb); have n1_ := Aside0.mk (hbox); have n2_ := Aside0.mk ((by rw [hg]; exact (below_size (by repeat (first | (with_reducible first | exact HB.out | apply below_alloc | apply pw_below_drewN | apply below_drew1) | exact HB.out))) : w.heap.size ≤ gb161)); have n3_ := Aside0.mk ((by rw [hg]; exact (below_size (by repeat (first | (with_reducible first | exact HB.out | apply below_alloc | apply pw_below_drewN | apply below_drew1) | exact HB.out))) : w.heap.size ≤ gb161)); clear HB; have HB := n0_; have BK161 := n1_; have GW161 := n2_; have GE161 := n3_; clear n0_ n1_ n2_ n3_; clear hb hbox hg; have hcz17_0 : w16.cell? ⟨gb161, 0, none⟩ = some (.int .i64 a0_0) := (blk_cell BK161.out 0).trans rfl; have hcz17_1 : w16.cell? ⟨gb161, 1, none⟩ = some (.string a0_1) := (blk_cell BK161.out 1).trans rfl; have hcz17_2 : w16.cell? ⟨gb161, 2, none⟩ = some (.int .i64 a0_2) := (blk_cell BK161.out 2).trans rfl; have hfz17_0 := blk_frozen BK161.out 0; have hfz17_1 := blk_frozen BK161.out 1; have hfz17_2 := blk_frozen BK161.out 2))
          go_ret
          exact ⟨by first | rfl | (simp [errW_none, errW_some] <;> rfl) | (simp [*, errW_none, errW_some] <;> rfl), by repeat (first | (with_reducible first | exact HB.out | apply below_alloc | apply pw_below_drewN | apply below_drew1 | refine below_set ?_ GE161.out) | exact HB.out)⟩
        · rw [if_neg c15] at H
          have c15b0 : (a0_0 == 3) = false := beq_eq_false_iff_ne.mpr c15
          have c15b1 : (a0_0 != 3) = true := bne_iff_ne.mpr c15
          by_cases c18 : a0_0 = 4
          · rw [if_pos c18] at H
            have c18b0 : (a0_0 == 4) = true := beq_iff_eq.mpr c18
            have c18b1 : (a0_0 != 4) = false := bne_eq_false_iff_eq.mpr c18
            clear c18
            obtain rfl := Option.some.inj H
            go_enter Tryd.func25, Tryd.ntmps25
            go_wp2_with (first | ((with_reducible refine gate_dst (N := 1) rfl ?_); refine box_event ?hg (N := 1) ?hd (cs := #[.int .i64 a0_0, .string a0_1, .int .i64 a0_2]) (t := 45) ?hr ?_; (case hd => rfl); (case hg => rfl); (case hr => first | (go_simp; done) | (go_simp; rfl)); intro gb161 hg w19 hbox hb; have n0_ := Aside0.mk (below_step (by repeat (first | (with_reducible first | exact HB.out | apply below_alloc | apply pw_below_drewN | apply below_drew1) | exact HB.out)) hb); have n1_ := Aside0.mk (hbox); have n2_ := Aside0.mk ((by rw [hg]; exact (below_size (by repeat (first | (with_reducible first | exact HB.out | apply below_alloc | apply pw_below_drewN | apply below_drew1) | exact HB.out))) : w.heap.size ≤ gb161)); have n3_ := Aside0.mk ((by rw [hg]; exact (below_size (by repeat (first | (with_reducible first | exact HB.out | apply below_alloc | apply pw_below_drewN | apply below_drew1) | exact HB.out))) : w.heap.size ≤ gb161)); clear HB; have HB := n0_; have BK161 := n1_; have GW161 := n2_; have GE161 := n3_; clear n0_ n1_ n2_ n3_; clear hb hbox hg; have hcz20_0 : w19.cell? ⟨gb161, 0, none⟩ = some (.int .i64 a0_0) := (blk_cell BK161.out 0).trans rfl; have hcz20_1 : w19.cell? ⟨gb161, 1, none⟩ = some (.string a0_1) := (blk_cell BK161.out 1).trans rfl; have hcz20_2 : w19.cell? ⟨gb161, 2, none⟩ = some (.int .i64 a0_2) := (blk_cell BK161.out 2).trans rfl; have hfz20_0 := blk_frozen BK161.out 0; have hfz20_1 := blk_frozen BK161.out 1; have hfz20_2 := blk_frozen BK161.out 2))
            go_ret
            exact ⟨by first | rfl | (simp [errW_none, errW_some] <;> rfl) | (simp [*, errW_none, errW_some] <;> rfl), by repeat (first | (with_reducible first | exact HB.out | apply below_alloc | apply pw_below_drewN | apply below_drew1 | refine below_set ?_ GE161.out) | exact HB.out)⟩
          · rw [if_neg c18] at H
            have c18b0 : (a0_0 == 4) = false := beq_eq_false_iff_ne.mpr c18
            have c18b1 : (a0_0 != 4) = true := bne_iff_ne.mpr c18
            obtain rfl := Option.some.inj H
            go_enter Tryd.func25, Tryd.ntmps25
            go_wp2_with (first | ((with_reducible refine gate_dst (N := 1) rfl ?_); refine box_event ?hg (N := 1) ?hd (cs := #[.int .i64 a0_0, .string a0_1, .int .i64 a0_2]) (t := 45) ?hr ?_; (case hd => rfl); (case hg => rfl); (case hr => first | (go_simp; done) | (go_simp; rfl)); intro gb161 hg w21 hbox hb; have n0_ := Aside0.mk (below_step (by repeat (first | (with_reducible first | exact HB.out | apply below_alloc | apply pw_below_drewN | apply below_drew1) | exact HB.out)) hb); have n1_ := Aside0.mk (hbox); have n2_ := Aside0.mk ((by rw [hg]; exact (below_size (by repeat (first | (with_reducible first | exact HB.out | apply below_alloc | apply pw_below_drewN | apply below_drew1) | exact HB.out))) : w.heap.size ≤ gb161)); have n3_ := Aside0.mk ((by rw [hg]; exact (below_size (by repeat (first | (with_reducible first | exact HB.out | apply below_alloc | apply pw_below_drewN | apply below_drew1) | exact HB.out))) : w.heap.size ≤ gb161)); clear HB; have HB := n0_; have BK161 := n1_; have GW161 := n2_; have GE161 := n3_; clear n0_ n1_ n2_ n3_; clear hb hbox hg; have hcz22_0 : w21.cell? ⟨gb161, 0, none⟩ = some (.int .i64 a0_0) := (blk_cell BK161.out 0).trans rfl; have hcz22_1 : w21.cell? ⟨gb161, 1, none⟩ = some (.string a0_1) := (blk_cell BK161.out 1).trans rfl; have hcz22_2 : w21.cell? ⟨gb161, 2, none⟩ = some (.int .i64 a0_2) := (blk_cell BK161.out 2).trans rfl; have hfz22_0 := blk_frozen BK161.out 0; have hfz22_1 := blk_frozen BK161.out 1; have hfz22_2 := blk_frozen BK161.out 2))
            go_ret
            exact ⟨by first | rfl | (simp [errW_none, errW_some] <;> rfl) | (simp [*, errW_none, errW_some] <;> rfl), by repeat (first | (with_reducible first | exact HB.out | apply below_alloc | apply pw_below_drewN | apply below_drew1 | refine below_set ?_ GE161.out) | exact HB.out)⟩

end Go.Proofs.YtghdnijdbmekjaaDoor.H
