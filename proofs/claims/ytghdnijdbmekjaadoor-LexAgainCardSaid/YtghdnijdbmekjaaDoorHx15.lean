-- Written for this claim by a program of this session over the kit's printer.
import Derived.Test.YtghdnijdbmekjaaDoorHx0
import Derived.Test.YtghdnijdbmekjaaDoorHx14
namespace Go.Proofs.YtghdnijdbmekjaaDoor.H
open Go.RowKit Go.Proofs.YtghdnijdbmekjaaDoorW.PrintWords Go.Proofs.YtghdnijdbmekjaaDoorW.PrintLast Go.Proofs.YtghdnijdbmekjaaDoorW.PrintMore
attribute [local go_sem] max2_int min2_int max_two min_two max_three min_three max_four min_four   -- for this text's walks alone
attribute [local go_sem] Go.Proofs.YtghdnijdbmekjaaDoorOwn.isSome_setCell
set_option linter.unusedVariables false
set_option linter.unusedSimpArgs false

/-! ### wickerref01_Unquote: function 20 -/
mutual
def wickerref01_Unquote.j0 : Nat → ByteArray → Bool → Option (ByteArray × Int × Int)
  | 0, _, _ => none
  | k + 1, x0, x19 => if x19 = true then (some ((⟨#[]⟩ : ByteArray), 0, 6)) else (wickerref01_Unquote.l0 k x0 ([] : List Int) 1)
def wickerref01_Unquote.l0 : Nat → ByteArray → List Int → Int → Option (ByteArray × Int × Int)
  | 0, _, _, _ => none
  | k + 1, x0, x5, x6 => if x6 < (x0.size : Int) then (if 0 ≤ x6 then (if (bt x0 x6) = 34 then ((wickerref01_Mark.f (strOfNums x5)).bind fun t189 => (if t189 = true then (some (strOfNums x5, wrap64 (x6 + 1), 0)) else (some ((⟨#[]⟩ : ByteArray), 0, 5)))) else (if (bt x0 x6) = 92 then (if (wrap64 (x6 + 1)) = (x0.size : Int) then (some ((⟨#[]⟩ : ByteArray), 0, 7)) else (if 0 ≤ (wrap64 (x6 + 1)) then (if (wrap64 (x6 + 1)) < (x0.size : Int) then (if (bt x0 (wrap64 (x6 + 1))) = 34 then (wickerref01_Unquote.j2 k x0 x5 (wrap64 ((wrap64 (x6 + 1)) + 1)) (bt x0 (wrap64 (x6 + 1))) (bt x0 (wrap64 (x6 + 1))) ((bt x0 (wrap64 (x6 + 1))) == 34)) else (wickerref01_Unquote.j2 k x0 x5 (wrap64 ((wrap64 (x6 + 1)) + 1)) (bt x0 (wrap64 (x6 + 1))) (bt x0 (wrap64 (x6 + 1))) ((bt x0 (wrap64 (x6 + 1))) == 92))) else (none)) else (none))) else (if (bt x0 x6) < 32 then (some ((⟨#[]⟩ : ByteArray), 0, 4)) else (if (bt x0 x6) > 126 then (some ((⟨#[]⟩ : ByteArray), 0, 4)) else (if x5.length < 140737488355328 then (wickerref01_Unquote.l0 k x0 (x5 ++ [bt x0 x6]) (wrap64 (x6 + 1))) else (none)))))) else (none)) else (some ((⟨#[]⟩ : ByteArray), 0, 7))
def wickerref01_Unquote.j2 : Nat → ByteArray → List Int → Int → Int → Int → Bool → Option (ByteArray × Int × Int)
  | 0, _, _, _, _, _, _ => none
  | k + 1, x0, x5, x6, x8, x59, x60 => if x60 = true then (if x5.length < 140737488355328 then (wickerref01_Unquote.l0 k x0 (x5 ++ [x8]) x6) else (none)) else (if x59 = 110 then (if x5.length < 140737488355328 then (wickerref01_Unquote.l0 k x0 (x5 ++ [10]) x6) else (none)) else (if x59 = 116 then (if x5.length < 140737488355328 then (wickerref01_Unquote.l0 k x0 (x5 ++ [9]) x6) else (none)) else (if x59 = 120 then (wickerref01_Unquote.l1 k x0 x5 x6 0 0) else (some ((⟨#[]⟩ : ByteArray), 0, 4)))))
def wickerref01_Unquote.l1 : Nat → ByteArray → List Int → Int → Int → Int → Option (ByteArray × Int × Int)
  | 0, _, _, _, _, _ => none
  | k + 1, x0, x5, x6, x9, x10 => if x10 < 2 then (if x6 = (x0.size : Int) then (some ((⟨#[]⟩ : ByteArray), 0, 7)) else (if 0 ≤ x6 then (if x6 < (x0.size : Int) then ((wickerref01_digit.f k (bt x0 x6)).bind fun t205 => (if t205 < 0 then (some ((⟨#[]⟩ : ByteArray), 0, 4)) else (wickerref01_Unquote.l1 k x0 x5 (wrap64 (x6 + 1)) (wrap64 ((wrap64 (x9 * 16)) + t205)) (wrap64 (x10 + 1))))) else (none)) else (none))) else (if x5.length < 140737488355328 then (wickerref01_Unquote.l0 k x0 (x5 ++ [(x9) % 256]) x6) else (none))
end
def wickerref01_Unquote.f (k : Nat) (a0 : ByteArray) : Option (ByteArray × Int × Int) := if (a0.size : Int) = 0 then (wickerref01_Unquote.j0 k a0 true) else (if 0 < (a0.size : Int) then (wickerref01_Unquote.j0 k a0 ((bt a0 0) != 34)) else (none))
theorem wickerref01_Unquote.mono_l : ∀ k, (∀ y0 y1, LeO (wickerref01_Unquote.j0 k y0 y1) (wickerref01_Unquote.j0 (k + 1) y0 y1)) ∧ (∀ y0 y1 y2, LeO (wickerref01_Unquote.l0 k y0 y1 y2) (wickerref01_Unquote.l0 (k + 1) y0 y1 y2)) ∧ (∀ y0 y1 y2 y3 y4 y5, LeO (wickerref01_Unquote.j2 k y0 y1 y2 y3 y4 y5) (wickerref01_Unquote.j2 (k + 1) y0 y1 y2 y3 y4 y5)) ∧ (∀ y0 y1 y2 y3 y4, LeO (wickerref01_Unquote.l1 k y0 y1 y2 y3 y4) (wickerref01_Unquote.l1 (k + 1) y0 y1 y2 y3 y4))
  | 0 => ⟨fun _ _ r h => by simp [wickerref01_Unquote.j0] at h, fun _ _ _ r h => by simp [wickerref01_Unquote.l0] at h, fun _ _ _ _ _ _ r h => by simp [wickerref01_Unquote.j2] at h, fun _ _ _ _ _ r h => by simp [wickerref01_Unquote.l1] at h⟩
  | k + 1 => by
    obtain ⟨ih0, ih1, ih2, ih3⟩ := wickerref01_Unquote.mono_l k
    refine ⟨?_, ?_, ?_, ?_⟩
    · intro y0 y1
      unfold wickerref01_Unquote.j0
      repeat' first
      | (with_reducible exact ih0 _ _)
      | (with_reducible exact ih1 _ _ _)
      | (with_reducible exact ih2 _ _ _ _ _ _)
      | (with_reducible exact ih3 _ _ _ _ _)
      | (with_reducible exact wickerref01_digit.mono _ _)
      | (with_reducible exact LeO.refl _)
      | (with_reducible exact LeO.none _)
      | (with_reducible refine LeO.ite ?_ ?_)
      | (with_reducible refine LeO.bind ?_ (fun _ => ?_))
      | exact ih0 _ _
      | exact ih1 _ _ _
      | exact ih2 _ _ _ _ _ _
      | exact ih3 _ _ _ _ _
      | exact wickerref01_digit.mono _ _
      | exact LeO.none _
      | refine LeO.ite ?_ ?_
      | refine LeO.bind ?_ (fun _ => ?_)
    · intro y0 y1 y2
      unfold wickerref01_Unquote.l0
      repeat' first
      | (with_reducible exact ih0 _ _)
      | (with_reducible exact ih1 _ _ _)
      | (with_reducible exact ih2 _ _ _ _ _ _)
      | (with_reducible exact ih3 _ _ _ _ _)
      | (with_reducible exact wickerref01_digit.mono _ _)
      | (with_reducible exact LeO.refl _)
      | (with_reducible exact LeO.none _)
      | (with_reducible refine LeO.ite ?_ ?_)
      | (with_reducible refine LeO.bind ?_ (fun _ => ?_))
      | exact ih0 _ _
      | exact ih1 _ _ _
      | exact ih2 _ _ _ _ _ _
      | exact ih3 _ _ _ _ _
      | exact wickerref01_digit.mono _ _
      | exact LeO.none _
      | refine LeO.ite ?_ ?_
      | refine LeO.bind ?_ (fun _ => ?_)
    · intro y0 y1 y2 y3 y4 y5
      unfold wickerref01_Unquote.j2
      repeat' first
      | (with_reducible exact ih0 _ _)
      | (with_reducible exact ih1 _ _ _)
      | (with_reducible exact ih2 _ _ _ _ _ _)
      | (with_reducible exact ih3 _ _ _ _ _)
      | (with_reducible exact wickerref01_digit.mono _ _)
      | (with_reducible exact LeO.refl _)
      | (with_reducible exact LeO.none _)
      | (with_reducible refine LeO.ite ?_ ?_)
      | (with_reducible refine LeO.bind ?_ (fun _ => ?_))
      | exact ih0 _ _
      | exact ih1 _ _ _
      | exact ih2 _ _ _ _ _ _
      | exact ih3 _ _ _ _ _
      | exact wickerref01_digit.mono _ _
      | exact LeO.none _
      | refine LeO.ite ?_ ?_
      | refine LeO.bind ?_ (fun _ => ?_)
    · intro y0 y1 y2 y3 y4
      unfold wickerref01_Unquote.l1
      repeat' first
      | (with_reducible exact ih0 _ _)
      | (with_reducible exact ih1 _ _ _)
      | (with_reducible exact ih2 _ _ _ _ _ _)
      | (with_reducible exact ih3 _ _ _ _ _)
      | (with_reducible exact wickerref01_digit.mono _ _)
      | (with_reducible exact LeO.refl _)
      | (with_reducible exact LeO.none _)
      | (with_reducible refine LeO.ite ?_ ?_)
      | (with_reducible refine LeO.bind ?_ (fun _ => ?_))
      | exact ih0 _ _
      | exact ih1 _ _ _
      | exact ih2 _ _ _ _ _ _
      | exact ih3 _ _ _ _ _
      | exact wickerref01_digit.mono _ _
      | exact LeO.none _
      | refine LeO.ite ?_ ?_
      | refine LeO.bind ?_ (fun _ => ?_)
theorem wickerref01_Unquote.mono : ∀ a0 k, LeO (wickerref01_Unquote.f k a0) (wickerref01_Unquote.f (k + 1) a0) := by
  intro a0 k
  obtain ⟨ih0, ih1, ih2, ih3⟩ := wickerref01_Unquote.mono_l k
  unfold wickerref01_Unquote.f
  repeat' first
      | (with_reducible exact ih0 _ _)
      | (with_reducible exact ih1 _ _ _)
      | (with_reducible exact ih2 _ _ _ _ _ _)
      | (with_reducible exact ih3 _ _ _ _ _)
      | (with_reducible exact wickerref01_digit.mono _ _)
      | (with_reducible exact LeO.refl _)
      | (with_reducible exact LeO.none _)
      | (with_reducible refine LeO.ite ?_ ?_)
      | (with_reducible refine LeO.bind ?_ (fun _ => ?_))
      | exact ih0 _ _
      | exact ih1 _ _ _
      | exact ih2 _ _ _ _ _ _
      | exact ih3 _ _ _ _ _
      | exact wickerref01_digit.mono _ _
      | exact LeO.none _
      | refine LeO.ite ?_ ?_
      | refine LeO.bind ?_ (fun _ => ?_)
set_option maxHeartbeats 8000000 in
set_option maxRecDepth 100000 in
theorem wickerref01_Unquote.calls (k : Nat) (a0 : ByteArray) (r1 : ByteArray) (r2 : Int) (r3 : Int) (w : World) (h : wickerref01_Unquote.f k a0 = some (r1, r2, r3)) :
    Calls Tryd.prog 20 #[.string a0] w fun e w' => e = .returned (.tuple #[.string r1, .int .i64 r2, .int .i64 r3]) ∧ Below w.heap.size w w' := by
  have HB := Aside0.mk (Below.refl w.heap.size w)
  have H : (if (a0.size : Int) = 0 then (wickerref01_Unquote.j0 k a0 true) else (if 0 < (a0.size : Int) then (wickerref01_Unquote.j0 k a0 ((bt a0 0) != 34)) else (none))) = some (r1, r2, r3) := h
  clear h
  have HC2 := Aside0.mk H
  clear H
  go_enter Tryd.func20, Tryd.ntmps20
  go_upto_region 1 with (fail)
  go_cut [19] (fun v19 wc => ∃ (kq : Nat) (x19_1 : Bool), v19 = .bool x19_1 ∧ Aside0 (wickerref01_Unquote.j0 kq a0 x19_1 = some (r1, r2, r3)) ∧ Aside0 (kq ≤ k) ∧ Aside0 (Below w.heap.size w wc))
  case first =>
    have H := HC2.out
    clear HC2
    by_cases c3 : (a0.size : Int) = 0
    · rw [if_pos c3] at H
      have c3b0 : ((a0.size : Int) == 0) = true := beq_iff_eq.mpr c3
      have c3b1 : ((a0.size : Int) != 0) = false := bne_eq_false_iff_eq.mpr c3
      clear c3
      (first | rw [c3b0] | (simp only [i64_w, i32_w]; rw [c3b0]) | skip)
      have H' := Aside0.mk H
      clear H
      go_wp2
      go_meet
      case rel => exact ⟨_, (true), (by first | rfl | (simp; done) | (simp [*]; done)), H', ⟨by first | omega | exact Nat.le_refl _⟩, ⟨by repeat (first | (with_reducible first | exact HB.out | apply below_alloc | apply pw_below_drewN | apply below_drew1) | exact HB.out)⟩⟩
    · rw [if_neg c3] at H
      have c3b0 : ((a0.size : Int) == 0) = false := beq_eq_false_iff_ne.mpr c3
      have c3b1 : ((a0.size : Int) != 0) = true := bne_iff_ne.mpr c3
      (first | rw [c3b0] | (simp only [i64_w, i32_w]; rw [c3b0]) | skip)
      by_cases c4 : 0 < (a0.size : Int)
      · rw [if_pos c4] at H
        have c4b0 : decide (0 < (a0.size : Int)) = true := decide_eq_true c4
        have c4b1 : decide (0 < a0.size) = true := decide_eq_true (by omega)
        clear c4
        have H' := Aside0.mk H
        clear H
        have p5 : 0 ≤ (0 : Int) := (by omega)
        have q5 : 0 < a0.size := (by have : (0 : Int) < (a0.size : Int) := of_decide_eq_true (by first | (with_reducible assumption) | assumption); omega)
        have hx5 : ∀ h : 0 < a0.size, ((a0[0]'h).toNat : Int) = bt a0 0 := bt_at a0 0
        clear p5
        have qi5 : (0 < (a0.size : Int)) = True := eq_true (of_decide_eq_true (by first | (with_reducible assumption) | assumption))
        replace q5 := eq_true q5
        go_wp2
        go_meet
        case rel => exact ⟨_, (((bt a0 0) != 34)), (by first | rfl | (simp; done) | (simp [*]; done)), H', ⟨by first | omega | exact Nat.le_refl _⟩, ⟨by repeat (first | (with_reducible first | exact HB.out | apply below_alloc | apply pw_below_drewN | apply below_drew1) | exact HB.out)⟩⟩
      · rw [if_neg c4] at H
        exact absurd H (by simp)
  case rest =>
    clear HC2
    try clear c2
    try clear p2
    try clear c3
    try clear c3b0
    try clear c3b1
    try clear c4
    try clear c4b0
    try clear c4b1
    try clear p5
    try clear q5
    try clear hx5
    try clear qi5
    try clear p5
    try clear q5
    obtain ⟨kq, x19_1, rfl, HA, HJ1, HB⟩ := hcut
    cases kq with
    | zero => exact absurd HA.out (by simp [wickerref01_Unquote.j0])
    | succ kj1 =>
      have H := HA.out
      clear HA
      simp only [wickerref01_Unquote.j0] at H
      by_cases c6 : x19_1 = true
      · subst c6
        have H1 : (some ((⟨#[]⟩ : ByteArray), 0, 6)) = some (r1, r2, r3) := by rw [if_pos rfl] at H; exact H
        clear H
        have H := H1
        clear H1
        simp only [Option.some.injEq, Prod.mk.injEq] at H
        obtain ⟨rfl, rfl, rfl⟩ := H
        go_wp2
        go_ret3
        exact ⟨by first | rfl | (simp [errW_none, errW_some] <;> rfl) | (simp [*, errW_none, errW_some] <;> rfl), by repeat (first | (with_reducible first | exact HB.out | apply below_alloc | apply pw_below_drewN | apply below_drew1) | exact HB.out)⟩
      · replace c6 := Bool.eq_false_iff.mpr c6
        subst c6
        have H1 : (wickerref01_Unquote.l0 kj1 a0 ([] : List Int) 1) = some (r1, r2, r3) := by rw [if_neg (show ¬ (false = true) by decide)] at H; exact H
        clear H
        have H := H1
        clear H1
        have H' := Aside0.mk H
        clear H
        go_wp2
        go_loopg [5, 6] kj1 (fun kq v5 v6 w' => ∃ (x5_2 : List Int) (x6_2 : Int), v6 = .int .i64 x6_2 ∧ Aside0 (wickerref01_Unquote.l0 kq a0 x5_2 x6_2 = some (r1, r2, r3)) ∧ Aside0 (kq ≤ kj1) ∧ Aside0 (Kd.R (Kd.int .u8) 5 w' w.heap.size (fun _ => True) v5 x5_2) ∧ Aside0 (Below w.heap.size w w'))
        case atStart => exact ⟨(([] : List Int)), (1), (by first | rfl | (simp; done) | (simp [*]; done)), H', ⟨Nat.le_refl _⟩, ⟨by first | exact Kd.R_nil _ _ _ _ _ | exact Kd.N_nil _ _ _ _ _ | exact Kd.V_nil _ _ _ _ _ | exact Kd.Q_nil _ _ _ _ _ | exact Kd.S_nil _ _ _ _ _⟩, ⟨by repeat (first | (with_reducible first | exact HB.out | apply below_alloc | apply pw_below_drewN | apply below_drew1) | exact HB.out)⟩⟩
        case round =>
          clear H'
          try clear c2
          try clear p2
          try clear c3
          try clear c3b0
          try clear c3b1
          try clear c4
          try clear c4b0
          try clear c4b1
          try clear p5
          try clear q5
          try clear hx5
          try clear qi5
          try clear c6
          try clear p2
          try clear p5
          try clear q5
          obtain ⟨x5_2, x6_2, rfl, HA, HK2, HO_5, HB⟩ := hrel
          cases gk with
          | zero => exact absurd HA.out (by simp [wickerref01_Unquote.l0])
          | succ k2 =>
            have H := HA.out
            clear HA
            simp only [wickerref01_Unquote.l0] at H
            by_cases c7 : x6_2 < (a0.size : Int)
            · rw [if_pos c7] at H
              have c7b0 : decide (x6_2 < (a0.size : Int)) = true := decide_eq_true c7
              clear c7
              by_cases c8 : 0 ≤ x6_2
              · rw [if_pos c8] at H
                have c8b0 : decide (0 ≤ x6_2) = true := decide_eq_true c8
                clear c8
                by_cases c10 : (bt a0 x6_2) = 34
                · rw [if_pos c10] at H
                  have c10b0 : ((bt a0 x6_2) == 34) = true := beq_iff_eq.mpr c10
                  have c10b1 : ((bt a0 x6_2) != 34) = false := bne_eq_false_iff_eq.mpr c10
                  clear c10
                  replace H := Option.bind_eq_some_iff.mp H
                  obtain ⟨t189, A110, H⟩ := H
                  replace H : (if t189 = true then (some (strOfNums x5_2, wrap64 (x6_2 + 1), 0)) else (some ((⟨#[]⟩ : ByteArray), 0, 5))) = some (r1, r2, r3) := H
                  have A11 := Aside0.mk A110
                  clear A110
                  by_cases c12 : t189 = true
                  · subst c12
                    have H1 : (some (strOfNums x5_2, wrap64 (x6_2 + 1), 0)) = some (r1, r2, r3) := by rw [if_pos rfl] at H; exact H
                    clear H
                    have H := H1
                    clear H1
                    simp only [Option.some.injEq, Prod.mk.injEq] at H
                    obtain ⟨rfl, rfl, rfl⟩ := H
                    have p9 : 0 ≤ (x6_2 : Int) := of_decide_eq_true (by first | (with_reducible assumption) | assumption)
                    have q9 : x6_2 < (a0.size : Int) := of_decide_eq_true (by first | (with_reducible assumption) | assumption)
                    have hx9 := bt_at a0 x6_2
                    replace p9 := eq_true p9
                    replace q9 := eq_true q9
                    have hcv13 := own_string (P := Tryd.prog) Tryd.underlying47 Tryd.underlying5 Tryd.underlying9 (Kd.own_of_R HO_5.out)
                    have hcw13 := Go.Proofs.YtghdnijdbmekjaaDoorOwn.own_stringD (P := Tryd.prog) Tryd.underlying47 Tryd.underlying5 Tryd.underlying9 (Kd.own_of_R HO_5.out)
                    go_wp2_with (first | ((with_reducible refine gate_callee (f := 16) rfl ?_); refine goesL_ (some 33) rfl rfl Tryd.func16 (by kernel_rfl) rfl #[.string (strOfNums x5_2)] rfl (by (try simp only [List.map_toArray, List.map_cons, List.map_nil]); first | done | rfl | (simp only [List.length_drop, List.length_take]; rfl)) ?_; (with_reducible refine (wickerref01_Mark.calls (strOfNums x5_2) true _ A11.out).mono ?_); rintro e w' ⟨rfl, ⟨nd, rfl⟩⟩; refine ⟨_, rfl, ?_⟩; have hcv14 := own_string (P := Tryd.prog) Tryd.underlying47 Tryd.underlying5 Tryd.underlying9 (Kd.own_of_R HO_5.out); have hcw14 := Go.Proofs.YtghdnijdbmekjaaDoorOwn.own_stringD (P := Tryd.prog) Tryd.underlying47 Tryd.underlying5 Tryd.underlying9 (Kd.own_of_R HO_5.out)))
                    go_ret3
                    exact ⟨by first | rfl | (simp [errW_none, errW_some] <;> rfl) | (simp [*, errW_none, errW_some] <;> rfl), by repeat (first | (with_reducible first | exact HB.out | apply below_alloc | apply pw_below_drewN | apply below_drew1) | exact HB.out)⟩
                  · replace c12 := Bool.eq_false_iff.mpr c12
                    subst c12
                    have H1 : (some ((⟨#[]⟩ : ByteArray), 0, 5)) = some (r1, r2, r3) := by rw [if_neg (show ¬ (false = true) by decide)] at H; exact H
                    clear H
                    have H := H1
                    clear H1
                    simp only [Option.some.injEq, Prod.mk.injEq] at H
                    obtain ⟨rfl, rfl, rfl⟩ := H
                    have p9 : 0 ≤ (x6_2 : Int) := of_decide_eq_true (by first | (with_reducible assumption) | assumption)
                    have q9 : x6_2 < (a0.size : Int) := of_decide_eq_true (by first | (with_reducible assumption) | assumption)
                    have hx9 := bt_at a0 x6_2
                    replace p9 := eq_true p9
                    replace q9 := eq_true q9
                    have hcv15 := own_string (P := Tryd.prog) Tryd.underlying47 Tryd.underlying5 Tryd.underlying9 (Kd.own_of_R HO_5.out)
                    have hcw15 := Go.Proofs.YtghdnijdbmekjaaDoorOwn.own_stringD (P := Tryd.prog) Tryd.underlying47 Tryd.underlying5 Tryd.underlying9 (Kd.own_of_R HO_5.out)
                    go_wp2_with (first | ((with_reducible refine gate_callee (f := 16) rfl ?_); refine goesL_ (some 33) rfl rfl Tryd.func16 (by kernel_rfl) rfl #[.string (strOfNums x5_2)] rfl (by (try simp only [List.map_toArray, List.map_cons, List.map_nil]); first | done | rfl | (simp only [List.length_drop, List.length_take]; rfl)) ?_; (with_reducible refine (wickerref01_Mark.calls (strOfNums x5_2) false _ A11.out).mono ?_); rintro e w' ⟨rfl, ⟨nd, rfl⟩⟩; refine ⟨_, rfl, ?_⟩))
                    go_ret3
                    exact ⟨by first | rfl | (simp [errW_none, errW_some] <;> rfl) | (simp [*, errW_none, errW_some] <;> rfl), by repeat (first | (with_reducible first | exact HB.out | apply below_alloc | apply pw_below_drewN | apply below_drew1) | exact HB.out)⟩
                · rw [if_neg c10] at H
                  have c10b0 : ((bt a0 x6_2) == 34) = false := beq_eq_false_iff_ne.mpr c10
                  have c10b1 : ((bt a0 x6_2) != 34) = true := bne_iff_ne.mpr c10
                  by_cases c16 : (bt a0 x6_2) = 92
                  · rw [if_pos c16] at H
                    have c16b0 : ((bt a0 x6_2) == 92) = true := beq_iff_eq.mpr c16
                    have c16b1 : ((bt a0 x6_2) != 92) = false := bne_eq_false_iff_eq.mpr c16
                    clear c16
                    by_cases c17 : (wrap64 (x6_2 + 1)) = (a0.size : Int)
                    · rw [if_pos c17] at H
                      have c17b0 : ((wrap64 (x6_2 + 1)) == (a0.size : Int)) = true := beq_iff_eq.mpr c17
                      have c17b1 : ((wrap64 (x6_2 + 1)) != (a0.size : Int)) = false := bne_eq_false_iff_eq.mpr c17
                      clear c17
                      simp only [Option.some.injEq, Prod.mk.injEq] at H
                      obtain ⟨rfl, rfl, rfl⟩ := H
                      have p9 : 0 ≤ (x6_2 : Int) := of_decide_eq_true (by first | (with_reducible assumption) | assumption)
                      have q9 : x6_2 < (a0.size : Int) := of_decide_eq_true (by first | (with_reducible assumption) | assumption)
                      have hx9 := bt_at a0 x6_2
                      replace p9 := eq_true p9
                      replace q9 := eq_true q9
                      go_wp2
                      go_ret3
                      exact ⟨by first | rfl | (simp [errW_none, errW_some] <;> rfl) | (simp [*, errW_none, errW_some] <;> rfl), by repeat (first | (with_reducible first | exact HB.out | apply below_alloc | apply pw_below_drewN | apply below_drew1) | exact HB.out)⟩
                    · rw [if_neg c17] at H
                      have c17b0 : ((wrap64 (x6_2 + 1)) == (a0.size : Int)) = false := beq_eq_false_iff_ne.mpr c17
                      have c17b1 : ((wrap64 (x6_2 + 1)) != (a0.size : Int)) = true := bne_iff_ne.mpr c17
                      obtain ⟨ji18, hji18⟩ : ∃ j_ : Int, (wrap64 (x6_2 + 1)) = j_ := ⟨_, rfl⟩
                      replace H : (if 0 ≤ (ji18) then (if (ji18) < (a0.size : Int) then (if (bt a0 (ji18)) = 34 then (wickerref01_Unquote.j2 k2 a0 x5_2 (wrap64 ((ji18) + 1)) (bt a0 (ji18)) (bt a0 (ji18)) ((bt a0 (ji18)) == 34)) else (wickerref01_Unquote.j2 k2 a0 x5_2 (wrap64 ((ji18) + 1)) (bt a0 (ji18)) (bt a0 (ji18)) ((bt a0 (ji18)) == 92))) else (none)) else (none)) = some (r1, r2, r3) := by first | (rw [hji18] at H; exact H) | (simp only [hji18] at H ⊢; exact H)
                      (try rw [hji18] at c17b0)
                      (try rw [hji18] at c17b1)
                      have hji18w : (IntKind.i64.wrap (x6_2 + 1)) = ji18 := (i64_w _).trans hji18
                      by_cases c19 : 0 ≤ (ji18)
                      · rw [if_pos c19] at H
                        have c19b0 : decide (0 ≤ (ji18)) = true := decide_eq_true c19
                        clear c19
                        by_cases c20 : (ji18) < (a0.size : Int)
                        · rw [if_pos c20] at H
                          have c20b0 : decide ((ji18) < (a0.size : Int)) = true := decide_eq_true c20
                          clear c20
                          have HC22 := Aside0.mk H
                          clear H
                          have p9 : 0 ≤ (x6_2 : Int) := of_decide_eq_true (by first | (with_reducible assumption) | assumption)
                          have q9 : x6_2 < (a0.size : Int) := of_decide_eq_true (by first | (with_reducible assumption) | assumption)
                          have hx9 := bt_at a0 x6_2
                          replace p9 := eq_true p9
                          replace q9 := eq_true q9
                          have p21 : 0 ≤ ((ji18) : Int) := of_decide_eq_true (by first | (with_reducible assumption) | assumption)
                          have q21 : (ji18) < (a0.size : Int) := of_decide_eq_true (by first | (with_reducible assumption) | assumption)
                          have hx21 := bt_at a0 (ji18)
                          replace p21 := eq_true p21
                          replace q21 := eq_true q21
                          go_upto_if 60 with (fail)
                          go_cut [60] (fun v60 wc => ∃ (kq : Nat) (x60_21 : Bool), v60 = .bool x60_21 ∧ Aside0 (wickerref01_Unquote.j2 kq a0 x5_2 (wrap64 ((ji18) + 1)) (bt a0 (ji18)) (bt a0 (ji18)) x60_21 = some (r1, r2, r3)) ∧ Aside0 (kq ≤ k2) ∧ Aside0 (Kd.R (Kd.int .u8) 5 wc w.heap.size (fun _ => True) u5 x5_2) ∧ Aside0 (Below w.heap.size w wc))
                          case first =>
                            have H := HC22.out
                            clear HC22
                            by_cases c23 : (bt a0 (ji18)) = 34
                            · rw [if_pos c23] at H
                              have c23b0 : ((bt a0 (ji18)) == 34) = true := beq_iff_eq.mpr c23
                              have c23b1 : ((bt a0 (ji18)) != 34) = false := bne_eq_false_iff_eq.mpr c23
                              clear c23
                              (first | rw [c23b0] | (simp only [i64_w, i32_w]; rw [c23b0]) | skip)
                              have H' := Aside0.mk H
                              clear H
                              go_wp2
                              go_meet
                              case rel => exact ⟨_, (((bt a0 (ji18)) == 34)), (by first | rfl | (simp; done) | (simp only [← hji18] <;> (first | rfl | (simp; done) | (simp [*]; done))) | (simp [*]; done)), H', ⟨by have := HJ1.out; have := HK2.out; first | omega | exact Nat.le_refl _⟩, ⟨by (with_reducible repeat (first | apply Kd.R_alloc | apply Kd.R_drewN | apply Kd.R_drew)); exact HO_5.out⟩, ⟨by repeat (first | (with_reducible first | exact HB.out | apply below_alloc | apply pw_below_drewN | apply below_drew1) | exact HB.out)⟩⟩
                            · rw [if_neg c23] at H
                              have c23b0 : ((bt a0 (ji18)) == 34) = false := beq_eq_false_iff_ne.mpr c23
                              have c23b1 : ((bt a0 (ji18)) != 34) = true := bne_iff_ne.mpr c23
                              (first | rw [c23b0] | (simp only [i64_w, i32_w]; rw [c23b0]) | skip)
                              have H' := Aside0.mk H
                              clear H
                              go_wp2
                              go_meet
                              case rel => exact ⟨_, (((bt a0 (ji18)) == 92)), (by first | rfl | (simp; done) | (simp only [← hji18] <;> (first | rfl | (simp; done) | (simp [*]; done))) | (simp [*]; done)), H', ⟨by have := HJ1.out; have := HK2.out; first | omega | exact Nat.le_refl _⟩, ⟨by (with_reducible repeat (first | apply Kd.R_alloc | apply Kd.R_drewN | apply Kd.R_drew)); exact HO_5.out⟩, ⟨by repeat (first | (with_reducible first | exact HB.out | apply below_alloc | apply pw_below_drewN | apply below_drew1) | exact HB.out)⟩⟩
                          case rest =>
                            clear HC22
                            try clear c1
                            try clear hcv1
                            try clear c2
                            try clear p2
                            try clear q2
                            try clear hx2
                            try clear c3
                            try clear c3b0
                            try clear c3b1
                            try clear c4
                            try clear c4b0
                            try clear c4b1
                            try clear p5
                            try clear q5
                            try clear hx5
                            try clear qi5
                            try clear c6
                            try clear p6
                            try clear c7
                            try clear c7b0
                            try clear c8
                            try clear c8b0
                            try clear p9
                            try clear q9
                            try clear hx9
                            try clear c10
                            try clear c10b0
                            try clear c10b1
                            try clear c12
                            try clear hcv13
                            try clear hcv14
                            try clear hcv15
                            try clear c16
                            try clear c16b0
                            try clear c16b1
                            try clear c17
                            try clear c17b0
                            try clear c17b1
                            try clear c19
                            try clear c19b0
                            try clear c20
                            try clear c20b0
                            try clear p21
                            try clear q21
                            try clear hx21
                            try clear c23
                            try clear c23b0
                            try clear c23b1
                            try clear p2
                            try clear p21
                            try clear p5
                            try clear p9
                            try clear q21
                            try clear q5
                            try clear q9
                            obtain ⟨kq, x60_21, rfl, HA, HJ21, HO_5, HB⟩ := hcut
                            cases kq with
                            | zero => exact absurd HA.out (by simp [wickerref01_Unquote.j2])
                            | succ kj21 =>
                              have H := HA.out
                              clear HA
                              simp only [wickerref01_Unquote.j2] at H
                              by_cases c24 : x60_21 = true
                              · subst c24
                                have H1 : (if x5_2.length < 140737488355328 then (wickerref01_Unquote.l0 kj21 a0 (x5_2 ++ [(bt a0 (ji18))]) (wrap64 ((ji18) + 1))) else (none)) = some (r1, r2, r3) := by rw [if_pos rfl] at H; exact H
                                clear H
                                have H := H1
                                clear H1
                                by_cases c25 : x5_2.length < 140737488355328
                                · rw [if_pos c25] at H
                                  have LMc25 := Aside0.mk c25
                                  clear c25
                                  obtain ⟨y193, hy193⟩ : ∃ y_ : List Int, y_ = (x5_2 ++ [(bt a0 (ji18))]) := ⟨_, rfl⟩
                                  replace H : (wickerref01_Unquote.l0 kj21 a0 y193 (wrap64 ((ji18) + 1))) = some (r1, r2, r3) := by first | (rw [hy193]; with_reducible exact H) | (have H2_ := (Option.bind_some _ _).symm.trans H; rw [hy193]; with_reducible exact H2_) | (have H2_ := (Option.bind_some _ _).symm.trans H; with_reducible exact H2_) | with_reducible exact H | (rw [hy193]; exact H) | exact H
                                  have Ny193 := Aside0.mk hy193
                                  clear hy193
                                  have H' := Aside0.mk H
                                  clear H
                                  go_wp2_with (first | ((with_reducible refine gate_builtin (b := .append) (xs := #[.tmp 63, .tmp 65]) rfl ?_); at_builtin; refine Kd.R_append (Kd.int .u8) (w0 := w) w.heap.size rfl (.tmp 63) (.tmp 65) 47 5 (.int .u8 0) 1 rfl Tryd.underlying47 info5 rfl (by decide) (by omega) u5 x5_2 (bt a0 (ji18)) [.int .u8 (bt a0 (ji18))] (fun _ => True) (fun _ => False) rfl rfl ?aP (fun _ hk => hk.elim) ?aF ?aO ?aB ?aS ?aL ?_; (case aP => exact rfl); (case aB => exact (by repeat (first | (with_reducible first | exact HB.out | apply below_alloc | apply pw_below_drewN | apply below_drew1) | exact HB.out))); (case aF => exact (fun _ _ => trivial)); (case aO => exact (by (with_reducible repeat (first | apply Kd.R_alloc | apply Kd.R_drewN | apply Kd.R_drew)); exact HO_5.out)); (case aS => exact (below_size (by repeat (first | (with_reducible first | exact HB.out | apply below_alloc | apply pw_below_drewN | apply below_drew1) | exact HB.out)))); (case aL => have := LMc25.out; omega); intro v194 w26 ho hb hg hat; rw [← Ny193.out] at ho; have n0_ := Aside0.mk (hb); have n1_ := Aside0.mk (ho); clear HB; clear HO_5; have HB := n0_; have HO195 := n1_; clear n0_ n1_; clear ho hb hg hat))
                                  go_roundg kj21
                                  case measure => have := HJ1.out; have := HK2.out; have := HJ21.out; omega
                                  case rel => exact ⟨(y193), ((wrap64 ((ji18) + 1))), (by first | rfl | (simp; done) | (simp only [← hji18] <;> (first | rfl | (simp; done) | (simp [*]; done))) | (simp [*]; done)), H', ⟨by have := HJ1.out; have := HK2.out; have := HJ21.out; omega⟩, ⟨by (with_reducible repeat (first | apply Kd.R_alloc | apply Kd.R_drewN | apply Kd.R_drew)); exact HO195.out⟩, ⟨by repeat (first | (with_reducible first | exact HB.out | apply below_alloc | apply pw_below_drewN | apply below_drew1) | exact HB.out)⟩⟩
                                · rw [if_neg c25] at H
                                  exact absurd H (by simp)
                              · replace c24 := Bool.eq_false_iff.mpr c24
                                subst c24
                                have H1 : (if (bt a0 (ji18)) = 110 then (if x5_2.length < 140737488355328 then (wickerref01_Unquote.l0 kj21 a0 (x5_2 ++ [10]) (wrap64 ((ji18) + 1))) else (none)) else (if (bt a0 (ji18)) = 116 then (if x5_2.length < 140737488355328 then (wickerref01_Unquote.l0 kj21 a0 (x5_2 ++ [9]) (wrap64 ((ji18) + 1))) else (none)) else (if (bt a0 (ji18)) = 120 then (wickerref01_Unquote.l1 kj21 a0 x5_2 (wrap64 ((ji18) + 1)) 0 0) else (some ((⟨#[]⟩ : ByteArray), 0, 4))))) = some (r1, r2, r3) := by rw [if_neg (show ¬ (false = true) by decide)] at H; exact H
                                clear H
                                have H := H1
                                clear H1
                                by_cases c27 : (bt a0 (ji18)) = 110
                                · rw [if_pos c27] at H
                                  have c27b0 : ((bt a0 (ji18)) == 110) = true := beq_iff_eq.mpr c27
                                  have c27b1 : ((bt a0 (ji18)) != 110) = false := bne_eq_false_iff_eq.mpr c27
                                  clear c27
                                  by_cases c28 : x5_2.length < 140737488355328
                                  · rw [if_pos c28] at H
                                    have LMc28 := Aside0.mk c28
                                    clear c28
                                    obtain ⟨y196, hy196⟩ : ∃ y_ : List Int, y_ = (x5_2 ++ [10]) := ⟨_, rfl⟩
                                    replace H : (wickerref01_Unquote.l0 kj21 a0 y196 (wrap64 ((ji18) + 1))) = some (r1, r2, r3) := by first | (rw [hy196]; with_reducible exact H) | (have H2_ := (Option.bind_some _ _).symm.trans H; rw [hy196]; with_reducible exact H2_) | (have H2_ := (Option.bind_some _ _).symm.trans H; with_reducible exact H2_) | with_reducible exact H | (rw [hy196]; exact H) | exact H
                                    have Ny196 := Aside0.mk hy196
                                    clear hy196
                                    have H' := Aside0.mk H
                                    clear H
                                    go_wp2_with (first | ((with_reducible refine gate_builtin (b := .append) (xs := #[.tmp 69, .tmp 70]) rfl ?_); at_builtin; refine Kd.R_append (Kd.int .u8) (w0 := w) w.heap.size rfl (.tmp 69) (.tmp 70) 47 5 (.int .u8 0) 1 rfl Tryd.underlying47 info5 rfl (by decide) (by omega) u5 x5_2 10 [.int .u8 10] (fun _ => True) (fun _ => False) rfl rfl ?aP (fun _ hk => hk.elim) ?aF ?aO ?aB ?aS ?aL ?_; (case aP => exact rfl); (case aB => exact (by repeat (first | (with_reducible first | exact HB.out | apply below_alloc | apply pw_below_drewN | apply below_drew1) | exact HB.out))); (case aF => exact (fun _ _ => trivial)); (case aO => exact (by (with_reducible repeat (first | apply Kd.R_alloc | apply Kd.R_drewN | apply Kd.R_drew)); exact HO_5.out)); (case aS => exact (below_size (by repeat (first | (with_reducible first | exact HB.out | apply below_alloc | apply pw_below_drewN | apply below_drew1) | exact HB.out)))); (case aL => have := LMc28.out; omega); intro v197 w29 ho hb hg hat; rw [← Ny196.out] at ho; have n0_ := Aside0.mk (hb); have n1_ := Aside0.mk (ho); clear HB; clear HO_5; have HB := n0_; have HO198 := n1_; clear n0_ n1_; clear ho hb hg hat))
                                    go_roundg kj21
                                    case measure => have := HJ1.out; have := HK2.out; have := HJ21.out; omega
                                    case rel => exact ⟨(y196), ((wrap64 ((ji18) + 1))), (by first | rfl | (simp; done) | (simp only [← hji18] <;> (first | rfl | (simp; done) | (simp [*]; done))) | (simp [*]; done)), H', ⟨by have := HJ1.out; have := HK2.out; have := HJ21.out; omega⟩, ⟨by (with_reducible repeat (first | apply Kd.R_alloc | apply Kd.R_drewN | apply Kd.R_drew)); exact HO198.out⟩, ⟨by repeat (first | (with_reducible first | exact HB.out | apply below_alloc | apply pw_below_drewN | apply below_drew1) | exact HB.out)⟩⟩
                                  · rw [if_neg c28] at H
                                    exact absurd H (by simp)
                                · rw [if_neg c27] at H
                                  have c27b0 : ((bt a0 (ji18)) == 110) = false := beq_eq_false_iff_ne.mpr c27
                                  have c27b1 : ((bt a0 (ji18)) != 110) = true := bne_iff_ne.mpr c27
                                  by_cases c30 : (bt a0 (ji18)) = 116
                                  · rw [if_pos c30] at H
                                    have c30b0 : ((bt a0 (ji18)) == 116) = true := beq_iff_eq.mpr c30
                                    have c30b1 : ((bt a0 (ji18)) != 116) = false := bne_eq_false_iff_eq.mpr c30
                                    clear c30
                                    by_cases c31 : x5_2.length < 140737488355328
                                    · rw [if_pos c31] at H
                                      have LMc31 := Aside0.mk c31
                                      clear c31
                                      obtain ⟨y199, hy199⟩ : ∃ y_ : List Int, y_ = (x5_2 ++ [9]) := ⟨_, rfl⟩
                                      replace H : (wickerref01_Unquote.l0 kj21 a0 y199 (wrap64 ((ji18) + 1))) = some (r1, r2, r3) := by first | (rw [hy199]; with_reducible exact H) | (have H2_ := (Option.bind_some _ _).symm.trans H; rw [hy199]; with_reducible exact H2_) | (have H2_ := (Option.bind_some _ _).symm.trans H; with_reducible exact H2_) | with_reducible exact H | (rw [hy199]; exact H) | exact H
                                      have Ny199 := Aside0.mk hy199
                                      clear hy199
                                      have H' := Aside0.mk H
                                      clear H
                                      go_wp2_with (first | ((with_reducible refine gate_builtin (b := .append) (xs := #[.tmp 74, .tmp 75]) rfl ?_); at_builtin; refine Kd.R_append (Kd.int .u8) (w0 := w) w.heap.size rfl (.tmp 74) (.tmp 75) 47 5 (.int .u8 0) 1 rfl Tryd.underlying47 info5 rfl (by decide) (by omega) u5 x5_2 9 [.int .u8 9] (fun _ => True) (fun _ => False) rfl rfl ?aP (fun _ hk => hk.elim) ?aF ?aO ?aB ?aS ?aL ?_; (case aP => exact rfl); (case aB => exact (by repeat (first | (with_reducible first | exact HB.out | apply below_alloc | apply pw_below_drewN | apply below_drew1) | exact HB.out))); (case aF => exact (fun _ _ => trivial)); (case aO => exact (by (with_reducible repeat (first | apply Kd.R_alloc | apply Kd.R_drewN | apply Kd.R_drew)); exact HO_5.out)); (case aS => exact (below_size (by repeat (first | (with_reducible first | exact HB.out | apply below_alloc | apply pw_below_drewN | apply below_drew1) | exact HB.out)))); (case aL => have := LMc31.out; omega); intro v200 w32 ho hb hg hat; rw [← Ny199.out] at ho; have n0_ := Aside0.mk (hb); have n1_ := Aside0.mk (ho); clear HB; clear HO_5; have HB := n0_; have HO201 := n1_; clear n0_ n1_; clear ho hb hg hat))
                                      go_roundg kj21
                                      case measure => have := HJ1.out; have := HK2.out; have := HJ21.out; omega
                                      case rel => exact ⟨(y199), ((wrap64 ((ji18) + 1))), (by first | rfl | (simp; done) | (simp only [← hji18] <;> (first | rfl | (simp; done) | (simp [*]; done))) | (simp [*]; done)), H', ⟨by have := HJ1.out; have := HK2.out; have := HJ21.out; omega⟩, ⟨by (with_reducible repeat (first | apply Kd.R_alloc | apply Kd.R_drewN | apply Kd.R_drew)); exact HO201.out⟩, ⟨by repeat (first | (with_reducible first | exact HB.out | apply below_alloc | apply pw_below_drewN | apply below_drew1) | exact HB.out)⟩⟩
                                    · rw [if_neg c31] at H
                                      exact absurd H (by simp)
                                  · rw [if_neg c30] at H
                                    have c30b0 : ((bt a0 (ji18)) == 116) = false := beq_eq_false_iff_ne.mpr c30
                                    have c30b1 : ((bt a0 (ji18)) != 116) = true := bne_iff_ne.mpr c30
                                    by_cases c33 : (bt a0 (ji18)) = 120
                                    · rw [if_pos c33] at H
                                      have c33b0 : ((bt a0 (ji18)) == 120) = true := beq_iff_eq.mpr c33
                                      have c33b1 : ((bt a0 (ji18)) != 120) = false := bne_eq_false_iff_eq.mpr c33
                                      clear c33
                                      have H' := Aside0.mk H
                                      clear H
                                      go_wp2
                                      go_loopg [6, 9, 10] kj21 (fun kq v6 v9 v10 w' => ∃ (x6_4 : Int) (x9_4 : Int) (x10_4 : Int), v6 = .int .i64 x6_4 ∧ v9 = .int .i64 x9_4 ∧ v10 = .int .i64 x10_4 ∧ Aside0 (wickerref01_Unquote.l1 kq a0 x5_2 x6_4 x9_4 x10_4 = some (r1, r2, r3)) ∧ Aside0 (kq ≤ kj21) ∧ Aside0 (Kd.R (Kd.int .u8) 5 w' w.heap.size (fun _ => True) u5 x5_2) ∧ Aside0 (Below w.heap.size w w'))
                                      case atStart => exact ⟨((wrap64 ((ji18) + 1))), (0), (0), (by first | rfl | (simp; done) | (simp only [← hji18] <;> (first | rfl | (simp; done) | (simp [*]; done))) | (simp [*]; done)), (by first | rfl | (simp; done) | (simp [*]; done)), (by first | rfl | (simp; done) | (simp [*]; done)), H', ⟨Nat.le_refl _⟩, ⟨by (with_reducible repeat (first | apply Kd.R_alloc | apply Kd.R_drewN | apply Kd.R_drew)); exact HO_5.out⟩, ⟨by repeat (first | (with_reducible first | exact HB.out | apply below_alloc | apply pw_below_drewN | apply below_drew1) | exact HB.out)⟩⟩
                                      case round =>
                                        clear H'
                                        try clear c1
                                        try clear hcv1
                                        try clear c2
                                        try clear p2
                                        try clear q2
                                        try clear hx2
                                        try clear c3
                                        try clear c3b0
                                        try clear c3b1
                                        try clear c4
                                        try clear c4b0
                                        try clear c4b1
                                        try clear p5
                                        try clear q5
                                        try clear hx5
                                        try clear qi5
                                        try clear c6
                                        try clear p6
                                        try clear c7
                                        try clear c7b0
                                        try clear c8
                                        try clear c8b0
                                        try clear p9
                                        try clear q9
                                        try clear hx9
                                        try clear c10
                                        try clear c10b0
                                        try clear c10b1
                                        try clear c12
                                        try clear hcv13
                                        try clear hcv14
                                        try clear hcv15
                                        try clear c16
                                        try clear c16b0
                                        try clear c16b1
                                        try clear c17
                                        try clear c17b0
                                        try clear c17b1
                                        try clear c19
                                        try clear c19b0
                                        try clear c20
                                        try clear c20b0
                                        try clear p21
                                        try clear q21
                                        try clear hx21
                                        try clear c23
                                        try clear c23b0
                                        try clear c23b1
                                        try clear c24
                                        try clear c25
                                        try clear c27
                                        try clear c27b0
                                        try clear c27b1
                                        try clear c28
                                        try clear c30
                                        try clear c30b0
                                        try clear c30b1
                                        try clear c31
                                        try clear c33
                                        try clear c33b0
                                        try clear c33b1
                                        try clear p2
                                        try clear p21
                                        try clear p5
                                        try clear p6
                                        try clear p9
                                        try clear q2
                                        try clear q21
                                        try clear q5
                                        try clear q9
                                        obtain ⟨x6_4, x9_4, x10_4, rfl, rfl, rfl, HA, HK4, HO_5, HB⟩ := hrel
                                        cases gk with
                                        | zero => exact absurd HA.out (by simp [wickerref01_Unquote.l1])
                                        | succ k4 =>
                                          have H := HA.out
                                          clear HA
                                          simp only [wickerref01_Unquote.l1] at H
                                          by_cases c34 : x10_4 < 2
                                          · rw [if_pos c34] at H
                                            have c34b0 : decide (x10_4 < 2) = true := decide_eq_true c34
                                            clear c34
                                            by_cases c35 : x6_4 = (a0.size : Int)
                                            · rw [if_pos c35] at H
                                              have c35b0 : (x6_4 == (a0.size : Int)) = true := beq_iff_eq.mpr c35
                                              have c35b1 : (x6_4 != (a0.size : Int)) = false := bne_eq_false_iff_eq.mpr c35
                                              clear c35
                                              simp only [Option.some.injEq, Prod.mk.injEq] at H
                                              obtain ⟨rfl, rfl, rfl⟩ := H
                                              go_wp2
                                              go_ret3
                                              exact ⟨by first | rfl | (simp [errW_none, errW_some] <;> rfl) | (simp only [← hji18]; first | rfl | (simp [errW_none, errW_some] <;> rfl)) | (simp [*, errW_none, errW_some] <;> rfl), by repeat (first | (with_reducible first | exact HB.out | apply below_alloc | apply pw_below_drewN | apply below_drew1) | exact HB.out)⟩
                                            · rw [if_neg c35] at H
                                              have c35b0 : (x6_4 == (a0.size : Int)) = false := beq_eq_false_iff_ne.mpr c35
                                              have c35b1 : (x6_4 != (a0.size : Int)) = true := bne_iff_ne.mpr c35
                                              by_cases c36 : 0 ≤ x6_4
                                              · rw [if_pos c36] at H
                                                have c36b0 : decide (0 ≤ x6_4) = true := decide_eq_true c36
                                                clear c36
                                                by_cases c37 : x6_4 < (a0.size : Int)
                                                · rw [if_pos c37] at H
                                                  have c37b0 : decide (x6_4 < (a0.size : Int)) = true := decide_eq_true c37
                                                  clear c37
                                                  replace H := Option.bind_eq_some_iff.mp H
                                                  obtain ⟨t205, A390, H⟩ := H
                                                  replace H : (if t205 < 0 then (some ((⟨#[]⟩ : ByteArray), 0, 4)) else (wickerref01_Unquote.l1 k4 a0 x5_2 (wrap64 (x6_4 + 1)) (wrap64 ((wrap64 (x9_4 * 16)) + t205)) (wrap64 (x10_4 + 1)))) = some (r1, r2, r3) := H
                                                  have A39 := Aside0.mk A390
                                                  clear A390
                                                  by_cases c40 : t205 < 0
                                                  · rw [if_pos c40] at H
                                                    have c40b0 : decide (t205 < 0) = true := decide_eq_true c40
                                                    clear c40
                                                    simp only [Option.some.injEq, Prod.mk.injEq] at H
                                                    obtain ⟨rfl, rfl, rfl⟩ := H
                                                    have p38 : 0 ≤ (x6_4 : Int) := of_decide_eq_true (by first | (with_reducible assumption) | assumption)
                                                    have q38 : x6_4 < (a0.size : Int) := of_decide_eq_true (by first | (with_reducible assumption) | assumption)
                                                    have hx38 := bt_at a0 x6_4
                                                    replace p38 := eq_true p38
                                                    replace q38 := eq_true q38
                                                    go_wp2_with (first | ((with_reducible refine gate_callee (f := 37) rfl ?_); refine goesL_ (some 90) rfl rfl Tryd.func37 (by kernel_rfl) rfl #[.int .u8 (bt a0 x6_4)] rfl (by (try simp only [List.map_toArray, List.map_cons, List.map_nil]); first | done | rfl | (simp only [List.length_drop, List.length_take]; rfl)) ?_; (with_reducible refine (wickerref01_digit.calls k4 (bt a0 x6_4) t205 _ A39.out).mono ?_); rintro e w' ⟨rfl, ⟨nd, rfl⟩⟩; refine ⟨_, rfl, ?_⟩))
                                                    go_ret3
                                                    exact ⟨by first | rfl | (simp [errW_none, errW_some] <;> rfl) | (simp only [← hji18]; first | rfl | (simp [errW_none, errW_some] <;> rfl)) | (simp [*, errW_none, errW_some] <;> rfl), by repeat (first | (with_reducible first | exact HB.out | apply below_alloc | apply pw_below_drewN | apply below_drew1) | exact HB.out)⟩
                                                  · rw [if_neg c40] at H
                                                    have c40b0 : decide (t205 < 0) = false := decide_eq_false c40
                                                    clear c40
                                                    have H' := Aside0.mk H
                                                    clear H
                                                    have p38 : 0 ≤ (x6_4 : Int) := of_decide_eq_true (by first | (with_reducible assumption) | assumption)
                                                    have q38 : x6_4 < (a0.size : Int) := of_decide_eq_true (by first | (with_reducible assumption) | assumption)
                                                    have hx38 := bt_at a0 x6_4
                                                    replace p38 := eq_true p38
                                                    replace q38 := eq_true q38
                                                    go_wp2_with (first | ((with_reducible refine gate_callee (f := 37) rfl ?_); refine goesL_ (some 90) rfl rfl Tryd.func37 (by kernel_rfl) rfl #[.int .u8 (bt a0 x6_4)] rfl (by (try simp only [List.map_toArray, List.map_cons, List.map_nil]); first | done | rfl | (simp only [List.length_drop, List.length_take]; rfl)) ?_; (with_reducible refine (wickerref01_digit.calls k4 (bt a0 x6_4) t205 _ A39.out).mono ?_); rintro e w' ⟨rfl, ⟨nd, rfl⟩⟩; refine ⟨_, rfl, ?_⟩))
                                                    go_roundg k4
                                                    case measure => have := HJ1.out; have := HK2.out; have := HJ21.out; have := HK4.out; omega
                                                    case rel => exact ⟨(wrap64 (x6_4 + 1)), (wrap64 ((wrap64 (x9_4 * 16)) + t205)), (wrap64 (x10_4 + 1)), (by first | rfl | (simp; done) | (simp [*]; done)), (by first | rfl | (simp; done) | (simp [*]; done)), (by first | rfl | (simp; done) | (simp [*]; done)), H', ⟨by have := HJ1.out; have := HK2.out; have := HJ21.out; have := HK4.out; omega⟩, ⟨by (with_reducible repeat (first | apply Kd.R_alloc | apply Kd.R_drewN | apply Kd.R_drew)); exact HO_5.out⟩, ⟨by repeat (first | (with_reducible first | exact HB.out | apply below_alloc | apply pw_below_drewN | apply below_drew1) | exact HB.out)⟩⟩
                                                · rw [if_neg c37] at H
                                                  exact absurd H (by simp)
                                              · rw [if_neg c36] at H
                                                exact absurd H (by simp)
                                          · rw [if_neg c34] at H
                                            have c34b0 : decide (x10_4 < 2) = false := decide_eq_false c34
                                            clear c34
                                            by_cases c41 : x5_2.length < 140737488355328
                                            · rw [if_pos c41] at H
                                              have LMc41 := Aside0.mk c41
                                              clear c41
                                              obtain ⟨y202, hy202⟩ : ∃ y_ : List Int, y_ = (x5_2 ++ [(x9_4) % 256]) := ⟨_, rfl⟩
                                              replace H : (wickerref01_Unquote.l0 k4 a0 y202 x6_4) = some (r1, r2, r3) := by first | (rw [hy202]; with_reducible exact H) | (have H2_ := (Option.bind_some _ _).symm.trans H; rw [hy202]; with_reducible exact H2_) | (have H2_ := (Option.bind_some _ _).symm.trans H; with_reducible exact H2_) | with_reducible exact H | (rw [hy202]; exact H) | exact H
                                              have Ny202 := Aside0.mk hy202
                                              clear hy202
                                              have H' := Aside0.mk H
                                              clear H
                                              go_wp2_with (first | ((with_reducible refine gate_builtin (b := .append) (xs := #[.tmp 99, .tmp 102]) rfl ?_); at_builtin; refine Kd.R_append (Kd.int .u8) (w0 := w) w.heap.size rfl (.tmp 99) (.tmp 102) 47 5 (.int .u8 0) 1 rfl Tryd.underlying47 info5 rfl (by decide) (by omega) u5 x5_2 ((x9_4) % 256) [.int .u8 ((x9_4) % 256)] (fun _ => True) (fun _ => False) rfl rfl ?aP (fun _ hk => hk.elim) ?aF ?aO ?aB ?aS ?aL ?_; (case aP => exact rfl); (case aB => exact (by repeat (first | (with_reducible first | exact HB.out | apply below_alloc | apply pw_below_drewN | apply below_drew1) | exact HB.out))); (case aF => exact (fun _ _ => trivial)); (case aO => exact (by (with_reducible repeat (first | apply Kd.R_alloc | apply Kd.R_drewN | apply Kd.R_drew)); exact HO_5.out)); (case aS => exact (below_size (by repeat (first | (with_reducible first | exact HB.out | apply below_alloc | apply pw_below_drewN | apply below_drew1) | exact HB.out)))); (case aL => have := LMc41.out; omega); intro v203 w42 ho hb hg hat; rw [← Ny202.out] at ho; have n0_ := Aside0.mk (hb); have n1_ := Aside0.mk (ho); clear HB; clear HO_5; have HB := n0_; have HO204 := n1_; clear n0_ n1_; clear ho hb hg hat))
                                              go_roundg k4
                                              case measure => have := HJ1.out; have := HK2.out; have := HJ21.out; have := HK4.out; omega
                                              case rel => exact ⟨(y202), (x6_4), (by first | rfl | (simp; done) | (simp [*]; done)), H', ⟨by have := HJ1.out; have := HK2.out; have := HJ21.out; have := HK4.out; omega⟩, ⟨by (with_reducible repeat (first | apply Kd.R_alloc | apply Kd.R_drewN | apply Kd.R_drew)); exact HO204.out⟩, ⟨by repeat (first | (with_reducible first | exact HB.out | apply below_alloc | apply pw_below_drewN | apply below_drew1) | exact HB.out)⟩⟩
                                            · rw [if_neg c41] at H
                                              exact absurd H (by simp)
                                    · rw [if_neg c33] at H
                                      have c33b0 : ((bt a0 (ji18)) == 120) = false := beq_eq_false_iff_ne.mpr c33
                                      have c33b1 : ((bt a0 (ji18)) != 120) = true := bne_iff_ne.mpr c33
                                      simp only [Option.some.injEq, Prod.mk.injEq] at H
                                      obtain ⟨rfl, rfl, rfl⟩ := H
                                      go_wp2
                                      go_ret3
                                      exact ⟨by first | rfl | (simp [errW_none, errW_some] <;> rfl) | (simp only [← hji18]; first | rfl | (simp [errW_none, errW_some] <;> rfl)) | (simp [*, errW_none, errW_some] <;> rfl), by repeat (first | (with_reducible first | exact HB.out | apply below_alloc | apply pw_below_drewN | apply below_drew1) | exact HB.out)⟩
                        · rw [if_neg c20] at H
                          exact absurd H (by simp)
                      · rw [if_neg c19] at H
                        exact absurd H (by simp)
                  · rw [if_neg c16] at H
                    have c16b0 : ((bt a0 x6_2) == 92) = false := beq_eq_false_iff_ne.mpr c16
                    have c16b1 : ((bt a0 x6_2) != 92) = true := bne_iff_ne.mpr c16
                    by_cases c43 : (bt a0 x6_2) < 32
                    · rw [if_pos c43] at H
                      have c43b0 : decide ((bt a0 x6_2) < 32) = true := decide_eq_true c43
                      clear c43
                      simp only [Option.some.injEq, Prod.mk.injEq] at H
                      obtain ⟨rfl, rfl, rfl⟩ := H
                      have p9 : 0 ≤ (x6_2 : Int) := of_decide_eq_true (by first | (with_reducible assumption) | assumption)
                      have q9 : x6_2 < (a0.size : Int) := of_decide_eq_true (by first | (with_reducible assumption) | assumption)
                      have hx9 := bt_at a0 x6_2
                      replace p9 := eq_true p9
                      replace q9 := eq_true q9
                      go_wp2
                      go_ret3
                      exact ⟨by first | rfl | (simp [errW_none, errW_some] <;> rfl) | (simp [*, errW_none, errW_some] <;> rfl), by repeat (first | (with_reducible first | exact HB.out | apply below_alloc | apply pw_below_drewN | apply below_drew1) | exact HB.out)⟩
                    · rw [if_neg c43] at H
                      have c43b0 : decide ((bt a0 x6_2) < 32) = false := decide_eq_false c43
                      clear c43
                      by_cases c44 : (bt a0 x6_2) > 126
                      · rw [if_pos c44] at H
                        have c44b0 : decide (126 < (bt a0 x6_2)) = true := decide_eq_true c44
                        clear c44
                        simp only [Option.some.injEq, Prod.mk.injEq] at H
                        obtain ⟨rfl, rfl, rfl⟩ := H
                        have p9 : 0 ≤ (x6_2 : Int) := of_decide_eq_true (by first | (with_reducible assumption) | assumption)
                        have q9 : x6_2 < (a0.size : Int) := of_decide_eq_true (by first | (with_reducible assumption) | assumption)
                        have hx9 := bt_at a0 x6_2
                        replace p9 := eq_true p9
                        replace q9 := eq_true q9
                        go_wp2
                        go_ret3
                        exact ⟨by first | rfl | (simp [errW_none, errW_some] <;> rfl) | (simp [*, errW_none, errW_some] <;> rfl), by repeat (first | (with_reducible first | exact HB.out | apply below_alloc | apply pw_below_drewN | apply below_drew1) | exact HB.out)⟩
                      · rw [if_neg c44] at H
                        have c44b0 : decide (126 < (bt a0 x6_2)) = false := decide_eq_false c44
                        clear c44
                        by_cases c45 : x5_2.length < 140737488355328
                        · rw [if_pos c45] at H
                          have LMc45 := Aside0.mk c45
                          clear c45
                          obtain ⟨y190, hy190⟩ : ∃ y_ : List Int, y_ = (x5_2 ++ [bt a0 x6_2]) := ⟨_, rfl⟩
                          replace H : (wickerref01_Unquote.l0 k2 a0 y190 (wrap64 (x6_2 + 1))) = some (r1, r2, r3) := by first | (rw [hy190]; with_reducible exact H) | (have H2_ := (Option.bind_some _ _).symm.trans H; rw [hy190]; with_reducible exact H2_) | (have H2_ := (Option.bind_some _ _).symm.trans H; with_reducible exact H2_) | with_reducible exact H | (rw [hy190]; exact H) | exact H
                          have Ny190 := Aside0.mk hy190
                          clear hy190
                          have H' := Aside0.mk H
                          clear H
                          have p9 : 0 ≤ (x6_2 : Int) := of_decide_eq_true (by first | (with_reducible assumption) | assumption)
                          have q9 : x6_2 < (a0.size : Int) := of_decide_eq_true (by first | (with_reducible assumption) | assumption)
                          have hx9 := bt_at a0 x6_2
                          replace p9 := eq_true p9
                          replace q9 := eq_true q9
                          go_wp2_with (first | ((with_reducible refine gate_builtin (b := .append) (xs := #[.tmp 46, .tmp 48]) rfl ?_); at_builtin; refine Kd.R_append (Kd.int .u8) (w0 := w) w.heap.size rfl (.tmp 46) (.tmp 48) 47 5 (.int .u8 0) 1 rfl Tryd.underlying47 info5 rfl (by decide) (by omega) u5 x5_2 (bt a0 x6_2) [.int .u8 (bt a0 x6_2)] (fun _ => True) (fun _ => False) rfl rfl ?aP (fun _ hk => hk.elim) ?aF ?aO ?aB ?aS ?aL ?_; (case aP => exact rfl); (case aB => exact (by repeat (first | (with_reducible first | exact HB.out | apply below_alloc | apply pw_below_drewN | apply below_drew1) | exact HB.out))); (case aF => exact (fun _ _ => trivial)); (case aO => exact (by (with_reducible repeat (first | apply Kd.R_alloc | apply Kd.R_drewN | apply Kd.R_drew)); exact HO_5.out)); (case aS => exact (below_size (by repeat (first | (with_reducible first | exact HB.out | apply below_alloc | apply pw_below_drewN | apply below_drew1) | exact HB.out)))); (case aL => have := LMc45.out; omega); intro v191 w46 ho hb hg hat; rw [← Ny190.out] at ho; have n0_ := Aside0.mk (hb); have n1_ := Aside0.mk (ho); clear HB; clear HO_5; have HB := n0_; have HO192 := n1_; clear n0_ n1_; clear ho hb hg hat))
                          go_roundg k2
                          case measure => have := HJ1.out; have := HK2.out; omega
                          case rel => exact ⟨(y190), (wrap64 (x6_2 + 1)), (by first | rfl | (simp; done) | (simp [*]; done)), H', ⟨by have := HJ1.out; have := HK2.out; omega⟩, ⟨by (with_reducible repeat (first | apply Kd.R_alloc | apply Kd.R_drewN | apply Kd.R_drew)); exact HO192.out⟩, ⟨by repeat (first | (with_reducible first | exact HB.out | apply below_alloc | apply pw_below_drewN | apply below_drew1) | exact HB.out)⟩⟩
                        · rw [if_neg c45] at H
                          exact absurd H (by simp)
              · rw [if_neg c8] at H
                exact absurd H (by simp)
            · rw [if_neg c7] at H
              have c7b0 : decide (x6_2 < (a0.size : Int)) = false := decide_eq_false c7
              clear c7
              simp only [Option.some.injEq, Prod.mk.injEq] at H
              obtain ⟨rfl, rfl, rfl⟩ := H
              go_wp2
              go_ret3
              exact ⟨by first | rfl | (simp [errW_none, errW_some] <;> rfl) | (simp [*, errW_none, errW_some] <;> rfl), by repeat (first | (with_reducible first | exact HB.out | apply below_alloc | apply pw_below_drewN | apply below_drew1) | exact HB.out)⟩

/-! ### wickerref01_hex: function 35 -/
def wickerref01_hex.f (a0 : Int) : Option (Int) := if a0 < 10 then (some ((wrap64 (48 + a0)) % 256)) else (some ((wrap64 (87 + a0)) % 256))
set_option maxHeartbeats 8000000 in
set_option maxRecDepth 100000 in
theorem wickerref01_hex.calls (a0 : Int) (r : Int) (w : World) (h : wickerref01_hex.f a0 = some r) :
    Calls Tryd.prog 35 #[.int .i64 a0] w fun e w' => e = .returned (.int .u8 r) ∧ Drawn0 w w' := by
  have H : (if a0 < 10 then (some ((wrap64 (48 + a0)) % 256)) else (some ((wrap64 (87 + a0)) % 256))) = some r := h
  clear h
  by_cases c2 : a0 < 10
  · rw [if_pos c2] at H
    have c2b0 : decide (a0 < 10) = true := decide_eq_true c2
    clear c2
    obtain rfl := Option.some.inj H
    go_enter Tryd.func35, Tryd.ntmps35
    go_wp2
    go_ret
    exact ⟨by first | rfl | (simp; done) | (simp [*]; done), by repeat (first | exact Drawn0.refl _ | apply Drawn0.step)⟩
  · rw [if_neg c2] at H
    have c2b0 : decide (a0 < 10) = false := decide_eq_false c2
    clear c2
    obtain rfl := Option.some.inj H
    go_enter Tryd.func35, Tryd.ntmps35
    go_wp2
    go_ret
    exact ⟨by first | rfl | (simp; done) | (simp [*]; done), by repeat (first | exact Drawn0.refl _ | apply Drawn0.step)⟩

end Go.Proofs.YtghdnijdbmekjaaDoor.H
