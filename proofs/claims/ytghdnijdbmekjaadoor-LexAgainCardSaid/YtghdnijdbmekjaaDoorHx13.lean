-- Written for this claim by a program of this session over the kit's printer.
import Derived.Test.YtghdnijdbmekjaaDoorHx0
import Derived.Test.YtghdnijdbmekjaaDoorHx10
import Derived.Test.YtghdnijdbmekjaaDoorHx12
namespace Go.Proofs.YtghdnijdbmekjaaDoor.H
open Go.RowKit Go.Proofs.YtghdnijdbmekjaaDoorW.PrintWords Go.Proofs.YtghdnijdbmekjaaDoorW.PrintLast Go.Proofs.YtghdnijdbmekjaaDoorW.PrintMore
attribute [local go_sem] max2_int min2_int max_two min_two max_three min_three max_four min_four   -- for this text's walks alone
attribute [local go_sem] Go.Proofs.YtghdnijdbmekjaaDoorOwn.isSome_setCell
set_option linter.unusedVariables false
set_option linter.unusedSimpArgs false

/-! ### wickerlaw05_LexAgain: function 8 -/
mutual
def wickerlaw05_LexAgain.l0 : Nat → ByteArray → List (S45) → ByteArray → List (S45) → Int → Int → Option (Bool)
  | 0, _, _, _, _, _, _ => none
  | k + 1, x0, x3, x6, x30, x31, x32 => if x32 < x31 then (if 0 ≤ x32 then (if x32 < (x30.length : Int) then (if x32 > 0 then (if 0 ≤ (wrap64 (x32 - 1)) then (if (wrap64 (x32 - 1)) < (x3.length : Int) then (if ((rd_T45 x3 (wrap64 (x32 - 1))).f2) ≥ ((rd_T45 x30 x32).f2) then (if ((rd_T45 x30 x32).f0) = 5 then (if ((rd_T45 x3 (wrap64 (x32 - 1))).f2) > ((rd_T45 x30 x32).f2) then (some false) else (if ((rd_T45 x30 x32).f2) < 0 then (some false) else (if ((rd_T45 x30 x32).f2) > (x0.size : Int) then (some false) else ((wickerlaw05_show.f ((rd_T45 x30 x32).f0) ((rd_T45 x30 x32).f1) ((rd_T45 x30 x32).f2)).bind fun t174 => (if t174.size + 1 ≤ 9223372036854775807 then (if x6.size + (t174 ++ (⟨#[32]⟩ : ByteArray)).size ≤ 9223372036854775807 then (wickerlaw05_LexAgain.l0 k x0 x3 (x6 ++ (t174 ++ (⟨#[32]⟩ : ByteArray))) x30 x31 (wrap64 (x32 + 1))) else (none)) else (none)))))) else (some false)) else (if ((rd_T45 x30 x32).f2) < 0 then (some false) else (if ((rd_T45 x30 x32).f2) > (x0.size : Int) then (some false) else ((wickerlaw05_show.f ((rd_T45 x30 x32).f0) ((rd_T45 x30 x32).f1) ((rd_T45 x30 x32).f2)).bind fun t175 => (if t175.size + 1 ≤ 9223372036854775807 then (if x6.size + (t175 ++ (⟨#[32]⟩ : ByteArray)).size ≤ 9223372036854775807 then (wickerlaw05_LexAgain.l0 k x0 x3 (x6 ++ (t175 ++ (⟨#[32]⟩ : ByteArray))) x30 x31 (wrap64 (x32 + 1))) else (none)) else (none)))))) else (none)) else (none)) else (if ((rd_T45 x30 x32).f2) < 0 then (some false) else (if ((rd_T45 x30 x32).f2) > (x0.size : Int) then (some false) else ((wickerlaw05_show.f ((rd_T45 x30 x32).f0) ((rd_T45 x30 x32).f1) ((rd_T45 x30 x32).f2)).bind fun t176 => (if t176.size + 1 ≤ 9223372036854775807 then (if x6.size + (t176 ++ (⟨#[32]⟩ : ByteArray)).size ≤ 9223372036854775807 then (wickerlaw05_LexAgain.l0 k x0 x3 (x6 ++ (t176 ++ (⟨#[32]⟩ : ByteArray))) x30 x31 (wrap64 (x32 + 1))) else (none)) else (none)))))) else (none)) else (none)) else ((lex_Lex.f k x6).bind fun bt177 => (if bt177.2.2 = 0 then (wickerlaw05_LexAgain.j1 k x3 bt177.1 ((bt177.1.length : Int) != (x3.length : Int))) else (wickerlaw05_LexAgain.j1 k x3 bt177.1 true)))
def wickerlaw05_LexAgain.j1 : Nat → List (S45) → List (S45) → Bool → Option (Bool)
  | 0, _, _, _ => none
  | k + 1, x3, x9, x98 => if x98 = true then (some false) else (wickerlaw05_LexAgain.l1 k x3 x9 (x3.length : Int) 0)
def wickerlaw05_LexAgain.l1 : Nat → List (S45) → List (S45) → Int → Int → Option (Bool)
  | 0, _, _, _, _ => none
  | k + 1, x3, x9, x100, x101 => if x101 < x100 then (if 0 ≤ x101 then (if x101 < (x3.length : Int) then (if x101 < (x9.length : Int) then (if ((rd_T45 x3 x101).f0) = ((rd_T45 x9 x101).f0) then (if ((rd_T45 x3 x101).f1).toList = ((rd_T45 x9 x101).f1).toList then (wickerlaw05_LexAgain.l1 k x3 x9 x100 (wrap64 (x101 + 1))) else (some false)) else (some false)) else (none)) else (none)) else (none)) else ((wickerlaw05_Awake.f k).bind fun t186 => (some t186))
end
def wickerlaw05_LexAgain.f (k : Nat) (a0 : ByteArray) : Option (Bool) := if (a0.size : Int) > 3000 then ((wickerlaw05_Awake.f k).bind fun t163 => (some t163)) else ((lex_Lex.f k a0).bind fun bt164 => (if bt164.2.2 = 0 then (wickerlaw05_LexAgain.l0 k a0 bt164.1 (⟨#[]⟩ : ByteArray) bt164.1 (bt164.1.length : Int) 0) else ((wickerlaw05_Awake.f k).bind fun t169 => (if t169 = true then (some ((bt164.1.length : Int) == 0)) else (some false)))))
theorem wickerlaw05_LexAgain.mono_l : ∀ k, (∀ y0 y1 y2 y3 y4 y5, LeO (wickerlaw05_LexAgain.l0 k y0 y1 y2 y3 y4 y5) (wickerlaw05_LexAgain.l0 (k + 1) y0 y1 y2 y3 y4 y5)) ∧ (∀ y0 y1 y2, LeO (wickerlaw05_LexAgain.j1 k y0 y1 y2) (wickerlaw05_LexAgain.j1 (k + 1) y0 y1 y2)) ∧ (∀ y0 y1 y2 y3, LeO (wickerlaw05_LexAgain.l1 k y0 y1 y2 y3) (wickerlaw05_LexAgain.l1 (k + 1) y0 y1 y2 y3))
  | 0 => ⟨fun _ _ _ _ _ _ r h => by simp [wickerlaw05_LexAgain.l0] at h, fun _ _ _ r h => by simp [wickerlaw05_LexAgain.j1] at h, fun _ _ _ _ r h => by simp [wickerlaw05_LexAgain.l1] at h⟩
  | k + 1 => by
    obtain ⟨ih0, ih1, ih2⟩ := wickerlaw05_LexAgain.mono_l k
    refine ⟨?_, ?_, ?_⟩
    · intro y0 y1 y2 y3 y4 y5
      unfold wickerlaw05_LexAgain.l0
      repeat' first
      | (with_reducible exact ih0 _ _ _ _ _ _)
      | (with_reducible exact ih1 _ _ _)
      | (with_reducible exact ih2 _ _ _ _)
      | (with_reducible exact lex_Lex.mono _ _)
      | (with_reducible exact wickerlaw05_Awake.mono _)
      | (with_reducible exact LeO.refl _)
      | (with_reducible exact LeO.none _)
      | (with_reducible refine LeO.ite ?_ ?_)
      | (with_reducible refine LeO.bind ?_ (fun _ => ?_))
      | exact ih0 _ _ _ _ _ _
      | exact ih1 _ _ _
      | exact ih2 _ _ _ _
      | exact lex_Lex.mono _ _
      | exact wickerlaw05_Awake.mono _
      | exact LeO.none _
      | refine LeO.ite ?_ ?_
      | refine LeO.bind ?_ (fun _ => ?_)
    · intro y0 y1 y2
      unfold wickerlaw05_LexAgain.j1
      repeat' first
      | (with_reducible exact ih0 _ _ _ _ _ _)
      | (with_reducible exact ih1 _ _ _)
      | (with_reducible exact ih2 _ _ _ _)
      | (with_reducible exact lex_Lex.mono _ _)
      | (with_reducible exact wickerlaw05_Awake.mono _)
      | (with_reducible exact LeO.refl _)
      | (with_reducible exact LeO.none _)
      | (with_reducible refine LeO.ite ?_ ?_)
      | (with_reducible refine LeO.bind ?_ (fun _ => ?_))
      | exact ih0 _ _ _ _ _ _
      | exact ih1 _ _ _
      | exact ih2 _ _ _ _
      | exact lex_Lex.mono _ _
      | exact wickerlaw05_Awake.mono _
      | exact LeO.none _
      | refine LeO.ite ?_ ?_
      | refine LeO.bind ?_ (fun _ => ?_)
    · intro y0 y1 y2 y3
      unfold wickerlaw05_LexAgain.l1
      repeat' first
      | (with_reducible exact ih0 _ _ _ _ _ _)
      | (with_reducible exact ih1 _ _ _)
      | (with_reducible exact ih2 _ _ _ _)
      | (with_reducible exact lex_Lex.mono _ _)
      | (with_reducible exact wickerlaw05_Awake.mono _)
      | (with_reducible exact LeO.refl _)
      | (with_reducible exact LeO.none _)
      | (with_reducible refine LeO.ite ?_ ?_)
      | (with_reducible refine LeO.bind ?_ (fun _ => ?_))
      | exact ih0 _ _ _ _ _ _
      | exact ih1 _ _ _
      | exact ih2 _ _ _ _
      | exact lex_Lex.mono _ _
      | exact wickerlaw05_Awake.mono _
      | exact LeO.none _
      | refine LeO.ite ?_ ?_
      | refine LeO.bind ?_ (fun _ => ?_)
theorem wickerlaw05_LexAgain.mono : ∀ a0 k, LeO (wickerlaw05_LexAgain.f k a0) (wickerlaw05_LexAgain.f (k + 1) a0) := by
  intro a0 k
  obtain ⟨ih0, ih1, ih2⟩ := wickerlaw05_LexAgain.mono_l k
  unfold wickerlaw05_LexAgain.f
  repeat' first
      | (with_reducible exact ih0 _ _ _ _ _ _)
      | (with_reducible exact ih1 _ _ _)
      | (with_reducible exact ih2 _ _ _ _)
      | (with_reducible exact lex_Lex.mono _ _)
      | (with_reducible exact wickerlaw05_Awake.mono _)
      | (with_reducible exact LeO.refl _)
      | (with_reducible exact LeO.none _)
      | (with_reducible refine LeO.ite ?_ ?_)
      | (with_reducible refine LeO.bind ?_ (fun _ => ?_))
      | exact ih0 _ _ _ _ _ _
      | exact ih1 _ _ _
      | exact ih2 _ _ _ _
      | exact lex_Lex.mono _ _
      | exact wickerlaw05_Awake.mono _
      | exact LeO.none _
      | refine LeO.ite ?_ ?_
      | refine LeO.bind ?_ (fun _ => ?_)
set_option maxHeartbeats 8000000 in
set_option maxRecDepth 100000 in
theorem wickerlaw05_LexAgain.calls (k : Nat) (a0 : ByteArray) (r : Bool) (w : World) (h : wickerlaw05_LexAgain.f k a0 = some r) :
    Calls Tryd.prog 8 #[.string a0] w fun e w' => e = .returned (.bool r) ∧ Below w.heap.size w w' := by
  have hu45 := Tryd.underlying45
  have HB := Aside0.mk (Below.refl w.heap.size w)
  have H : (if (a0.size : Int) > 3000 then ((wickerlaw05_Awake.f k).bind fun t163 => (some t163)) else ((lex_Lex.f k a0).bind fun bt164 => (if bt164.2.2 = 0 then (wickerlaw05_LexAgain.l0 k a0 bt164.1 (⟨#[]⟩ : ByteArray) bt164.1 (bt164.1.length : Int) 0) else ((wickerlaw05_Awake.f k).bind fun t169 => (if t169 = true then (some ((bt164.1.length : Int) == 0)) else (some false)))))) = some r := h
  clear h
  by_cases c2 : (a0.size : Int) > 3000
  · rw [if_pos c2] at H
    have c2b0 : decide (3000 < (a0.size : Int)) = true := decide_eq_true c2
    have c2b1 : decide (3000 < a0.size) = true := decide_eq_true (by omega)
    clear c2
    replace H := Option.bind_eq_some_iff.mp H
    obtain ⟨t163, A30, H⟩ := H
    replace H : (some t163) = some r := H
    have A3 := Aside0.mk A30
    clear A30
    obtain rfl := Option.some.inj H
    go_enter Tryd.func8, Tryd.ntmps8
    go_wp2_with (first | (go_at_call 21; (with_reducible refine (wickerlaw05_Awake.calls k  t163 _ A3.out).mono ?_); rintro e w4 ⟨rfl, hb⟩; have n0_ := Aside0.mk (below_step (by repeat (first | (with_reducible first | exact HB.out | apply below_alloc | apply pw_below_drewN | apply below_drew1) | exact HB.out)) hb); clear HB; have HB := n0_; clear n0_; (try clear hb); (try clear hb2); (try clear hk); (try clear hi)))
    repeat (go_quiet (first | (go_at_call 21; (with_reducible refine (wickerlaw05_Awake.calls k  t163 _ A3.out).mono ?_); rintro e w4 ⟨rfl, hb⟩; have n0_ := Aside0.mk (below_step (by repeat (first | (with_reducible first | exact HB.out | apply below_alloc | apply pw_below_drewN | apply below_drew1) | exact HB.out)) hb); clear HB; have HB := n0_; clear n0_; (try clear hb); (try clear hb2); (try clear hk); (try clear hi))); try go_wp2_with (first | (go_at_call 21; (with_reducible refine (wickerlaw05_Awake.calls k  t163 _ A3.out).mono ?_); rintro e w4 ⟨rfl, hb⟩; have n0_ := Aside0.mk (below_step (by repeat (first | (with_reducible first | exact HB.out | apply below_alloc | apply pw_below_drewN | apply below_drew1) | exact HB.out)) hb); clear HB; have HB := n0_; clear n0_; (try clear hb); (try clear hb2); (try clear hk); (try clear hi))))
    go_ret
    exact ⟨by first | rfl | (simp [errW_none, errW_some] <;> rfl) | (simp [*, errW_none, errW_some] <;> rfl), by repeat (first | (with_reducible first | exact HB.out | apply below_alloc | apply pw_below_drewN | apply below_drew1) | exact HB.out)⟩
  · rw [if_neg c2] at H
    have c2b0 : decide (3000 < (a0.size : Int)) = false := decide_eq_false c2
    have c2b1 : decide (3000 < a0.size) = false := decide_eq_false (by omega)
    clear c2
    replace H := Option.bind_eq_some_iff.mp H
    obtain ⟨⟨t164, t165, t166⟩, A50, H⟩ := H
    replace H : (if t166 = 0 then (wickerlaw05_LexAgain.l0 k a0 t164 (⟨#[]⟩ : ByteArray) t164 (t164.length : Int) 0) else ((wickerlaw05_Awake.f k).bind fun t169 => (if t169 = true then (some ((t164.length : Int) == 0)) else (some false)))) = some r := H
    have A5 := Aside0.mk A50
    clear A50
    by_cases c6 : t166 = 0
    · rw [if_pos c6] at H
      have c6b0 : (t166 == 0) = true := beq_iff_eq.mpr c6
      have c6b1 : (t166 != 0) = false := bne_eq_false_iff_eq.mpr c6
      clear c6
      have H' := Aside0.mk H
      clear H
      go_enter Tryd.func8, Tryd.ntmps8
      go_wp2_with (first | (go_at_call 22; (with_reducible refine (lex_Lex.calls k a0 t164 t165 t166 _ A5.out).mono ?_); rintro e w7 ⟨v167, rfl, ho0, hb⟩; have n0_ := Aside0.mk (Kd.R_lower ho0 (below_size (by repeat (first | (with_reducible first | exact HB.out | apply below_alloc | apply pw_below_drewN | apply below_drew1) | exact HB.out)))); have n1_ := Aside0.mk (below_step (by repeat (first | (with_reducible first | exact HB.out | apply below_alloc | apply pw_below_drewN | apply below_drew1) | exact HB.out)) hb); clear HB; have HO168 := n0_; have HB := n1_; clear n0_ n1_; (try clear hb); (try clear hb2); (try clear hk); (try clear hi); (try clear ho0); obtain ⟨Ao8, co8, eo8⟩ := Kd.R_slice HO168.out; subst eo8))
      repeat (go_quiet (first | (go_at_call 22; (with_reducible refine (lex_Lex.calls k a0 t164 t165 t166 _ A5.out).mono ?_); rintro e w7 ⟨v167, rfl, ho0, hb⟩; have n0_ := Aside0.mk (Kd.R_lower ho0 (below_size (by repeat (first | (with_reducible first | exact HB.out | apply below_alloc | apply pw_below_drewN | apply below_drew1) | exact HB.out)))); have n1_ := Aside0.mk (below_step (by repeat (first | (with_reducible first | exact HB.out | apply below_alloc | apply pw_below_drewN | apply below_drew1) | exact HB.out)) hb); clear HB; have HO168 := n0_; have HB := n1_; clear n0_ n1_; (try clear hb); (try clear hb2); (try clear hk); (try clear hi); (try clear ho0); obtain ⟨Ao8, co8, eo8⟩ := Kd.R_slice HO168.out; subst eo8)); try go_wp2_with (first | (go_at_call 22; (with_reducible refine (lex_Lex.calls k a0 t164 t165 t166 _ A5.out).mono ?_); rintro e w7 ⟨v167, rfl, ho0, hb⟩; have n0_ := Aside0.mk (Kd.R_lower ho0 (below_size (by repeat (first | (with_reducible first | exact HB.out | apply below_alloc | apply pw_below_drewN | apply below_drew1) | exact HB.out)))); have n1_ := Aside0.mk (below_step (by repeat (first | (with_reducible first | exact HB.out | apply below_alloc | apply pw_below_drewN | apply below_drew1) | exact HB.out)) hb); clear HB; have HO168 := n0_; have HB := n1_; clear n0_ n1_; (try clear hb); (try clear hb2); (try clear hk); (try clear hi); (try clear ho0); obtain ⟨Ao8, co8, eo8⟩ := Kd.R_slice HO168.out; subst eo8)))
      go_loopg [6, 32] k (fun kq v6 v32 w' => ∃ (x6_1 : ByteArray) (x32_1 : Int), v6 = .string x6_1 ∧ v32 = .int .i64 x32_1 ∧ Aside0 (wickerlaw05_LexAgain.l0 kq a0 t164 x6_1 t164 (t164.length : Int) x32_1 = some r) ∧ Aside0 (kq ≤ k) ∧ Aside0 (Kd.R k45 45 w' w.heap.size (fun _ => True) (.slice Ao8 t164.length co8) t164) ∧ Aside0 (Kd.R k45 45 w' w.heap.size (fun _ => True) (.slice Ao8 t164.length co8) t164) ∧ Aside0 (Below w.heap.size w w'))
      case atStart => exact ⟨((⟨#[]⟩ : ByteArray)), (0), (by first | rfl | (simp; done) | (simp [*]; done)), (by first | rfl | (simp; done) | (simp [*]; done)), H', ⟨Nat.le_refl _⟩, ⟨by (with_reducible repeat (first | apply Kd.R_alloc | apply Kd.R_drewN | apply Kd.R_drew)); exact HO168.out⟩, ⟨by (with_reducible repeat (first | apply Kd.R_alloc | apply Kd.R_drewN | apply Kd.R_drew)); exact HO168.out⟩, ⟨by repeat (first | (with_reducible first | exact HB.out | apply below_alloc | apply pw_below_drewN | apply below_drew1) | exact HB.out)⟩⟩
      case round =>
        clear H'
        try clear c2
        try clear c2b0
        try clear c2b1
        try clear p2
        try clear c6
        try clear c6b0
        try clear c6b1
        try clear c8
        obtain ⟨x6_1, x32_1, rfl, rfl, HA, HK1, HO_3, HO_30, HB⟩ := hrel
        cases gk with
        | zero => exact absurd HA.out (by simp [wickerlaw05_LexAgain.l0])
        | succ k1 =>
          have H := HA.out
          clear HA
          simp only [wickerlaw05_LexAgain.l0] at H
          by_cases c9 : x32_1 < (t164.length : Int)
          · rw [if_pos c9] at H
            have c9b0 : decide (x32_1 < (t164.length : Int)) = true := decide_eq_true c9
            clear c9
            by_cases c10 : 0 ≤ x32_1
            · rw [if_pos c10] at H
              have c10b0 : decide (0 ≤ x32_1) = true := decide_eq_true c10
              clear c10
              by_cases c11 : x32_1 < (t164.length : Int)
              · rw [if_pos c11] at H
                have c11b0 : decide (x32_1 < (t164.length : Int)) = true := decide_eq_true c11
                clear c11
                by_cases c12 : x32_1 > 0
                · rw [if_pos c12] at H
                  have c12b0 : decide (0 < x32_1) = true := decide_eq_true c12
                  clear c12
                  obtain ⟨ji13, hji13⟩ : ∃ j_ : Int, (wrap64 (x32_1 - 1)) = j_ := ⟨_, rfl⟩
                  replace H : (if 0 ≤ (ji13) then (if (ji13) < (t164.length : Int) then (if ((rd_T45 t164 (ji13)).f2) ≥ ((rd_T45 t164 x32_1).f2) then (if ((rd_T45 t164 x32_1).f0) = 5 then (if ((rd_T45 t164 (ji13)).f2) > ((rd_T45 t164 x32_1).f2) then (some false) else (if ((rd_T45 t164 x32_1).f2) < 0 then (some false) else (if ((rd_T45 t164 x32_1).f2) > (a0.size : Int) then (some false) else ((wickerlaw05_show.f ((rd_T45 t164 x32_1).f0) ((rd_T45 t164 x32_1).f1) ((rd_T45 t164 x32_1).f2)).bind fun t174 => (if t174.size + 1 ≤ 9223372036854775807 then (if x6_1.size + (t174 ++ (⟨#[32]⟩ : ByteArray)).size ≤ 9223372036854775807 then (wickerlaw05_LexAgain.l0 k1 a0 t164 (x6_1 ++ (t174 ++ (⟨#[32]⟩ : ByteArray))) t164 (t164.length : Int) (wrap64 (x32_1 + 1))) else (none)) else (none)))))) else (some false)) else (if ((rd_T45 t164 x32_1).f2) < 0 then (some false) else (if ((rd_T45 t164 x32_1).f2) > (a0.size : Int) then (some false) else ((wickerlaw05_show.f ((rd_T45 t164 x32_1).f0) ((rd_T45 t164 x32_1).f1) ((rd_T45 t164 x32_1).f2)).bind fun t175 => (if t175.size + 1 ≤ 9223372036854775807 then (if x6_1.size + (t175 ++ (⟨#[32]⟩ : ByteArray)).size ≤ 9223372036854775807 then (wickerlaw05_LexAgain.l0 k1 a0 t164 (x6_1 ++ (t175 ++ (⟨#[32]⟩ : ByteArray))) t164 (t164.length : Int) (wrap64 (x32_1 + 1))) else (none)) else (none)))))) else (none)) else (none)) = some r := by first | (rw [hji13] at H; exact H) | (simp only [hji13] at H ⊢; exact H)
                  have hji13w : (IntKind.i64.wrap (x32_1 - 1)) = ji13 := (i64_w _).trans hji13
                  by_cases c14 : 0 ≤ (ji13)
                  · rw [if_pos c14] at H
                    have c14b0 : decide (0 ≤ (ji13)) = true := decide_eq_true c14
                    clear c14
                    by_cases c15 : (ji13) < (t164.length : Int)
                    · rw [if_pos c15] at H
                      have c15b0 : decide ((ji13) < (t164.length : Int)) = true := decide_eq_true c15
                      clear c15
                      by_cases c16 : ((rd_T45 t164 (ji13)).f2) ≥ ((rd_T45 t164 x32_1).f2)
                      · rw [if_pos c16] at H
                        have c16b0 : decide (((rd_T45 t164 x32_1).f2) ≤ ((rd_T45 t164 (ji13)).f2)) = true := decide_eq_true c16
                        clear c16
                        by_cases c17 : ((rd_T45 t164 x32_1).f0) = 5
                        · rw [if_pos c17] at H
                          have c17b0 : (((rd_T45 t164 x32_1).f0) == 5) = true := beq_iff_eq.mpr c17
                          have c17b1 : (((rd_T45 t164 x32_1).f0) != 5) = false := bne_eq_false_iff_eq.mpr c17
                          clear c17
                          by_cases c18 : ((rd_T45 t164 (ji13)).f2) > ((rd_T45 t164 x32_1).f2)
                          · rw [if_pos c18] at H
                            have c18b0 : decide (((rd_T45 t164 x32_1).f2) < ((rd_T45 t164 (ji13)).f2)) = true := decide_eq_true c18
                            clear c18
                            obtain rfl := Option.some.inj H
                            have p170 : 0 ≤ (x32_1 : Int) := of_decide_eq_true (by first | (with_reducible assumption) | assumption)
                            have q170 : x32_1 < (t164.length : Int) := of_decide_eq_true (by first | (with_reducible assumption) | assumption)
                            obtain ⟨ad170, e170, hx170_0, hx170_1, hx170_2⟩ := at_T45 (Kd.R_reads' HO_30.out).2.2 x32_1 p170 q170
                            cases e170
                            replace p170 := eq_true p170
                            replace q170 := eq_true q170
                            go_wp2_with (first | ((with_reducible refine gate_dst (N := 8) rfl ?_); (try (refine gate_guard (by rfl) ?_; dsimp only)); refine box_event ?hg (N := 8) ?hd (cs := #[.int .i64 0, .string (⟨#[]⟩ : ByteArray), .int .i64 0]) (t := 45) ?hr ?_; (case hd => rfl); (case hg => rfl); (case hr => first | (go_simp; done) | (go_simp; rfl)); intro gb171 hg w19 hbox hb; have n0_ := Aside0.mk (Kd.R_below (Kd.R_elderB (by (with_reducible repeat (first | apply Kd.R_alloc | apply Kd.R_drewN | apply Kd.R_drew)); exact HO_3.out) gb171 (Nat.le_of_eq hg.symm)) hb); have n1_ := Aside0.mk (Kd.R_below (Kd.R_elderB (by (with_reducible repeat (first | apply Kd.R_alloc | apply Kd.R_drewN | apply Kd.R_drew)); exact HO_30.out) gb171 (Nat.le_of_eq hg.symm)) hb); have n2_ := Aside0.mk (below_step (by repeat (first | (with_reducible first | exact HB.out | apply below_alloc | apply pw_below_drewN | apply below_drew1) | exact HB.out)) hb); have n3_ := Aside0.mk (hbox); have n4_ := Aside0.mk ((by rw [hg]; exact (below_size (by repeat (first | (with_reducible first | exact HB.out | apply below_alloc | apply pw_below_drewN | apply below_drew1) | exact HB.out))) : w.heap.size ≤ gb171)); have n5_ := Aside0.mk ((by rw [hg]; exact (below_size (by repeat (first | (with_reducible first | exact HB.out | apply below_alloc | apply pw_below_drewN | apply below_drew1) | exact HB.out))) : w.heap.size ≤ gb171)); clear HO_3; clear HO_30; clear HB; have HO_3 := n0_; have HO_30 := n1_; have HB := n2_; have BK171 := n3_; have GW171 := n4_; have GE171 := n5_; clear n0_ n1_ n2_ n3_ n4_ n5_; have GQ_ := Aside0.mk (show ad170.block ≠ gb171 by rw [hg]; exact Go.Proofs.YtghdnijdbmekjaaDoorOwn.own_blkne (hx170_0)); clear hb hbox hg; have hcz20_0 : w19.cell? ⟨gb171, 0, none⟩ = some (.int .i64 0) := (blk_cell BK171.out 0).trans rfl; have hcz20_1 : w19.cell? ⟨gb171, 1, none⟩ = some (.string (⟨#[]⟩ : ByteArray)) := (blk_cell BK171.out 1).trans rfl; have hcz20_2 : w19.cell? ⟨gb171, 2, none⟩ = some (.int .i64 0) := (blk_cell BK171.out 2).trans rfl; have hfz20_0 := blk_frozen BK171.out 0; have hfz20_1 := blk_frozen BK171.out 1; have hfz20_2 := blk_frozen BK171.out 2; have p172 : 0 ≤ ((ji13) : Int) := of_decide_eq_true (by first | (with_reducible assumption) | assumption); have q172 : (ji13) < (t164.length : Int) := of_decide_eq_true (by first | (with_reducible assumption) | assumption); obtain ⟨ad172, e172, hx172_0, hx172_1, hx172_2⟩ := at_T45 (Kd.R_reads' HO_3.out).2.2 (ji13) p172 q172; obtain rfl : ad170 = ad172 := (by injection e172); have hn172_0 : ad170.block ≠ gb171 := GQ_.out; have hn172_1 : ad170.block ≠ gb171 := GQ_.out; have hn172_2 : ad170.block ≠ gb171 := GQ_.out; replace hx172_0 := (cell_far (p := ⟨gb171, 0, none⟩) (by first | (rw [add_block]; exact hn172_0) | (show (Addr.add _ _).block ≠ _; rw [add_block]; exact hn172_0) | exact hn172_0) (.int .i64 ((rd_T45 t164 x32_1).f0))).trans hx172_0; replace hx172_1 := (cell_far (p := ⟨gb171, 0, none⟩) (by first | (rw [add_block]; exact hn172_0) | (show (Addr.add _ _).block ≠ _; rw [add_block]; exact hn172_0) | exact hn172_0) (.int .i64 ((rd_T45 t164 x32_1).f0))).trans hx172_1; replace hx172_2 := (cell_far (p := ⟨gb171, 0, none⟩) (by first | (rw [add_block]; exact hn172_0) | (show (Addr.add _ _).block ≠ _; rw [add_block]; exact hn172_0) | exact hn172_0) (.int .i64 ((rd_T45 t164 x32_1).f0))).trans hx172_2; replace hx172_0 := (cell_far (p := ⟨gb171, 1, none⟩) (by first | (rw [add_block]; exact hn172_1) | (show (Addr.add _ _).block ≠ _; rw [add_block]; exact hn172_1) | exact hn172_1) (.string ((rd_T45 t164 x32_1).f1))).trans hx172_0; replace hx172_1 := (cell_far (p := ⟨gb171, 1, none⟩) (by first | (rw [add_block]; exact hn172_1) | (show (Addr.add _ _).block ≠ _; rw [add_block]; exact hn172_1) | exact hn172_1) (.string ((rd_T45 t164 x32_1).f1))).trans hx172_1; replace hx172_2 := (cell_far (p := ⟨gb171, 1, none⟩) (by first | (rw [add_block]; exact hn172_1) | (show (Addr.add _ _).block ≠ _; rw [add_block]; exact hn172_1) | exact hn172_1) (.string ((rd_T45 t164 x32_1).f1))).trans hx172_2; replace hx172_0 := (cell_far (p := ⟨gb171, 2, none⟩) (by first | (rw [add_block]; exact hn172_2) | (show (Addr.add _ _).block ≠ _; rw [add_block]; exact hn172_2) | exact hn172_2) (.int .i64 ((rd_T45 t164 x32_1).f2))).trans hx172_0; replace hx172_1 := (cell_far (p := ⟨gb171, 2, none⟩) (by first | (rw [add_block]; exact hn172_2) | (show (Addr.add _ _).block ≠ _; rw [add_block]; exact hn172_2) | exact hn172_2) (.int .i64 ((rd_T45 t164 x32_1).f2))).trans hx172_1; replace hx172_2 := (cell_far (p := ⟨gb171, 2, none⟩) (by first | (rw [add_block]; exact hn172_2) | (show (Addr.add _ _).block ≠ _; rw [add_block]; exact hn172_2) | exact hn172_2) (.int .i64 ((rd_T45 t164 x32_1).f2))).trans hx172_2; (try have hy172_0 := fun (n_ : Nat) => (show (((((w19.drewN n_).setCell ⟨gb171, 0, none⟩ (.int .i64 ((rd_T45 t164 x32_1).f0))).setCell ⟨gb171, 1, none⟩ (.string ((rd_T45 t164 x32_1).f1))).setCell ⟨gb171, 2, none⟩ (.int .i64 ((rd_T45 t164 x32_1).f2)))).cell? _ = some _ from hx172_0)); (try have hy172_1 := fun (n_ : Nat) => (show (((((w19.drewN n_).setCell ⟨gb171, 0, none⟩ (.int .i64 ((rd_T45 t164 x32_1).f0))).setCell ⟨gb171, 1, none⟩ (.string ((rd_T45 t164 x32_1).f1))).setCell ⟨gb171, 2, none⟩ (.int .i64 ((rd_T45 t164 x32_1).f2)))).cell? _ = some _ from hx172_1)); (try have hy172_2 := fun (n_ : Nat) => (show (((((w19.drewN n_).setCell ⟨gb171, 0, none⟩ (.int .i64 ((rd_T45 t164 x32_1).f0))).setCell ⟨gb171, 1, none⟩ (.string ((rd_T45 t164 x32_1).f1))).setCell ⟨gb171, 2, none⟩ (.int .i64 ((rd_T45 t164 x32_1).f2)))).cell? _ = some _ from hx172_2)); clear hn172_0; clear hn172_1; clear hn172_2; replace p172 := eq_true p172; replace q172 := eq_true q172; have p173 : 0 ≤ ((ji13) : Int) := of_decide_eq_true (by first | (with_reducible assumption) | assumption); have q173 : (ji13) < (t164.length : Int) := of_decide_eq_true (by first | (with_reducible assumption) | assumption); obtain ⟨ad173, e173, hx173_0, hx173_1, hx173_2⟩ := at_T45 (Kd.R_reads' HO_3.out).2.2 (ji13) p173 q173; obtain rfl : ad170 = ad173 := (by injection e173); have hn173_0 : ad170.block ≠ gb171 := GQ_.out; have hn173_1 : ad170.block ≠ gb171 := GQ_.out; have hn173_2 : ad170.block ≠ gb171 := GQ_.out; replace hx173_0 := (cell_far (p := ⟨gb171, 0, none⟩) (by first | (rw [add_block]; exact hn173_0) | (show (Addr.add _ _).block ≠ _; rw [add_block]; exact hn173_0) | exact hn173_0) (.int .i64 ((rd_T45 t164 x32_1).f0))).trans hx173_0; replace hx173_1 := (cell_far (p := ⟨gb171, 0, none⟩) (by first | (rw [add_block]; exact hn173_0) | (show (Addr.add _ _).block ≠ _; rw [add_block]; exact hn173_0) | exact hn173_0) (.int .i64 ((rd_T45 t164 x32_1).f0))).trans hx173_1; replace hx173_2 := (cell_far (p := ⟨gb171, 0, none⟩) (by first | (rw [add_block]; exact hn173_0) | (show (Addr.add _ _).block ≠ _; rw [add_block]; exact hn173_0) | exact hn173_0) (.int .i64 ((rd_T45 t164 x32_1).f0))).trans hx173_2; replace hx173_0 := (cell_far (p := ⟨gb171, 1, none⟩) (by first | (rw [add_block]; exact hn173_1) | (show (Addr.add _ _).block ≠ _; rw [add_block]; exact hn173_1) | exact hn173_1) (.string ((rd_T45 t164 x32_1).f1))).trans hx173_0; replace hx173_1 := (cell_far (p := ⟨gb171, 1, none⟩) (by first | (rw [add_block]; exact hn173_1) | (show (Addr.add _ _).block ≠ _; rw [add_block]; exact hn173_1) | exact hn173_1) (.string ((rd_T45 t164 x32_1).f1))).trans hx173_1; replace hx173_2 := (cell_far (p := ⟨gb171, 1, none⟩) (by first | (rw [add_block]; exact hn173_1) | (show (Addr.add _ _).block ≠ _; rw [add_block]; exact hn173_1) | exact hn173_1) (.string ((rd_T45 t164 x32_1).f1))).trans hx173_2; replace hx173_0 := (cell_far (p := ⟨gb171, 2, none⟩) (by first | (rw [add_block]; exact hn173_2) | (show (Addr.add _ _).block ≠ _; rw [add_block]; exact hn173_2) | exact hn173_2) (.int .i64 ((rd_T45 t164 x32_1).f2))).trans hx173_0; replace hx173_1 := (cell_far (p := ⟨gb171, 2, none⟩) (by first | (rw [add_block]; exact hn173_2) | (show (Addr.add _ _).block ≠ _; rw [add_block]; exact hn173_2) | exact hn173_2) (.int .i64 ((rd_T45 t164 x32_1).f2))).trans hx173_1; replace hx173_2 := (cell_far (p := ⟨gb171, 2, none⟩) (by first | (rw [add_block]; exact hn173_2) | (show (Addr.add _ _).block ≠ _; rw [add_block]; exact hn173_2) | exact hn173_2) (.int .i64 ((rd_T45 t164 x32_1).f2))).trans hx173_2; (try have hy173_0 := fun (n_ : Nat) => (show (((((w19.drewN n_).setCell ⟨gb171, 0, none⟩ (.int .i64 ((rd_T45 t164 x32_1).f0))).setCell ⟨gb171, 1, none⟩ (.string ((rd_T45 t164 x32_1).f1))).setCell ⟨gb171, 2, none⟩ (.int .i64 ((rd_T45 t164 x32_1).f2)))).cell? _ = some _ from hx173_0)); (try have hy173_1 := fun (n_ : Nat) => (show (((((w19.drewN n_).setCell ⟨gb171, 0, none⟩ (.int .i64 ((rd_T45 t164 x32_1).f0))).setCell ⟨gb171, 1, none⟩ (.string ((rd_T45 t164 x32_1).f1))).setCell ⟨gb171, 2, none⟩ (.int .i64 ((rd_T45 t164 x32_1).f2)))).cell? _ = some _ from hx173_1)); (try have hy173_2 := fun (n_ : Nat) => (show (((((w19.drewN n_).setCell ⟨gb171, 0, none⟩ (.int .i64 ((rd_T45 t164 x32_1).f0))).setCell ⟨gb171, 1, none⟩ (.string ((rd_T45 t164 x32_1).f1))).setCell ⟨gb171, 2, none⟩ (.int .i64 ((rd_T45 t164 x32_1).f2)))).cell? _ = some _ from hx173_2)); clear hn173_0; clear hn173_1; clear hn173_2; replace p173 := eq_true p173; replace q173 := eq_true q173))
                            repeat (go_quiet (fail); try go_wp2_with (fail))
                            go_ret
                            exact ⟨by first | rfl | (simp [errW_none, errW_some] <;> rfl) | (simp only [← hji13]; first | rfl | (simp [errW_none, errW_some] <;> rfl)) | (simp [*, errW_none, errW_some] <;> rfl), by repeat (first | (with_reducible first | exact HB.out | apply below_alloc | apply pw_below_drewN | apply below_drew1 | refine below_set ?_ GE171.out) | exact HB.out)⟩
                          · rw [if_neg c18] at H
                            have c18b0 : decide (((rd_T45 t164 x32_1).f2) < ((rd_T45 t164 (ji13)).f2)) = false := decide_eq_false c18
                            clear c18
                            by_cases c21 : ((rd_T45 t164 x32_1).f2) < 0
                            · rw [if_pos c21] at H
                              have c21b0 : decide (((rd_T45 t164 x32_1).f2) < 0) = true := decide_eq_true c21
                              clear c21
                              obtain rfl := Option.some.inj H
                              have p170 : 0 ≤ (x32_1 : Int) := of_decide_eq_true (by first | (with_reducible assumption) | assumption)
                              have q170 : x32_1 < (t164.length : Int) := of_decide_eq_true (by first | (with_reducible assumption) | assumption)
                              obtain ⟨ad170, e170, hx170_0, hx170_1, hx170_2⟩ := at_T45 (Kd.R_reads' HO_30.out).2.2 x32_1 p170 q170
                              cases e170
                              replace p170 := eq_true p170
                              replace q170 := eq_true q170
                              go_wp2_with (first | ((with_reducible refine gate_dst (N := 8) rfl ?_); (try (refine gate_guard (by rfl) ?_; dsimp only)); refine box_event ?hg (N := 8) ?hd (cs := #[.int .i64 0, .string (⟨#[]⟩ : ByteArray), .int .i64 0]) (t := 45) ?hr ?_; (case hd => rfl); (case hg => rfl); (case hr => first | (go_simp; done) | (go_simp; rfl)); intro gb171 hg w22 hbox hb; have n0_ := Aside0.mk (Kd.R_below (Kd.R_elderB (by (with_reducible repeat (first | apply Kd.R_alloc | apply Kd.R_drewN | apply Kd.R_drew)); exact HO_3.out) gb171 (Nat.le_of_eq hg.symm)) hb); have n1_ := Aside0.mk (Kd.R_below (Kd.R_elderB (by (with_reducible repeat (first | apply Kd.R_alloc | apply Kd.R_drewN | apply Kd.R_drew)); exact HO_30.out) gb171 (Nat.le_of_eq hg.symm)) hb); have n2_ := Aside0.mk (below_step (by repeat (first | (with_reducible first | exact HB.out | apply below_alloc | apply pw_below_drewN | apply below_drew1) | exact HB.out)) hb); have n3_ := Aside0.mk (hbox); have n4_ := Aside0.mk ((by rw [hg]; exact (below_size (by repeat (first | (with_reducible first | exact HB.out | apply below_alloc | apply pw_below_drewN | apply below_drew1) | exact HB.out))) : w.heap.size ≤ gb171)); have n5_ := Aside0.mk ((by rw [hg]; exact (below_size (by repeat (first | (with_reducible first | exact HB.out | apply below_alloc | apply pw_below_drewN | apply below_drew1) | exact HB.out))) : w.heap.size ≤ gb171)); clear HO_3; clear HO_30; clear HB; have HO_3 := n0_; have HO_30 := n1_; have HB := n2_; have BK171 := n3_; have GW171 := n4_; have GE171 := n5_; clear n0_ n1_ n2_ n3_ n4_ n5_; have GQ_ := Aside0.mk (show ad170.block ≠ gb171 by rw [hg]; exact Go.Proofs.YtghdnijdbmekjaaDoorOwn.own_blkne (hx170_0)); clear hb hbox hg; have hcz23_0 : w22.cell? ⟨gb171, 0, none⟩ = some (.int .i64 0) := (blk_cell BK171.out 0).trans rfl; have hcz23_1 : w22.cell? ⟨gb171, 1, none⟩ = some (.string (⟨#[]⟩ : ByteArray)) := (blk_cell BK171.out 1).trans rfl; have hcz23_2 : w22.cell? ⟨gb171, 2, none⟩ = some (.int .i64 0) := (blk_cell BK171.out 2).trans rfl; have hfz23_0 := blk_frozen BK171.out 0; have hfz23_1 := blk_frozen BK171.out 1; have hfz23_2 := blk_frozen BK171.out 2; have p172 : 0 ≤ ((ji13) : Int) := of_decide_eq_true (by first | (with_reducible assumption) | assumption); have q172 : (ji13) < (t164.length : Int) := of_decide_eq_true (by first | (with_reducible assumption) | assumption); obtain ⟨ad172, e172, hx172_0, hx172_1, hx172_2⟩ := at_T45 (Kd.R_reads' HO_3.out).2.2 (ji13) p172 q172; obtain rfl : ad170 = ad172 := (by injection e172); have hn172_0 : ad170.block ≠ gb171 := GQ_.out; have hn172_1 : ad170.block ≠ gb171 := GQ_.out; have hn172_2 : ad170.block ≠ gb171 := GQ_.out; replace hx172_0 := (cell_far (p := ⟨gb171, 0, none⟩) (by first | (rw [add_block]; exact hn172_0) | (show (Addr.add _ _).block ≠ _; rw [add_block]; exact hn172_0) | exact hn172_0) (.int .i64 ((rd_T45 t164 x32_1).f0))).trans hx172_0; replace hx172_1 := (cell_far (p := ⟨gb171, 0, none⟩) (by first | (rw [add_block]; exact hn172_0) | (show (Addr.add _ _).block ≠ _; rw [add_block]; exact hn172_0) | exact hn172_0) (.int .i64 ((rd_T45 t164 x32_1).f0))).trans hx172_1; replace hx172_2 := (cell_far (p := ⟨gb171, 0, none⟩) (by first | (rw [add_block]; exact hn172_0) | (show (Addr.add _ _).block ≠ _; rw [add_block]; exact hn172_0) | exact hn172_0) (.int .i64 ((rd_T45 t164 x32_1).f0))).trans hx172_2; replace hx172_0 := (cell_far (p := ⟨gb171, 1, none⟩) (by first | (rw [add_block]; exact hn172_1) | (show (Addr.add _ _).block ≠ _; rw [add_block]; exact hn172_1) | exact hn172_1) (.string ((rd_T45 t164 x32_1).f1))).trans hx172_0; replace hx172_1 := (cell_far (p := ⟨gb171, 1, none⟩) (by first | (rw [add_block]; exact hn172_1) | (show (Addr.add _ _).block ≠ _; rw [add_block]; exact hn172_1) | exact hn172_1) (.string ((rd_T45 t164 x32_1).f1))).trans hx172_1; replace hx172_2 := (cell_far (p := ⟨gb171, 1, none⟩) (by first | (rw [add_block]; exact hn172_1) | (show (Addr.add _ _).block ≠ _; rw [add_block]; exact hn172_1) | exact hn172_1) (.string ((rd_T45 t164 x32_1).f1))).trans hx172_2; replace hx172_0 := (cell_far (p := ⟨gb171, 2, none⟩) (by first | (rw [add_block]; exact hn172_2) | (show (Addr.add _ _).block ≠ _; rw [add_block]; exact hn172_2) | exact hn172_2) (.int .i64 ((rd_T45 t164 x32_1).f2))).trans hx172_0; replace hx172_1 := (cell_far (p := ⟨gb171, 2, none⟩) (by first | (rw [add_block]; exact hn172_2) | (show (Addr.add _ _).block ≠ _; rw [add_block]; exact hn172_2) | exact hn172_2) (.int .i64 ((rd_T45 t164 x32_1).f2))).trans hx172_1; replace hx172_2 := (cell_far (p := ⟨gb171, 2, none⟩) (by first | (rw [add_block]; exact hn172_2) | (show (Addr.add _ _).block ≠ _; rw [add_block]; exact hn172_2) | exact hn172_2) (.int .i64 ((rd_T45 t164 x32_1).f2))).trans hx172_2; (try have hy172_0 := fun (n_ : Nat) => (show (((((w22.drewN n_).setCell ⟨gb171, 0, none⟩ (.int .i64 ((rd_T45 t164 x32_1).f0))).setCell ⟨gb171, 1, none⟩ (.string ((rd_T45 t164 x32_1).f1))).setCell ⟨gb171, 2, none⟩ (.int .i64 ((rd_T45 t164 x32_1).f2)))).cell? _ = some _ from hx172_0)); (try have hy172_1 := fun (n_ : Nat) => (show (((((w22.drewN n_).setCell ⟨gb171, 0, none⟩ (.int .i64 ((rd_T45 t164 x32_1).f0))).setCell ⟨gb171, 1, none⟩ (.string ((rd_T45 t164 x32_1).f1))).setCell ⟨gb171, 2, none⟩ (.int .i64 ((rd_T45 t164 x32_1).f2)))).cell? _ = some _ from hx172_1)); (try have hy172_2 := fun (n_ : Nat) => (show (((((w22.drewN n_).setCell ⟨gb171, 0, none⟩ (.int .i64 ((rd_T45 t164 x32_1).f0))).setCell ⟨gb171, 1, none⟩ (.string ((rd_T45 t164 x32_1).f1))).setCell ⟨gb171, 2, none⟩ (.int .i64 ((rd_T45 t164 x32_1).f2)))).cell? _ = some _ from hx172_2)); clear hn172_0; clear hn172_1; clear hn172_2; replace p172 := eq_true p172; replace q172 := eq_true q172; have p173 : 0 ≤ ((ji13) : Int) := of_decide_eq_true (by first | (with_reducible assumption) | assumption); have q173 : (ji13) < (t164.length : Int) := of_decide_eq_true (by first | (with_reducible assumption) | assumption); obtain ⟨ad173, e173, hx173_0, hx173_1, hx173_2⟩ := at_T45 (Kd.R_reads' HO_3.out).2.2 (ji13) p173 q173; obtain rfl : ad170 = ad173 := (by injection e173); have hn173_0 : ad170.block ≠ gb171 := GQ_.out; have hn173_1 : ad170.block ≠ gb171 := GQ_.out; have hn173_2 : ad170.block ≠ gb171 := GQ_.out; replace hx173_0 := (cell_far (p := ⟨gb171, 0, none⟩) (by first | (rw [add_block]; exact hn173_0) | (show (Addr.add _ _).block ≠ _; rw [add_block]; exact hn173_0) | exact hn173_0) (.int .i64 ((rd_T45 t164 x32_1).f0))).trans hx173_0; replace hx173_1 := (cell_far (p := ⟨gb171, 0, none⟩) (by first | (rw [add_block]; exact hn173_0) | (show (Addr.add _ _).block ≠ _; rw [add_block]; exact hn173_0) | exact hn173_0) (.int .i64 ((rd_T45 t164 x32_1).f0))).trans hx173_1; replace hx173_2 := (cell_far (p := ⟨gb171, 0, none⟩) (by first | (rw [add_block]; exact hn173_0) | (show (Addr.add _ _).block ≠ _; rw [add_block]; exact hn173_0) | exact hn173_0) (.int .i64 ((rd_T45 t164 x32_1).f0))).trans hx173_2; replace hx173_0 := (cell_far (p := ⟨gb171, 1, none⟩) (by first | (rw [add_block]; exact hn173_1) | (show (Addr.add _ _).block ≠ _; rw [add_block]; exact hn173_1) | exact hn173_1) (.string ((rd_T45 t164 x32_1).f1))).trans hx173_0; replace hx173_1 := (cell_far (p := ⟨gb171, 1, none⟩) (by first | (rw [add_block]; exact hn173_1) | (show (Addr.add _ _).block ≠ _; rw [add_block]; exact hn173_1) | exact hn173_1) (.string ((rd_T45 t164 x32_1).f1))).trans hx173_1; replace hx173_2 := (cell_far (p := ⟨gb171, 1, none⟩) (by first | (rw [add_block]; exact hn173_1) | (show (Addr.add _ _).block ≠ _; rw [add_block]; exact hn173_1) | exact hn173_1) (.string ((rd_T45 t164 x32_1).f1))).trans hx173_2; replace hx173_0 := (cell_far (p := ⟨gb171, 2, none⟩) (by first | (rw [add_block]; exact hn173_2) | (show (Addr.add _ _).block ≠ _; rw [add_block]; exact hn173_2) | exact hn173_2) (.int .i64 ((rd_T45 t164 x32_1).f2))).trans hx173_0; replace hx173_1 := (cell_far (p := ⟨gb171, 2, none⟩) (by first | (rw [add_block]; exact hn173_2) | (show (Addr.add _ _).block ≠ _; rw [add_block]; exact hn173_2) | exact hn173_2) (.int .i64 ((rd_T45 t164 x32_1).f2))).trans hx173_1; replace hx173_2 := (cell_far (p := ⟨gb171, 2, none⟩) (by first | (rw [add_block]; exact hn173_2) | (show (Addr.add _ _).block ≠ _; rw [add_block]; exact hn173_2) | exact hn173_2) (.int .i64 ((rd_T45 t164 x32_1).f2))).trans hx173_2; (try have hy173_0 := fun (n_ : Nat) => (show (((((w22.drewN n_).setCell ⟨gb171, 0, none⟩ (.int .i64 ((rd_T45 t164 x32_1).f0))).setCell ⟨gb171, 1, none⟩ (.string ((rd_T45 t164 x32_1).f1))).setCell ⟨gb171, 2, none⟩ (.int .i64 ((rd_T45 t164 x32_1).f2)))).cell? _ = some _ from hx173_0)); (try have hy173_1 := fun (n_ : Nat) => (show (((((w22.drewN n_).setCell ⟨gb171, 0, none⟩ (.int .i64 ((rd_T45 t164 x32_1).f0))).setCell ⟨gb171, 1, none⟩ (.string ((rd_T45 t164 x32_1).f1))).setCell ⟨gb171, 2, none⟩ (.int .i64 ((rd_T45 t164 x32_1).f2)))).cell? _ = some _ from hx173_1)); (try have hy173_2 := fun (n_ : Nat) => (show (((((w22.drewN n_).setCell ⟨gb171, 0, none⟩ (.int .i64 ((rd_T45 t164 x32_1).f0))).setCell ⟨gb171, 1, none⟩ (.string ((rd_T45 t164 x32_1).f1))).setCell ⟨gb171, 2, none⟩ (.int .i64 ((rd_T45 t164 x32_1).f2)))).cell? _ = some _ from hx173_2)); clear hn173_0; clear hn173_1; clear hn173_2; replace p173 := eq_true p173; replace q173 := eq_true q173))
                              repeat (go_quiet (fail); try go_wp2_with (fail))
                              go_ret
                              exact ⟨by first | rfl | (simp [errW_none, errW_some] <;> rfl) | (simp only [← hji13]; first | rfl | (simp [errW_none, errW_some] <;> rfl)) | (simp [*, errW_none, errW_some] <;> rfl), by repeat (first | (with_reducible first | exact HB.out | apply below_alloc | apply pw_below_drewN | apply below_drew1 | refine below_set ?_ GE171.out) | exact HB.out)⟩
                            · rw [if_neg c21] at H
                              have c21b0 : decide (((rd_T45 t164 x32_1).f2) < 0) = false := decide_eq_false c21
                              clear c21
                              by_cases c24 : ((rd_T45 t164 x32_1).f2) > (a0.size : Int)
                              · rw [if_pos c24] at H
                                have c24b0 : decide ((a0.size : Int) < ((rd_T45 t164 x32_1).f2)) = true := decide_eq_true c24
                                clear c24
                                obtain rfl := Option.some.inj H
                                have p170 : 0 ≤ (x32_1 : Int) := of_decide_eq_true (by first | (with_reducible assumption) | assumption)
                                have q170 : x32_1 < (t164.length : Int) := of_decide_eq_true (by first | (with_reducible assumption) | assumption)
                                obtain ⟨ad170, e170, hx170_0, hx170_1, hx170_2⟩ := at_T45 (Kd.R_reads' HO_30.out).2.2 x32_1 p170 q170
                                cases e170
                                replace p170 := eq_true p170
                                replace q170 := eq_true q170
                                go_wp2_with (first | ((with_reducible refine gate_dst (N := 8) rfl ?_); (try (refine gate_guard (by rfl) ?_; dsimp only)); refine box_event ?hg (N := 8) ?hd (cs := #[.int .i64 0, .string (⟨#[]⟩ : ByteArray), .int .i64 0]) (t := 45) ?hr ?_; (case hd => rfl); (case hg => rfl); (case hr => first | (go_simp; done) | (go_simp; rfl)); intro gb171 hg w25 hbox hb; have n0_ := Aside0.mk (Kd.R_below (Kd.R_elderB (by (with_reducible repeat (first | apply Kd.R_alloc | apply Kd.R_drewN | apply Kd.R_drew)); exact HO_3.out) gb171 (Nat.le_of_eq hg.symm)) hb); have n1_ := Aside0.mk (Kd.R_below (Kd.R_elderB (by (with_reducible repeat (first | apply Kd.R_alloc | apply Kd.R_drewN | apply Kd.R_drew)); exact HO_30.out) gb171 (Nat.le_of_eq hg.symm)) hb); have n2_ := Aside0.mk (below_step (by repeat (first | (with_reducible first | exact HB.out | apply below_alloc | apply pw_below_drewN | apply below_drew1) | exact HB.out)) hb); have n3_ := Aside0.mk (hbox); have n4_ := Aside0.mk ((by rw [hg]; exact (below_size (by repeat (first | (with_reducible first | exact HB.out | apply below_alloc | apply pw_below_drewN | apply below_drew1) | exact HB.out))) : w.heap.size ≤ gb171)); have n5_ := Aside0.mk ((by rw [hg]; exact (below_size (by repeat (first | (with_reducible first | exact HB.out | apply below_alloc | apply pw_below_drewN | apply below_drew1) | exact HB.out))) : w.heap.size ≤ gb171)); clear HO_3; clear HO_30; clear HB; have HO_3 := n0_; have HO_30 := n1_; have HB := n2_; have BK171 := n3_; have GW171 := n4_; have GE171 := n5_; clear n0_ n1_ n2_ n3_ n4_ n5_; have GQ_ := Aside0.mk (show ad170.block ≠ gb171 by rw [hg]; exact Go.Proofs.YtghdnijdbmekjaaDoorOwn.own_blkne (hx170_0)); clear hb hbox hg; have hcz26_0 : w25.cell? ⟨gb171, 0, none⟩ = some (.int .i64 0) := (blk_cell BK171.out 0).trans rfl; have hcz26_1 : w25.cell? ⟨gb171, 1, none⟩ = some (.string (⟨#[]⟩ : ByteArray)) := (blk_cell BK171.out 1).trans rfl; have hcz26_2 : w25.cell? ⟨gb171, 2, none⟩ = some (.int .i64 0) := (blk_cell BK171.out 2).trans rfl; have hfz26_0 := blk_frozen BK171.out 0; have hfz26_1 := blk_frozen BK171.out 1; have hfz26_2 := blk_frozen BK171.out 2; have p172 : 0 ≤ ((ji13) : Int) := of_decide_eq_true (by first | (with_reducible assumption) | assumption); have q172 : (ji13) < (t164.length : Int) := of_decide_eq_true (by first | (with_reducible assumption) | assumption); obtain ⟨ad172, e172, hx172_0, hx172_1, hx172_2⟩ := at_T45 (Kd.R_reads' HO_3.out).2.2 (ji13) p172 q172; obtain rfl : ad170 = ad172 := (by injection e172); have hn172_0 : ad170.block ≠ gb171 := GQ_.out; have hn172_1 : ad170.block ≠ gb171 := GQ_.out; have hn172_2 : ad170.block ≠ gb171 := GQ_.out; replace hx172_0 := (cell_far (p := ⟨gb171, 0, none⟩) (by first | (rw [add_block]; exact hn172_0) | (show (Addr.add _ _).block ≠ _; rw [add_block]; exact hn172_0) | exact hn172_0) (.int .i64 ((rd_T45 t164 x32_1).f0))).trans hx172_0; replace hx172_1 := (cell_far (p := ⟨gb171, 0, none⟩) (by first | (rw [add_block]; exact hn172_0) | (show (Addr.add _ _).block ≠ _; rw [add_block]; exact hn172_0) | exact hn172_0) (.int .i64 ((rd_T45 t164 x32_1).f0))).trans hx172_1; replace hx172_2 := (cell_far (p := ⟨gb171, 0, none⟩) (by first | (rw [add_block]; exact hn172_0) | (show (Addr.add _ _).block ≠ _; rw [add_block]; exact hn172_0) | exact hn172_0) (.int .i64 ((rd_T45 t164 x32_1).f0))).trans hx172_2; replace hx172_0 := (cell_far (p := ⟨gb171, 1, none⟩) (by first | (rw [add_block]; exact hn172_1) | (show (Addr.add _ _).block ≠ _; rw [add_block]; exact hn172_1) | exact hn172_1) (.string ((rd_T45 t164 x32_1).f1))).trans hx172_0; replace hx172_1 := (cell_far (p := ⟨gb171, 1, none⟩) (by first | (rw [add_block]; exact hn172_1) | (show (Addr.add _ _).block ≠ _; rw [add_block]; exact hn172_1) | exact hn172_1) (.string ((rd_T45 t164 x32_1).f1))).trans hx172_1; replace hx172_2 := (cell_far (p := ⟨gb171, 1, none⟩) (by first | (rw [add_block]; exact hn172_1) | (show (Addr.add _ _).block ≠ _; rw [add_block]; exact hn172_1) | exact hn172_1) (.string ((rd_T45 t164 x32_1).f1))).trans hx172_2; replace hx172_0 := (cell_far (p := ⟨gb171, 2, none⟩) (by first | (rw [add_block]; exact hn172_2) | (show (Addr.add _ _).block ≠ _; rw [add_block]; exact hn172_2) | exact hn172_2) (.int .i64 ((rd_T45 t164 x32_1).f2))).trans hx172_0; replace hx172_1 := (cell_far (p := ⟨gb171, 2, none⟩) (by first | (rw [add_block]; exact hn172_2) | (show (Addr.add _ _).block ≠ _; rw [add_block]; exact hn172_2) | exact hn172_2) (.int .i64 ((rd_T45 t164 x32_1).f2))).trans hx172_1; replace hx172_2 := (cell_far (p := ⟨gb171, 2, none⟩) (by first | (rw [add_block]; exact hn172_2) | (show (Addr.add _ _).block ≠ _; rw [add_block]; exact hn172_2) | exact hn172_2) (.int .i64 ((rd_T45 t164 x32_1).f2))).trans hx172_2; (try have hy172_0 := fun (n_ : Nat) => (show (((((w25.drewN n_).setCell ⟨gb171, 0, none⟩ (.int .i64 ((rd_T45 t164 x32_1).f0))).setCell ⟨gb171, 1, none⟩ (.string ((rd_T45 t164 x32_1).f1))).setCell ⟨gb171, 2, none⟩ (.int .i64 ((rd_T45 t164 x32_1).f2)))).cell? _ = some _ from hx172_0)); (try have hy172_1 := fun (n_ : Nat) => (show (((((w25.drewN n_).setCell ⟨gb171, 0, none⟩ (.int .i64 ((rd_T45 t164 x32_1).f0))).setCell ⟨gb171, 1, none⟩ (.string ((rd_T45 t164 x32_1).f1))).setCell ⟨gb171, 2, none⟩ (.int .i64 ((rd_T45 t164 x32_1).f2)))).cell? _ = some _ from hx172_1)); (try have hy172_2 := fun (n_ : Nat) => (show (((((w25.drewN n_).setCell ⟨gb171, 0, none⟩ (.int .i64 ((rd_T45 t164 x32_1).f0))).setCell ⟨gb171, 1, none⟩ (.string ((rd_T45 t164 x32_1).f1))).setCell ⟨gb171, 2, none⟩ (.int .i64 ((rd_T45 t164 x32_1).f2)))).cell? _ = some _ from hx172_2)); clear hn172_0; clear hn172_1; clear hn172_2; replace p172 := eq_true p172; replace q172 := eq_true q172; have p173 : 0 ≤ ((ji13) : Int) := of_decide_eq_true (by first | (with_reducible assumption) | assumption); have q173 : (ji13) < (t164.length : Int) := of_decide_eq_true (by first | (with_reducible assumption) | assumption); obtain ⟨ad173, e173, hx173_0, hx173_1, hx173_2⟩ := at_T45 (Kd.R_reads' HO_3.out).2.2 (ji13) p173 q173; obtain rfl : ad170 = ad173 := (by injection e173); have hn173_0 : ad170.block ≠ gb171 := GQ_.out; have hn173_1 : ad170.block ≠ gb171 := GQ_.out; have hn173_2 : ad170.block ≠ gb171 := GQ_.out; replace hx173_0 := (cell_far (p := ⟨gb171, 0, none⟩) (by first | (rw [add_block]; exact hn173_0) | (show (Addr.add _ _).block ≠ _; rw [add_block]; exact hn173_0) | exact hn173_0) (.int .i64 ((rd_T45 t164 x32_1).f0))).trans hx173_0; replace hx173_1 := (cell_far (p := ⟨gb171, 0, none⟩) (by first | (rw [add_block]; exact hn173_0) | (show (Addr.add _ _).block ≠ _; rw [add_block]; exact hn173_0) | exact hn173_0) (.int .i64 ((rd_T45 t164 x32_1).f0))).trans hx173_1; replace hx173_2 := (cell_far (p := ⟨gb171, 0, none⟩) (by first | (rw [add_block]; exact hn173_0) | (show (Addr.add _ _).block ≠ _; rw [add_block]; exact hn173_0) | exact hn173_0) (.int .i64 ((rd_T45 t164 x32_1).f0))).trans hx173_2; replace hx173_0 := (cell_far (p := ⟨gb171, 1, none⟩) (by first | (rw [add_block]; exact hn173_1) | (show (Addr.add _ _).block ≠ _; rw [add_block]; exact hn173_1) | exact hn173_1) (.string ((rd_T45 t164 x32_1).f1))).trans hx173_0; replace hx173_1 := (cell_far (p := ⟨gb171, 1, none⟩) (by first | (rw [add_block]; exact hn173_1) | (show (Addr.add _ _).block ≠ _; rw [add_block]; exact hn173_1) | exact hn173_1) (.string ((rd_T45 t164 x32_1).f1))).trans hx173_1; replace hx173_2 := (cell_far (p := ⟨gb171, 1, none⟩) (by first | (rw [add_block]; exact hn173_1) | (show (Addr.add _ _).block ≠ _; rw [add_block]; exact hn173_1) | exact hn173_1) (.string ((rd_T45 t164 x32_1).f1))).trans hx173_2; replace hx173_0 := (cell_far (p := ⟨gb171, 2, none⟩) (by first | (rw [add_block]; exact hn173_2) | (show (Addr.add _ _).block ≠ _; rw [add_block]; exact hn173_2) | exact hn173_2) (.int .i64 ((rd_T45 t164 x32_1).f2))).trans hx173_0; replace hx173_1 := (cell_far (p := ⟨gb171, 2, none⟩) (by first | (rw [add_block]; exact hn173_2) | (show (Addr.add _ _).block ≠ _; rw [add_block]; exact hn173_2) | exact hn173_2) (.int .i64 ((rd_T45 t164 x32_1).f2))).trans hx173_1; replace hx173_2 := (cell_far (p := ⟨gb171, 2, none⟩) (by first | (rw [add_block]; exact hn173_2) | (show (Addr.add _ _).block ≠ _; rw [add_block]; exact hn173_2) | exact hn173_2) (.int .i64 ((rd_T45 t164 x32_1).f2))).trans hx173_2; (try have hy173_0 := fun (n_ : Nat) => (show (((((w25.drewN n_).setCell ⟨gb171, 0, none⟩ (.int .i64 ((rd_T45 t164 x32_1).f0))).setCell ⟨gb171, 1, none⟩ (.string ((rd_T45 t164 x32_1).f1))).setCell ⟨gb171, 2, none⟩ (.int .i64 ((rd_T45 t164 x32_1).f2)))).cell? _ = some _ from hx173_0)); (try have hy173_1 := fun (n_ : Nat) => (show (((((w25.drewN n_).setCell ⟨gb171, 0, none⟩ (.int .i64 ((rd_T45 t164 x32_1).f0))).setCell ⟨gb171, 1, none⟩ (.string ((rd_T45 t164 x32_1).f1))).setCell ⟨gb171, 2, none⟩ (.int .i64 ((rd_T45 t164 x32_1).f2)))).cell? _ = some _ from hx173_1)); (try have hy173_2 := fun (n_ : Nat) => (show (((((w25.drewN n_).setCell ⟨gb171, 0, none⟩ (.int .i64 ((rd_T45 t164 x32_1).f0))).setCell ⟨gb171, 1, none⟩ (.string ((rd_T45 t164 x32_1).f1))).setCell ⟨gb171, 2, none⟩ (.int .i64 ((rd_T45 t164 x32_1).f2)))).cell? _ = some _ from hx173_2)); clear hn173_0; clear hn173_1; clear hn173_2; replace p173 := eq_true p173; replace q173 := eq_true q173))
                                repeat (go_quiet (fail); try go_wp2_with (fail))
                                go_ret
                                exact ⟨by first | rfl | (simp [errW_none, errW_some] <;> rfl) | (simp only [← hji13]; first | rfl | (simp [errW_none, errW_some] <;> rfl)) | (simp [*, errW_none, errW_some] <;> rfl), by repeat (first | (with_reducible first | exact HB.out | apply below_alloc | apply pw_below_drewN | apply below_drew1 | refine below_set ?_ GE171.out) | exact HB.out)⟩
                              · rw [if_neg c24] at H
                                have c24b0 : decide ((a0.size : Int) < ((rd_T45 t164 x32_1).f2)) = false := decide_eq_false c24
                                clear c24
                                replace H := Option.bind_eq_some_iff.mp H
                                obtain ⟨t174, A270, H⟩ := H
                                replace H : (if t174.size + 1 ≤ 9223372036854775807 then (if x6_1.size + (t174 ++ (⟨#[32]⟩ : ByteArray)).size ≤ 9223372036854775807 then (wickerlaw05_LexAgain.l0 k1 a0 t164 (x6_1 ++ (t174 ++ (⟨#[32]⟩ : ByteArray))) t164 (t164.length : Int) (wrap64 (x32_1 + 1))) else (none)) else (none)) = some r := H
                                have A27 := Aside0.mk A270
                                clear A270
                                by_cases c28 : t174.size + 1 ≤ 9223372036854775807
                                · rw [if_pos c28] at H
                                  have c28b0 := eq_true c28
                                  have c28b1 : decide (t174.size + 1 ≤ 9223372036854775807) = true := decide_eq_true c28
                                  try have c28b2 : (9223372036854775807 < t174.size + 1) = False := eq_false (Nat.not_lt.2 c28)
                                  by_cases c29 : x6_1.size + (t174 ++ (⟨#[32]⟩ : ByteArray)).size ≤ 9223372036854775807
                                  · rw [if_pos c29] at H
                                    have c29b0 := eq_true c29
                                    have c29b1 : decide (x6_1.size + (t174 ++ (⟨#[32]⟩ : ByteArray)).size ≤ 9223372036854775807) = true := decide_eq_true c29
                                    try have c29b2 : (9223372036854775807 < x6_1.size + (t174 ++ (⟨#[32]⟩ : ByteArray)).size) = False := eq_false (Nat.not_lt.2 c29)
                                    try (have c29b3 := c29b2; simp only [ByteArray.size_append, ByteArray.size_extract, Nat.sub_zero, show (⟨#[32]⟩ : ByteArray).size = 1 from rfl] at c29b3)
                                    have H' := Aside0.mk H
                                    clear H
                                    have p170 : 0 ≤ (x32_1 : Int) := of_decide_eq_true (by first | (with_reducible assumption) | assumption)
                                    have q170 : x32_1 < (t164.length : Int) := of_decide_eq_true (by first | (with_reducible assumption) | assumption)
                                    obtain ⟨ad170, e170, hx170_0, hx170_1, hx170_2⟩ := at_T45 (Kd.R_reads' HO_30.out).2.2 x32_1 p170 q170
                                    cases e170
                                    replace p170 := eq_true p170
                                    replace q170 := eq_true q170
                                    go_wp2_with (first | ((with_reducible refine gate_dst (N := 8) rfl ?_); (try (refine gate_guard (by rfl) ?_; dsimp only)); refine box_event ?hg (N := 8) ?hd (cs := #[.int .i64 0, .string (⟨#[]⟩ : ByteArray), .int .i64 0]) (t := 45) ?hr ?_; (case hd => rfl); (case hg => rfl); (case hr => first | (go_simp; done) | (go_simp; rfl)); intro gb171 hg w30 hbox hb; have n0_ := Aside0.mk (Kd.R_below (Kd.R_elderB (by (with_reducible repeat (first | apply Kd.R_alloc | apply Kd.R_drewN | apply Kd.R_drew)); exact HO_3.out) gb171 (Nat.le_of_eq hg.symm)) hb); have n1_ := Aside0.mk (Kd.R_below (Kd.R_elderB (by (with_reducible repeat (first | apply Kd.R_alloc | apply Kd.R_drewN | apply Kd.R_drew)); exact HO_30.out) gb171 (Nat.le_of_eq hg.symm)) hb); have n2_ := Aside0.mk (below_step (by repeat (first | (with_reducible first | exact HB.out | apply below_alloc | apply pw_below_drewN | apply below_drew1) | exact HB.out)) hb); have n3_ := Aside0.mk (hbox); have n4_ := Aside0.mk ((by rw [hg]; exact (below_size (by repeat (first | (with_reducible first | exact HB.out | apply below_alloc | apply pw_below_drewN | apply below_drew1) | exact HB.out))) : w.heap.size ≤ gb171)); have n5_ := Aside0.mk ((by rw [hg]; exact (below_size (by repeat (first | (with_reducible first | exact HB.out | apply below_alloc | apply pw_below_drewN | apply below_drew1) | exact HB.out))) : w.heap.size ≤ gb171)); clear HO_3; clear HO_30; clear HB; have HO_3 := n0_; have HO_30 := n1_; have HB := n2_; have BK171 := n3_; have GW171 := n4_; have GE171 := n5_; clear n0_ n1_ n2_ n3_ n4_ n5_; have GQ_ := Aside0.mk (show ad170.block ≠ gb171 by rw [hg]; exact Go.Proofs.YtghdnijdbmekjaaDoorOwn.own_blkne (hx170_0)); clear hb hbox hg; have hcz31_0 : w30.cell? ⟨gb171, 0, none⟩ = some (.int .i64 0) := (blk_cell BK171.out 0).trans rfl; have hcz31_1 : w30.cell? ⟨gb171, 1, none⟩ = some (.string (⟨#[]⟩ : ByteArray)) := (blk_cell BK171.out 1).trans rfl; have hcz31_2 : w30.cell? ⟨gb171, 2, none⟩ = some (.int .i64 0) := (blk_cell BK171.out 2).trans rfl; have hfz31_0 := blk_frozen BK171.out 0; have hfz31_1 := blk_frozen BK171.out 1; have hfz31_2 := blk_frozen BK171.out 2; have p172 : 0 ≤ ((ji13) : Int) := of_decide_eq_true (by first | (with_reducible assumption) | assumption); have q172 : (ji13) < (t164.length : Int) := of_decide_eq_true (by first | (with_reducible assumption) | assumption); obtain ⟨ad172, e172, hx172_0, hx172_1, hx172_2⟩ := at_T45 (Kd.R_reads' HO_3.out).2.2 (ji13) p172 q172; obtain rfl : ad170 = ad172 := (by injection e172); have hn172_0 : ad170.block ≠ gb171 := GQ_.out; have hn172_1 : ad170.block ≠ gb171 := GQ_.out; have hn172_2 : ad170.block ≠ gb171 := GQ_.out; replace hx172_0 := (cell_far (p := ⟨gb171, 0, none⟩) (by first | (rw [add_block]; exact hn172_0) | (show (Addr.add _ _).block ≠ _; rw [add_block]; exact hn172_0) | exact hn172_0) (.int .i64 ((rd_T45 t164 x32_1).f0))).trans hx172_0; replace hx172_1 := (cell_far (p := ⟨gb171, 0, none⟩) (by first | (rw [add_block]; exact hn172_0) | (show (Addr.add _ _).block ≠ _; rw [add_block]; exact hn172_0) | exact hn172_0) (.int .i64 ((rd_T45 t164 x32_1).f0))).trans hx172_1; replace hx172_2 := (cell_far (p := ⟨gb171, 0, none⟩) (by first | (rw [add_block]; exact hn172_0) | (show (Addr.add _ _).block ≠ _; rw [add_block]; exact hn172_0) | exact hn172_0) (.int .i64 ((rd_T45 t164 x32_1).f0))).trans hx172_2; replace hx172_0 := (cell_far (p := ⟨gb171, 1, none⟩) (by first | (rw [add_block]; exact hn172_1) | (show (Addr.add _ _).block ≠ _; rw [add_block]; exact hn172_1) | exact hn172_1) (.string ((rd_T45 t164 x32_1).f1))).trans hx172_0; replace hx172_1 := (cell_far (p := ⟨gb171, 1, none⟩) (by first | (rw [add_block]; exact hn172_1) | (show (Addr.add _ _).block ≠ _; rw [add_block]; exact hn172_1) | exact hn172_1) (.string ((rd_T45 t164 x32_1).f1))).trans hx172_1; replace hx172_2 := (cell_far (p := ⟨gb171, 1, none⟩) (by first | (rw [add_block]; exact hn172_1) | (show (Addr.add _ _).block ≠ _; rw [add_block]; exact hn172_1) | exact hn172_1) (.string ((rd_T45 t164 x32_1).f1))).trans hx172_2; replace hx172_0 := (cell_far (p := ⟨gb171, 2, none⟩) (by first | (rw [add_block]; exact hn172_2) | (show (Addr.add _ _).block ≠ _; rw [add_block]; exact hn172_2) | exact hn172_2) (.int .i64 ((rd_T45 t164 x32_1).f2))).trans hx172_0; replace hx172_1 := (cell_far (p := ⟨gb171, 2, none⟩) (by first | (rw [add_block]; exact hn172_2) | (show (Addr.add _ _).block ≠ _; rw [add_block]; exact hn172_2) | exact hn172_2) (.int .i64 ((rd_T45 t164 x32_1).f2))).trans hx172_1; replace hx172_2 := (cell_far (p := ⟨gb171, 2, none⟩) (by first | (rw [add_block]; exact hn172_2) | (show (Addr.add _ _).block ≠ _; rw [add_block]; exact hn172_2) | exact hn172_2) (.int .i64 ((rd_T45 t164 x32_1).f2))).trans hx172_2; (try have hy172_0 := fun (n_ : Nat) => (show (((((w30.drewN n_).setCell ⟨gb171, 0, none⟩ (.int .i64 ((rd_T45 t164 x32_1).f0))).setCell ⟨gb171, 1, none⟩ (.string ((rd_T45 t164 x32_1).f1))).setCell ⟨gb171, 2, none⟩ (.int .i64 ((rd_T45 t164 x32_1).f2)))).cell? _ = some _ from hx172_0)); (try have hy172_1 := fun (n_ : Nat) => (show (((((w30.drewN n_).setCell ⟨gb171, 0, none⟩ (.int .i64 ((rd_T45 t164 x32_1).f0))).setCell ⟨gb171, 1, none⟩ (.string ((rd_T45 t164 x32_1).f1))).setCell ⟨gb171, 2, none⟩ (.int .i64 ((rd_T45 t164 x32_1).f2)))).cell? _ = some _ from hx172_1)); (try have hy172_2 := fun (n_ : Nat) => (show (((((w30.drewN n_).setCell ⟨gb171, 0, none⟩ (.int .i64 ((rd_T45 t164 x32_1).f0))).setCell ⟨gb171, 1, none⟩ (.string ((rd_T45 t164 x32_1).f1))).setCell ⟨gb171, 2, none⟩ (.int .i64 ((rd_T45 t164 x32_1).f2)))).cell? _ = some _ from hx172_2)); clear hn172_0; clear hn172_1; clear hn172_2; replace p172 := eq_true p172; replace q172 := eq_true q172; have p173 : 0 ≤ ((ji13) : Int) := of_decide_eq_true (by first | (with_reducible assumption) | assumption); have q173 : (ji13) < (t164.length : Int) := of_decide_eq_true (by first | (with_reducible assumption) | assumption); obtain ⟨ad173, e173, hx173_0, hx173_1, hx173_2⟩ := at_T45 (Kd.R_reads' HO_3.out).2.2 (ji13) p173 q173; obtain rfl : ad170 = ad173 := (by injection e173); have hn173_0 : ad170.block ≠ gb171 := GQ_.out; have hn173_1 : ad170.block ≠ gb171 := GQ_.out; have hn173_2 : ad170.block ≠ gb171 := GQ_.out; replace hx173_0 := (cell_far (p := ⟨gb171, 0, none⟩) (by first | (rw [add_block]; exact hn173_0) | (show (Addr.add _ _).block ≠ _; rw [add_block]; exact hn173_0) | exact hn173_0) (.int .i64 ((rd_T45 t164 x32_1).f0))).trans hx173_0; replace hx173_1 := (cell_far (p := ⟨gb171, 0, none⟩) (by first | (rw [add_block]; exact hn173_0) | (show (Addr.add _ _).block ≠ _; rw [add_block]; exact hn173_0) | exact hn173_0) (.int .i64 ((rd_T45 t164 x32_1).f0))).trans hx173_1; replace hx173_2 := (cell_far (p := ⟨gb171, 0, none⟩) (by first | (rw [add_block]; exact hn173_0) | (show (Addr.add _ _).block ≠ _; rw [add_block]; exact hn173_0) | exact hn173_0) (.int .i64 ((rd_T45 t164 x32_1).f0))).trans hx173_2; replace hx173_0 := (cell_far (p := ⟨gb171, 1, none⟩) (by first | (rw [add_block]; exact hn173_1) | (show (Addr.add _ _).block ≠ _; rw [add_block]; exact hn173_1) | exact hn173_1) (.string ((rd_T45 t164 x32_1).f1))).trans hx173_0; replace hx173_1 := (cell_far (p := ⟨gb171, 1, none⟩) (by first | (rw [add_block]; exact hn173_1) | (show (Addr.add _ _).block ≠ _; rw [add_block]; exact hn173_1) | exact hn173_1) (.string ((rd_T45 t164 x32_1).f1))).trans hx173_1; replace hx173_2 := (cell_far (p := ⟨gb171, 1, none⟩) (by first | (rw [add_block]; exact hn173_1) | (show (Addr.add _ _).block ≠ _; rw [add_block]; exact hn173_1) | exact hn173_1) (.string ((rd_T45 t164 x32_1).f1))).trans hx173_2; replace hx173_0 := (cell_far (p := ⟨gb171, 2, none⟩) (by first | (rw [add_block]; exact hn173_2) | (show (Addr.add _ _).block ≠ _; rw [add_block]; exact hn173_2) | exact hn173_2) (.int .i64 ((rd_T45 t164 x32_1).f2))).trans hx173_0; replace hx173_1 := (cell_far (p := ⟨gb171, 2, none⟩) (by first | (rw [add_block]; exact hn173_2) | (show (Addr.add _ _).block ≠ _; rw [add_block]; exact hn173_2) | exact hn173_2) (.int .i64 ((rd_T45 t164 x32_1).f2))).trans hx173_1; replace hx173_2 := (cell_far (p := ⟨gb171, 2, none⟩) (by first | (rw [add_block]; exact hn173_2) | (show (Addr.add _ _).block ≠ _; rw [add_block]; exact hn173_2) | exact hn173_2) (.int .i64 ((rd_T45 t164 x32_1).f2))).trans hx173_2; (try have hy173_0 := fun (n_ : Nat) => (show (((((w30.drewN n_).setCell ⟨gb171, 0, none⟩ (.int .i64 ((rd_T45 t164 x32_1).f0))).setCell ⟨gb171, 1, none⟩ (.string ((rd_T45 t164 x32_1).f1))).setCell ⟨gb171, 2, none⟩ (.int .i64 ((rd_T45 t164 x32_1).f2)))).cell? _ = some _ from hx173_0)); (try have hy173_1 := fun (n_ : Nat) => (show (((((w30.drewN n_).setCell ⟨gb171, 0, none⟩ (.int .i64 ((rd_T45 t164 x32_1).f0))).setCell ⟨gb171, 1, none⟩ (.string ((rd_T45 t164 x32_1).f1))).setCell ⟨gb171, 2, none⟩ (.int .i64 ((rd_T45 t164 x32_1).f2)))).cell? _ = some _ from hx173_1)); (try have hy173_2 := fun (n_ : Nat) => (show (((((w30.drewN n_).setCell ⟨gb171, 0, none⟩ (.int .i64 ((rd_T45 t164 x32_1).f0))).setCell ⟨gb171, 1, none⟩ (.string ((rd_T45 t164 x32_1).f1))).setCell ⟨gb171, 2, none⟩ (.int .i64 ((rd_T45 t164 x32_1).f2)))).cell? _ = some _ from hx173_2)); clear hn173_0; clear hn173_1; clear hn173_2; replace p173 := eq_true p173; replace q173 := eq_true q173) | (go_at_call 25; (with_reducible refine (wickerlaw05_show.calls ((rd_T45 t164 x32_1).f0) ((rd_T45 t164 x32_1).f1) ((rd_T45 t164 x32_1).f2) t174 _ A27.out).mono ?_); rintro e w32 ⟨rfl, hb⟩; have n0_ := Aside0.mk (Kd.R_below (by (with_reducible repeat (first | apply Kd.R_alloc | apply Kd.R_drewN | apply Kd.R_drew)); exact (Kd.R_mono (Kd.R_far (p := ⟨gb171, 2, none⟩) (Kd.R_far (p := ⟨gb171, 1, none⟩) (Kd.R_far (p := ⟨gb171, 0, none⟩) (Kd.R_mono HO_3.out (fun k_ hk => (⟨hk, hk.2⟩ : _ ∧ k_ ≠ gb171))) (fun _ hk => hk.2) (.int .i64 ((rd_T45 t164 x32_1).f0))) (fun _ hk => hk.2) (.string ((rd_T45 t164 x32_1).f1))) (fun _ hk => hk.2) (.int .i64 ((rd_T45 t164 x32_1).f2))) (fun _ h_ => h_.1))) hb); have n1_ := Aside0.mk (Kd.R_below (by (with_reducible repeat (first | apply Kd.R_alloc | apply Kd.R_drewN | apply Kd.R_drew)); exact (Kd.R_mono (Kd.R_far (p := ⟨gb171, 2, none⟩) (Kd.R_far (p := ⟨gb171, 1, none⟩) (Kd.R_far (p := ⟨gb171, 0, none⟩) (Kd.R_mono HO_30.out (fun k_ hk => (⟨hk, hk.2⟩ : _ ∧ k_ ≠ gb171))) (fun _ hk => hk.2) (.int .i64 ((rd_T45 t164 x32_1).f0))) (fun _ hk => hk.2) (.string ((rd_T45 t164 x32_1).f1))) (fun _ hk => hk.2) (.int .i64 ((rd_T45 t164 x32_1).f2))) (fun _ h_ => h_.1))) hb); have n2_ := Aside0.mk (blk_below (g := gb171) (o := .cells #[.int .i64 ((rd_T45 t164 x32_1).f0), .string ((rd_T45 t164 x32_1).f1), .int .i64 ((rd_T45 t164 x32_1).f2)] 45 (0, 0)) (by (with_reducible repeat (first | refine blk_drewN ?_ _ | refine blk_drew ?_ | refine blk_alloc ?_ _)); refine blk_put (cs := #[.int .i64 ((rd_T45 t164 x32_1).f0), .string ((rd_T45 t164 x32_1).f1), .int .i64 0]) ?_ 2 _ rfl; (with_reducible repeat (first | refine blk_drewN ?_ _ | refine blk_drew ?_ | refine blk_alloc ?_ _)); refine blk_put (cs := #[.int .i64 ((rd_T45 t164 x32_1).f0), .string (⟨#[]⟩ : ByteArray), .int .i64 0]) ?_ 1 _ rfl; (with_reducible repeat (first | refine blk_drewN ?_ _ | refine blk_drew ?_ | refine blk_alloc ?_ _)); refine blk_put (cs := #[.int .i64 0, .string (⟨#[]⟩ : ByteArray), .int .i64 0]) ?_ 0 _ rfl; (with_reducible repeat (first | refine blk_drewN ?_ _ | refine blk_drew ?_ | refine blk_alloc ?_ _)); exact BK171.out) hb); have n3_ := Aside0.mk (below_step (by repeat (first | (with_reducible first | exact HB.out | apply below_alloc | apply pw_below_drewN | apply below_drew1 | refine below_set ?_ GE171.out) | exact HB.out)) hb); clear HO_3; clear HO_30; clear BK171; clear HB; have HO_3 := n0_; have HO_30 := n1_; have BK171 := n2_; have HB := n3_; clear n0_ n1_ n2_ n3_; (try clear hb); (try clear hb2); (try clear hk); (try clear hi)))
                                    repeat (go_quiet (first | (go_at_call 25; (with_reducible refine (wickerlaw05_show.calls ((rd_T45 t164 x32_1).f0) ((rd_T45 t164 x32_1).f1) ((rd_T45 t164 x32_1).f2) t174 _ A27.out).mono ?_); rintro e w32 ⟨rfl, hb⟩; have n0_ := Aside0.mk (Kd.R_below (by (with_reducible repeat (first | apply Kd.R_alloc | apply Kd.R_drewN | apply Kd.R_drew)); exact (Kd.R_mono (Kd.R_far (p := ⟨gb171, 2, none⟩) (Kd.R_far (p := ⟨gb171, 1, none⟩) (Kd.R_far (p := ⟨gb171, 0, none⟩) (Kd.R_mono HO_3.out (fun k_ hk => (⟨hk, hk.2⟩ : _ ∧ k_ ≠ gb171))) (fun _ hk => hk.2) (.int .i64 ((rd_T45 t164 x32_1).f0))) (fun _ hk => hk.2) (.string ((rd_T45 t164 x32_1).f1))) (fun _ hk => hk.2) (.int .i64 ((rd_T45 t164 x32_1).f2))) (fun _ h_ => h_.1))) hb); have n1_ := Aside0.mk (Kd.R_below (by (with_reducible repeat (first | apply Kd.R_alloc | apply Kd.R_drewN | apply Kd.R_drew)); exact (Kd.R_mono (Kd.R_far (p := ⟨gb171, 2, none⟩) (Kd.R_far (p := ⟨gb171, 1, none⟩) (Kd.R_far (p := ⟨gb171, 0, none⟩) (Kd.R_mono HO_30.out (fun k_ hk => (⟨hk, hk.2⟩ : _ ∧ k_ ≠ gb171))) (fun _ hk => hk.2) (.int .i64 ((rd_T45 t164 x32_1).f0))) (fun _ hk => hk.2) (.string ((rd_T45 t164 x32_1).f1))) (fun _ hk => hk.2) (.int .i64 ((rd_T45 t164 x32_1).f2))) (fun _ h_ => h_.1))) hb); have n2_ := Aside0.mk (blk_below (g := gb171) (o := .cells #[.int .i64 ((rd_T45 t164 x32_1).f0), .string ((rd_T45 t164 x32_1).f1), .int .i64 ((rd_T45 t164 x32_1).f2)] 45 (0, 0)) (by (with_reducible repeat (first | refine blk_drewN ?_ _ | refine blk_drew ?_ | refine blk_alloc ?_ _)); refine blk_put (cs := #[.int .i64 ((rd_T45 t164 x32_1).f0), .string ((rd_T45 t164 x32_1).f1), .int .i64 0]) ?_ 2 _ rfl; (with_reducible repeat (first | refine blk_drewN ?_ _ | refine blk_drew ?_ | refine blk_alloc ?_ _)); refine blk_put (cs := #[.int .i64 ((rd_T45 t164 x32_1).f0), .string (⟨#[]⟩ : ByteArray), .int .i64 0]) ?_ 1 _ rfl; (with_reducible repeat (first | refine blk_drewN ?_ _ | refine blk_drew ?_ | refine blk_alloc ?_ _)); refine blk_put (cs := #[.int .i64 0, .string (⟨#[]⟩ : ByteArray), .int .i64 0]) ?_ 0 _ rfl; (with_reducible repeat (first | refine blk_drewN ?_ _ | refine blk_drew ?_ | refine blk_alloc ?_ _)); exact BK171.out) hb); have n3_ := Aside0.mk (below_step (by repeat (first | (with_reducible first | exact HB.out | apply below_alloc | apply pw_below_drewN | apply below_drew1 | refine below_set ?_ GE171.out) | exact HB.out)) hb); clear HO_3; clear HO_30; clear BK171; clear HB; have HO_3 := n0_; have HO_30 := n1_; have BK171 := n2_; have HB := n3_; clear n0_ n1_ n2_ n3_; (try clear hb); (try clear hb2); (try clear hk); (try clear hi))); try go_wp2_with (first | (go_at_call 25; (with_reducible refine (wickerlaw05_show.calls ((rd_T45 t164 x32_1).f0) ((rd_T45 t164 x32_1).f1) ((rd_T45 t164 x32_1).f2) t174 _ A27.out).mono ?_); rintro e w32 ⟨rfl, hb⟩; have n0_ := Aside0.mk (Kd.R_below (by (with_reducible repeat (first | apply Kd.R_alloc | apply Kd.R_drewN | apply Kd.R_drew)); exact (Kd.R_mono (Kd.R_far (p := ⟨gb171, 2, none⟩) (Kd.R_far (p := ⟨gb171, 1, none⟩) (Kd.R_far (p := ⟨gb171, 0, none⟩) (Kd.R_mono HO_3.out (fun k_ hk => (⟨hk, hk.2⟩ : _ ∧ k_ ≠ gb171))) (fun _ hk => hk.2) (.int .i64 ((rd_T45 t164 x32_1).f0))) (fun _ hk => hk.2) (.string ((rd_T45 t164 x32_1).f1))) (fun _ hk => hk.2) (.int .i64 ((rd_T45 t164 x32_1).f2))) (fun _ h_ => h_.1))) hb); have n1_ := Aside0.mk (Kd.R_below (by (with_reducible repeat (first | apply Kd.R_alloc | apply Kd.R_drewN | apply Kd.R_drew)); exact (Kd.R_mono (Kd.R_far (p := ⟨gb171, 2, none⟩) (Kd.R_far (p := ⟨gb171, 1, none⟩) (Kd.R_far (p := ⟨gb171, 0, none⟩) (Kd.R_mono HO_30.out (fun k_ hk => (⟨hk, hk.2⟩ : _ ∧ k_ ≠ gb171))) (fun _ hk => hk.2) (.int .i64 ((rd_T45 t164 x32_1).f0))) (fun _ hk => hk.2) (.string ((rd_T45 t164 x32_1).f1))) (fun _ hk => hk.2) (.int .i64 ((rd_T45 t164 x32_1).f2))) (fun _ h_ => h_.1))) hb); have n2_ := Aside0.mk (blk_below (g := gb171) (o := .cells #[.int .i64 ((rd_T45 t164 x32_1).f0), .string ((rd_T45 t164 x32_1).f1), .int .i64 ((rd_T45 t164 x32_1).f2)] 45 (0, 0)) (by (with_reducible repeat (first | refine blk_drewN ?_ _ | refine blk_drew ?_ | refine blk_alloc ?_ _)); refine blk_put (cs := #[.int .i64 ((rd_T45 t164 x32_1).f0), .string ((rd_T45 t164 x32_1).f1), .int .i64 0]) ?_ 2 _ rfl; (with_reducible repeat (first | refine blk_drewN ?_ _ | refine blk_drew ?_ | refine blk_alloc ?_ _)); refine blk_put (cs := #[.int .i64 ((rd_T45 t164 x32_1).f0), .string (⟨#[]⟩ : ByteArray), .int .i64 0]) ?_ 1 _ rfl; (with_reducible repeat (first | refine blk_drewN ?_ _ | refine blk_drew ?_ | refine blk_alloc ?_ _)); refine blk_put (cs := #[.int .i64 0, .string (⟨#[]⟩ : ByteArray), .int .i64 0]) ?_ 0 _ rfl; (with_reducible repeat (first | refine blk_drewN ?_ _ | refine blk_drew ?_ | refine blk_alloc ?_ _)); exact BK171.out) hb); have n3_ := Aside0.mk (below_step (by repeat (first | (with_reducible first | exact HB.out | apply below_alloc | apply pw_below_drewN | apply below_drew1 | refine below_set ?_ GE171.out) | exact HB.out)) hb); clear HO_3; clear HO_30; clear BK171; clear HB; have HO_3 := n0_; have HO_30 := n1_; have BK171 := n2_; have HB := n3_; clear n0_ n1_ n2_ n3_; (try clear hb); (try clear hb2); (try clear hk); (try clear hi))))
                                    go_roundg k1
                                    case measure => have := HK1.out; omega
                                    case rel => exact ⟨(x6_1 ++ (t174 ++ (⟨#[32]⟩ : ByteArray))), (wrap64 (x32_1 + 1)), (by first | rfl | (simp; done) | (simp [*]; done)), (by first | rfl | (simp; done) | (simp [*]; done)), H', ⟨by have := HK1.out; omega⟩, ⟨by (with_reducible repeat (first | apply Kd.R_alloc | apply Kd.R_drewN | apply Kd.R_drew)); exact Kd.R_mono HO_3.out (fun _ hk => trivial)⟩, ⟨by (with_reducible repeat (first | apply Kd.R_alloc | apply Kd.R_drewN | apply Kd.R_drew)); exact Kd.R_mono HO_30.out (fun _ hk => trivial)⟩, ⟨by repeat (first | (with_reducible first | exact HB.out | apply below_alloc | apply pw_below_drewN | apply below_drew1 | refine below_set ?_ GE171.out) | exact HB.out)⟩⟩
                                  · rw [if_neg c29] at H
                                    exact absurd H (by simp)
                                · rw [if_neg c28] at H
                                  exact absurd H (by simp)
                        · rw [if_neg c17] at H
                          have c17b0 : (((rd_T45 t164 x32_1).f0) == 5) = false := beq_eq_false_iff_ne.mpr c17
                          have c17b1 : (((rd_T45 t164 x32_1).f0) != 5) = true := bne_iff_ne.mpr c17
                          obtain rfl := Option.some.inj H
                          have p170 : 0 ≤ (x32_1 : Int) := of_decide_eq_true (by first | (with_reducible assumption) | assumption)
                          have q170 : x32_1 < (t164.length : Int) := of_decide_eq_true (by first | (with_reducible assumption) | assumption)
                          obtain ⟨ad170, e170, hx170_0, hx170_1, hx170_2⟩ := at_T45 (Kd.R_reads' HO_30.out).2.2 x32_1 p170 q170
                          cases e170
                          replace p170 := eq_true p170
                          replace q170 := eq_true q170
                          go_wp2_with (first | ((with_reducible refine gate_dst (N := 8) rfl ?_); (try (refine gate_guard (by rfl) ?_; dsimp only)); refine box_event ?hg (N := 8) ?hd (cs := #[.int .i64 0, .string (⟨#[]⟩ : ByteArray), .int .i64 0]) (t := 45) ?hr ?_; (case hd => rfl); (case hg => rfl); (case hr => first | (go_simp; done) | (go_simp; rfl)); intro gb171 hg w33 hbox hb; have n0_ := Aside0.mk (Kd.R_below (Kd.R_elderB (by (with_reducible repeat (first | apply Kd.R_alloc | apply Kd.R_drewN | apply Kd.R_drew)); exact HO_3.out) gb171 (Nat.le_of_eq hg.symm)) hb); have n1_ := Aside0.mk (Kd.R_below (Kd.R_elderB (by (with_reducible repeat (first | apply Kd.R_alloc | apply Kd.R_drewN | apply Kd.R_drew)); exact HO_30.out) gb171 (Nat.le_of_eq hg.symm)) hb); have n2_ := Aside0.mk (below_step (by repeat (first | (with_reducible first | exact HB.out | apply below_alloc | apply pw_below_drewN | apply below_drew1) | exact HB.out)) hb); have n3_ := Aside0.mk (hbox); have n4_ := Aside0.mk ((by rw [hg]; exact (below_size (by repeat (first | (with_reducible first | exact HB.out | apply below_alloc | apply pw_below_drewN | apply below_drew1) | exact HB.out))) : w.heap.size ≤ gb171)); have n5_ := Aside0.mk ((by rw [hg]; exact (below_size (by repeat (first | (with_reducible first | exact HB.out | apply below_alloc | apply pw_below_drewN | apply below_drew1) | exact HB.out))) : w.heap.size ≤ gb171)); clear HO_3; clear HO_30; clear HB; have HO_3 := n0_; have HO_30 := n1_; have HB := n2_; have BK171 := n3_; have GW171 := n4_; have GE171 := n5_; clear n0_ n1_ n2_ n3_ n4_ n5_; have GQ_ := Aside0.mk (show ad170.block ≠ gb171 by rw [hg]; exact Go.Proofs.YtghdnijdbmekjaaDoorOwn.own_blkne (hx170_0)); clear hb hbox hg; have hcz34_0 : w33.cell? ⟨gb171, 0, none⟩ = some (.int .i64 0) := (blk_cell BK171.out 0).trans rfl; have hcz34_1 : w33.cell? ⟨gb171, 1, none⟩ = some (.string (⟨#[]⟩ : ByteArray)) := (blk_cell BK171.out 1).trans rfl; have hcz34_2 : w33.cell? ⟨gb171, 2, none⟩ = some (.int .i64 0) := (blk_cell BK171.out 2).trans rfl; have hfz34_0 := blk_frozen BK171.out 0; have hfz34_1 := blk_frozen BK171.out 1; have hfz34_2 := blk_frozen BK171.out 2; have p172 : 0 ≤ ((ji13) : Int) := of_decide_eq_true (by first | (with_reducible assumption) | assumption); have q172 : (ji13) < (t164.length : Int) := of_decide_eq_true (by first | (with_reducible assumption) | assumption); obtain ⟨ad172, e172, hx172_0, hx172_1, hx172_2⟩ := at_T45 (Kd.R_reads' HO_3.out).2.2 (ji13) p172 q172; obtain rfl : ad170 = ad172 := (by injection e172); have hn172_0 : ad170.block ≠ gb171 := GQ_.out; have hn172_1 : ad170.block ≠ gb171 := GQ_.out; have hn172_2 : ad170.block ≠ gb171 := GQ_.out; replace hx172_0 := (cell_far (p := ⟨gb171, 0, none⟩) (by first | (rw [add_block]; exact hn172_0) | (show (Addr.add _ _).block ≠ _; rw [add_block]; exact hn172_0) | exact hn172_0) (.int .i64 ((rd_T45 t164 x32_1).f0))).trans hx172_0; replace hx172_1 := (cell_far (p := ⟨gb171, 0, none⟩) (by first | (rw [add_block]; exact hn172_0) | (show (Addr.add _ _).block ≠ _; rw [add_block]; exact hn172_0) | exact hn172_0) (.int .i64 ((rd_T45 t164 x32_1).f0))).trans hx172_1; replace hx172_2 := (cell_far (p := ⟨gb171, 0, none⟩) (by first | (rw [add_block]; exact hn172_0) | (show (Addr.add _ _).block ≠ _; rw [add_block]; exact hn172_0) | exact hn172_0) (.int .i64 ((rd_T45 t164 x32_1).f0))).trans hx172_2; replace hx172_0 := (cell_far (p := ⟨gb171, 1, none⟩) (by first | (rw [add_block]; exact hn172_1) | (show (Addr.add _ _).block ≠ _; rw [add_block]; exact hn172_1) | exact hn172_1) (.string ((rd_T45 t164 x32_1).f1))).trans hx172_0; replace hx172_1 := (cell_far (p := ⟨gb171, 1, none⟩) (by first | (rw [add_block]; exact hn172_1) | (show (Addr.add _ _).block ≠ _; rw [add_block]; exact hn172_1) | exact hn172_1) (.string ((rd_T45 t164 x32_1).f1))).trans hx172_1; replace hx172_2 := (cell_far (p := ⟨gb171, 1, none⟩) (by first | (rw [add_block]; exact hn172_1) | (show (Addr.add _ _).block ≠ _; rw [add_block]; exact hn172_1) | exact hn172_1) (.string ((rd_T45 t164 x32_1).f1))).trans hx172_2; replace hx172_0 := (cell_far (p := ⟨gb171, 2, none⟩) (by first | (rw [add_block]; exact hn172_2) | (show (Addr.add _ _).block ≠ _; rw [add_block]; exact hn172_2) | exact hn172_2) (.int .i64 ((rd_T45 t164 x32_1).f2))).trans hx172_0; replace hx172_1 := (cell_far (p := ⟨gb171, 2, none⟩) (by first | (rw [add_block]; exact hn172_2) | (show (Addr.add _ _).block ≠ _; rw [add_block]; exact hn172_2) | exact hn172_2) (.int .i64 ((rd_T45 t164 x32_1).f2))).trans hx172_1; replace hx172_2 := (cell_far (p := ⟨gb171, 2, none⟩) (by first | (rw [add_block]; exact hn172_2) | (show (Addr.add _ _).block ≠ _; rw [add_block]; exact hn172_2) | exact hn172_2) (.int .i64 ((rd_T45 t164 x32_1).f2))).trans hx172_2; (try have hy172_0 := fun (n_ : Nat) => (show (((((w33.drewN n_).setCell ⟨gb171, 0, none⟩ (.int .i64 ((rd_T45 t164 x32_1).f0))).setCell ⟨gb171, 1, none⟩ (.string ((rd_T45 t164 x32_1).f1))).setCell ⟨gb171, 2, none⟩ (.int .i64 ((rd_T45 t164 x32_1).f2)))).cell? _ = some _ from hx172_0)); (try have hy172_1 := fun (n_ : Nat) => (show (((((w33.drewN n_).setCell ⟨gb171, 0, none⟩ (.int .i64 ((rd_T45 t164 x32_1).f0))).setCell ⟨gb171, 1, none⟩ (.string ((rd_T45 t164 x32_1).f1))).setCell ⟨gb171, 2, none⟩ (.int .i64 ((rd_T45 t164 x32_1).f2)))).cell? _ = some _ from hx172_1)); (try have hy172_2 := fun (n_ : Nat) => (show (((((w33.drewN n_).setCell ⟨gb171, 0, none⟩ (.int .i64 ((rd_T45 t164 x32_1).f0))).setCell ⟨gb171, 1, none⟩ (.string ((rd_T45 t164 x32_1).f1))).setCell ⟨gb171, 2, none⟩ (.int .i64 ((rd_T45 t164 x32_1).f2)))).cell? _ = some _ from hx172_2)); clear hn172_0; clear hn172_1; clear hn172_2; replace p172 := eq_true p172; replace q172 := eq_true q172))
                          repeat (go_quiet (fail); try go_wp2_with (fail))
                          go_ret
                          exact ⟨by first | rfl | (simp [errW_none, errW_some] <;> rfl) | (simp only [← hji13]; first | rfl | (simp [errW_none, errW_some] <;> rfl)) | (simp [*, errW_none, errW_some] <;> rfl), by repeat (first | (with_reducible first | exact HB.out | apply below_alloc | apply pw_below_drewN | apply below_drew1 | refine below_set ?_ GE171.out) | exact HB.out)⟩
                      · rw [if_neg c16] at H
                        have c16b0 : decide (((rd_T45 t164 x32_1).f2) ≤ ((rd_T45 t164 (ji13)).f2)) = false := decide_eq_false c16
                        clear c16
                        by_cases c35 : ((rd_T45 t164 x32_1).f2) < 0
                        · rw [if_pos c35] at H
                          have c35b0 : decide (((rd_T45 t164 x32_1).f2) < 0) = true := decide_eq_true c35
                          clear c35
                          obtain rfl := Option.some.inj H
                          have p170 : 0 ≤ (x32_1 : Int) := of_decide_eq_true (by first | (with_reducible assumption) | assumption)
                          have q170 : x32_1 < (t164.length : Int) := of_decide_eq_true (by first | (with_reducible assumption) | assumption)
                          obtain ⟨ad170, e170, hx170_0, hx170_1, hx170_2⟩ := at_T45 (Kd.R_reads' HO_30.out).2.2 x32_1 p170 q170
                          cases e170
                          replace p170 := eq_true p170
                          replace q170 := eq_true q170
                          go_wp2_with (first | ((with_reducible refine gate_dst (N := 8) rfl ?_); (try (refine gate_guard (by rfl) ?_; dsimp only)); refine box_event ?hg (N := 8) ?hd (cs := #[.int .i64 0, .string (⟨#[]⟩ : ByteArray), .int .i64 0]) (t := 45) ?hr ?_; (case hd => rfl); (case hg => rfl); (case hr => first | (go_simp; done) | (go_simp; rfl)); intro gb171 hg w36 hbox hb; have n0_ := Aside0.mk (Kd.R_below (Kd.R_elderB (by (with_reducible repeat (first | apply Kd.R_alloc | apply Kd.R_drewN | apply Kd.R_drew)); exact HO_3.out) gb171 (Nat.le_of_eq hg.symm)) hb); have n1_ := Aside0.mk (Kd.R_below (Kd.R_elderB (by (with_reducible repeat (first | apply Kd.R_alloc | apply Kd.R_drewN | apply Kd.R_drew)); exact HO_30.out) gb171 (Nat.le_of_eq hg.symm)) hb); have n2_ := Aside0.mk (below_step (by repeat (first | (with_reducible first | exact HB.out | apply below_alloc | apply pw_below_drewN | apply below_drew1) | exact HB.out)) hb); have n3_ := Aside0.mk (hbox); have n4_ := Aside0.mk ((by rw [hg]; exact (below_size (by repeat (first | (with_reducible first | exact HB.out | apply below_alloc | apply pw_below_drewN | apply below_drew1) | exact HB.out))) : w.heap.size ≤ gb171)); have n5_ := Aside0.mk ((by rw [hg]; exact (below_size (by repeat (first | (with_reducible first | exact HB.out | apply below_alloc | apply pw_below_drewN | apply below_drew1) | exact HB.out))) : w.heap.size ≤ gb171)); clear HO_3; clear HO_30; clear HB; have HO_3 := n0_; have HO_30 := n1_; have HB := n2_; have BK171 := n3_; have GW171 := n4_; have GE171 := n5_; clear n0_ n1_ n2_ n3_ n4_ n5_; have GQ_ := Aside0.mk (show ad170.block ≠ gb171 by rw [hg]; exact Go.Proofs.YtghdnijdbmekjaaDoorOwn.own_blkne (hx170_0)); clear hb hbox hg; have hcz37_0 : w36.cell? ⟨gb171, 0, none⟩ = some (.int .i64 0) := (blk_cell BK171.out 0).trans rfl; have hcz37_1 : w36.cell? ⟨gb171, 1, none⟩ = some (.string (⟨#[]⟩ : ByteArray)) := (blk_cell BK171.out 1).trans rfl; have hcz37_2 : w36.cell? ⟨gb171, 2, none⟩ = some (.int .i64 0) := (blk_cell BK171.out 2).trans rfl; have hfz37_0 := blk_frozen BK171.out 0; have hfz37_1 := blk_frozen BK171.out 1; have hfz37_2 := blk_frozen BK171.out 2; have p172 : 0 ≤ ((ji13) : Int) := of_decide_eq_true (by first | (with_reducible assumption) | assumption); have q172 : (ji13) < (t164.length : Int) := of_decide_eq_true (by first | (with_reducible assumption) | assumption); obtain ⟨ad172, e172, hx172_0, hx172_1, hx172_2⟩ := at_T45 (Kd.R_reads' HO_3.out).2.2 (ji13) p172 q172; obtain rfl : ad170 = ad172 := (by injection e172); have hn172_0 : ad170.block ≠ gb171 := GQ_.out; have hn172_1 : ad170.block ≠ gb171 := GQ_.out; have hn172_2 : ad170.block ≠ gb171 := GQ_.out; replace hx172_0 := (cell_far (p := ⟨gb171, 0, none⟩) (by first | (rw [add_block]; exact hn172_0) | (show (Addr.add _ _).block ≠ _; rw [add_block]; exact hn172_0) | exact hn172_0) (.int .i64 ((rd_T45 t164 x32_1).f0))).trans hx172_0; replace hx172_1 := (cell_far (p := ⟨gb171, 0, none⟩) (by first | (rw [add_block]; exact hn172_0) | (show (Addr.add _ _).block ≠ _; rw [add_block]; exact hn172_0) | exact hn172_0) (.int .i64 ((rd_T45 t164 x32_1).f0))).trans hx172_1; replace hx172_2 := (cell_far (p := ⟨gb171, 0, none⟩) (by first | (rw [add_block]; exact hn172_0) | (show (Addr.add _ _).block ≠ _; rw [add_block]; exact hn172_0) | exact hn172_0) (.int .i64 ((rd_T45 t164 x32_1).f0))).trans hx172_2; replace hx172_0 := (cell_far (p := ⟨gb171, 1, none⟩) (by first | (rw [add_block]; exact hn172_1) | (show (Addr.add _ _).block ≠ _; rw [add_block]; exact hn172_1) | exact hn172_1) (.string ((rd_T45 t164 x32_1).f1))).trans hx172_0; replace hx172_1 := (cell_far (p := ⟨gb171, 1, none⟩) (by first | (rw [add_block]; exact hn172_1) | (show (Addr.add _ _).block ≠ _; rw [add_block]; exact hn172_1) | exact hn172_1) (.string ((rd_T45 t164 x32_1).f1))).trans hx172_1; replace hx172_2 := (cell_far (p := ⟨gb171, 1, none⟩) (by first | (rw [add_block]; exact hn172_1) | (show (Addr.add _ _).block ≠ _; rw [add_block]; exact hn172_1) | exact hn172_1) (.string ((rd_T45 t164 x32_1).f1))).trans hx172_2; replace hx172_0 := (cell_far (p := ⟨gb171, 2, none⟩) (by first | (rw [add_block]; exact hn172_2) | (show (Addr.add _ _).block ≠ _; rw [add_block]; exact hn172_2) | exact hn172_2) (.int .i64 ((rd_T45 t164 x32_1).f2))).trans hx172_0; replace hx172_1 := (cell_far (p := ⟨gb171, 2, none⟩) (by first | (rw [add_block]; exact hn172_2) | (show (Addr.add _ _).block ≠ _; rw [add_block]; exact hn172_2) | exact hn172_2) (.int .i64 ((rd_T45 t164 x32_1).f2))).trans hx172_1; replace hx172_2 := (cell_far (p := ⟨gb171, 2, none⟩) (by first | (rw [add_block]; exact hn172_2) | (show (Addr.add _ _).block ≠ _; rw [add_block]; exact hn172_2) | exact hn172_2) (.int .i64 ((rd_T45 t164 x32_1).f2))).trans hx172_2; (try have hy172_0 := fun (n_ : Nat) => (show (((((w36.drewN n_).setCell ⟨gb171, 0, none⟩ (.int .i64 ((rd_T45 t164 x32_1).f0))).setCell ⟨gb171, 1, none⟩ (.string ((rd_T45 t164 x32_1).f1))).setCell ⟨gb171, 2, none⟩ (.int .i64 ((rd_T45 t164 x32_1).f2)))).cell? _ = some _ from hx172_0)); (try have hy172_1 := fun (n_ : Nat) => (show (((((w36.drewN n_).setCell ⟨gb171, 0, none⟩ (.int .i64 ((rd_T45 t164 x32_1).f0))).setCell ⟨gb171, 1, none⟩ (.string ((rd_T45 t164 x32_1).f1))).setCell ⟨gb171, 2, none⟩ (.int .i64 ((rd_T45 t164 x32_1).f2)))).cell? _ = some _ from hx172_1)); (try have hy172_2 := fun (n_ : Nat) => (show (((((w36.drewN n_).setCell ⟨gb171, 0, none⟩ (.int .i64 ((rd_T45 t164 x32_1).f0))).setCell ⟨gb171, 1, none⟩ (.string ((rd_T45 t164 x32_1).f1))).setCell ⟨gb171, 2, none⟩ (.int .i64 ((rd_T45 t164 x32_1).f2)))).cell? _ = some _ from hx172_2)); clear hn172_0; clear hn172_1; clear hn172_2; replace p172 := eq_true p172; replace q172 := eq_true q172))
                          repeat (go_quiet (fail); try go_wp2_with (fail))
                          go_ret
                          exact ⟨by first | rfl | (simp [errW_none, errW_some] <;> rfl) | (simp only [← hji13]; first | rfl | (simp [errW_none, errW_some] <;> rfl)) | (simp [*, errW_none, errW_some] <;> rfl), by repeat (first | (with_reducible first | exact HB.out | apply below_alloc | apply pw_below_drewN | apply below_drew1 | refine below_set ?_ GE171.out) | exact HB.out)⟩
                        · rw [if_neg c35] at H
                          have c35b0 : decide (((rd_T45 t164 x32_1).f2) < 0) = false := decide_eq_false c35
                          clear c35
                          by_cases c38 : ((rd_T45 t164 x32_1).f2) > (a0.size : Int)
                          · rw [if_pos c38] at H
                            have c38b0 : decide ((a0.size : Int) < ((rd_T45 t164 x32_1).f2)) = true := decide_eq_true c38
                            clear c38
                            obtain rfl := Option.some.inj H
                            have p170 : 0 ≤ (x32_1 : Int) := of_decide_eq_true (by first | (with_reducible assumption) | assumption)
                            have q170 : x32_1 < (t164.length : Int) := of_decide_eq_true (by first | (with_reducible assumption) | assumption)
                            obtain ⟨ad170, e170, hx170_0, hx170_1, hx170_2⟩ := at_T45 (Kd.R_reads' HO_30.out).2.2 x32_1 p170 q170
                            cases e170
                            replace p170 := eq_true p170
                            replace q170 := eq_true q170
                            go_wp2_with (first | ((with_reducible refine gate_dst (N := 8) rfl ?_); (try (refine gate_guard (by rfl) ?_; dsimp only)); refine box_event ?hg (N := 8) ?hd (cs := #[.int .i64 0, .string (⟨#[]⟩ : ByteArray), .int .i64 0]) (t := 45) ?hr ?_; (case hd => rfl); (case hg => rfl); (case hr => first | (go_simp; done) | (go_simp; rfl)); intro gb171 hg w39 hbox hb; have n0_ := Aside0.mk (Kd.R_below (Kd.R_elderB (by (with_reducible repeat (first | apply Kd.R_alloc | apply Kd.R_drewN | apply Kd.R_drew)); exact HO_3.out) gb171 (Nat.le_of_eq hg.symm)) hb); have n1_ := Aside0.mk (Kd.R_below (Kd.R_elderB (by (with_reducible repeat (first | apply Kd.R_alloc | apply Kd.R_drewN | apply Kd.R_drew)); exact HO_30.out) gb171 (Nat.le_of_eq hg.symm)) hb); have n2_ := Aside0.mk (below_step (by repeat (first | (with_reducible first | exact HB.out | apply below_alloc | apply pw_below_drewN | apply below_drew1) | exact HB.out)) hb); have n3_ := Aside0.mk (hbox); have n4_ := Aside0.mk ((by rw [hg]; exact (below_size (by repeat (first | (with_reducible first | exact HB.out | apply below_alloc | apply pw_below_drewN | apply below_drew1) | exact HB.out))) : w.heap.size ≤ gb171)); have n5_ := Aside0.mk ((by rw [hg]; exact (below_size (by repeat (first | (with_reducible first | exact HB.out | apply below_alloc | apply pw_below_drewN | apply below_drew1) | exact HB.out))) : w.heap.size ≤ gb171)); clear HO_3; clear HO_30; clear HB; have HO_3 := n0_; have HO_30 := n1_; have HB := n2_; have BK171 := n3_; have GW171 := n4_; have GE171 := n5_; clear n0_ n1_ n2_ n3_ n4_ n5_; have GQ_ := Aside0.mk (show ad170.block ≠ gb171 by rw [hg]; exact Go.Proofs.YtghdnijdbmekjaaDoorOwn.own_blkne (hx170_0)); clear hb hbox hg; have hcz40_0 : w39.cell? ⟨gb171, 0, none⟩ = some (.int .i64 0) := (blk_cell BK171.out 0).trans rfl; have hcz40_1 : w39.cell? ⟨gb171, 1, none⟩ = some (.string (⟨#[]⟩ : ByteArray)) := (blk_cell BK171.out 1).trans rfl; have hcz40_2 : w39.cell? ⟨gb171, 2, none⟩ = some (.int .i64 0) := (blk_cell BK171.out 2).trans rfl; have hfz40_0 := blk_frozen BK171.out 0; have hfz40_1 := blk_frozen BK171.out 1; have hfz40_2 := blk_frozen BK171.out 2; have p172 : 0 ≤ ((ji13) : Int) := of_decide_eq_true (by first | (with_reducible assumption) | assumption); have q172 : (ji13) < (t164.length : Int) := of_decide_eq_true (by first | (with_reducible assumption) | assumption); obtain ⟨ad172, e172, hx172_0, hx172_1, hx172_2⟩ := at_T45 (Kd.R_reads' HO_3.out).2.2 (ji13) p172 q172; obtain rfl : ad170 = ad172 := (by injection e172); have hn172_0 : ad170.block ≠ gb171 := GQ_.out; have hn172_1 : ad170.block ≠ gb171 := GQ_.out; have hn172_2 : ad170.block ≠ gb171 := GQ_.out; replace hx172_0 := (cell_far (p := ⟨gb171, 0, none⟩) (by first | (rw [add_block]; exact hn172_0) | (show (Addr.add _ _).block ≠ _; rw [add_block]; exact hn172_0) | exact hn172_0) (.int .i64 ((rd_T45 t164 x32_1).f0))).trans hx172_0; replace hx172_1 := (cell_far (p := ⟨gb171, 0, none⟩) (by first | (rw [add_block]; exact hn172_0) | (show (Addr.add _ _).block ≠ _; rw [add_block]; exact hn172_0) | exact hn172_0) (.int .i64 ((rd_T45 t164 x32_1).f0))).trans hx172_1; replace hx172_2 := (cell_far (p := ⟨gb171, 0, none⟩) (by first | (rw [add_block]; exact hn172_0) | (show (Addr.add _ _).block ≠ _; rw [add_block]; exact hn172_0) | exact hn172_0) (.int .i64 ((rd_T45 t164 x32_1).f0))).trans hx172_2; replace hx172_0 := (cell_far (p := ⟨gb171, 1, none⟩) (by first | (rw [add_block]; exact hn172_1) | (show (Addr.add _ _).block ≠ _; rw [add_block]; exact hn172_1) | exact hn172_1) (.string ((rd_T45 t164 x32_1).f1))).trans hx172_0; replace hx172_1 := (cell_far (p := ⟨gb171, 1, none⟩) (by first | (rw [add_block]; exact hn172_1) | (show (Addr.add _ _).block ≠ _; rw [add_block]; exact hn172_1) | exact hn172_1) (.string ((rd_T45 t164 x32_1).f1))).trans hx172_1; replace hx172_2 := (cell_far (p := ⟨gb171, 1, none⟩) (by first | (rw [add_block]; exact hn172_1) | (show (Addr.add _ _).block ≠ _; rw [add_block]; exact hn172_1) | exact hn172_1) (.string ((rd_T45 t164 x32_1).f1))).trans hx172_2; replace hx172_0 := (cell_far (p := ⟨gb171, 2, none⟩) (by first | (rw [add_block]; exact hn172_2) | (show (Addr.add _ _).block ≠ _; rw [add_block]; exact hn172_2) | exact hn172_2) (.int .i64 ((rd_T45 t164 x32_1).f2))).trans hx172_0; replace hx172_1 := (cell_far (p := ⟨gb171, 2, none⟩) (by first | (rw [add_block]; exact hn172_2) | (show (Addr.add _ _).block ≠ _; rw [add_block]; exact hn172_2) | exact hn172_2) (.int .i64 ((rd_T45 t164 x32_1).f2))).trans hx172_1; replace hx172_2 := (cell_far (p := ⟨gb171, 2, none⟩) (by first | (rw [add_block]; exact hn172_2) | (show (Addr.add _ _).block ≠ _; rw [add_block]; exact hn172_2) | exact hn172_2) (.int .i64 ((rd_T45 t164 x32_1).f2))).trans hx172_2; (try have hy172_0 := fun (n_ : Nat) => (show (((((w39.drewN n_).setCell ⟨gb171, 0, none⟩ (.int .i64 ((rd_T45 t164 x32_1).f0))).setCell ⟨gb171, 1, none⟩ (.string ((rd_T45 t164 x32_1).f1))).setCell ⟨gb171, 2, none⟩ (.int .i64 ((rd_T45 t164 x32_1).f2)))).cell? _ = some _ from hx172_0)); (try have hy172_1 := fun (n_ : Nat) => (show (((((w39.drewN n_).setCell ⟨gb171, 0, none⟩ (.int .i64 ((rd_T45 t164 x32_1).f0))).setCell ⟨gb171, 1, none⟩ (.string ((rd_T45 t164 x32_1).f1))).setCell ⟨gb171, 2, none⟩ (.int .i64 ((rd_T45 t164 x32_1).f2)))).cell? _ = some _ from hx172_1)); (try have hy172_2 := fun (n_ : Nat) => (show (((((w39.drewN n_).setCell ⟨gb171, 0, none⟩ (.int .i64 ((rd_T45 t164 x32_1).f0))).setCell ⟨gb171, 1, none⟩ (.string ((rd_T45 t164 x32_1).f1))).setCell ⟨gb171, 2, none⟩ (.int .i64 ((rd_T45 t164 x32_1).f2)))).cell? _ = some _ from hx172_2)); clear hn172_0; clear hn172_1; clear hn172_2; replace p172 := eq_true p172; replace q172 := eq_true q172))
                            repeat (go_quiet (fail); try go_wp2_with (fail))
                            go_ret
                            exact ⟨by first | rfl | (simp [errW_none, errW_some] <;> rfl) | (simp only [← hji13]; first | rfl | (simp [errW_none, errW_some] <;> rfl)) | (simp [*, errW_none, errW_some] <;> rfl), by repeat (first | (with_reducible first | exact HB.out | apply below_alloc | apply pw_below_drewN | apply below_drew1 | refine below_set ?_ GE171.out) | exact HB.out)⟩
                          · rw [if_neg c38] at H
                            have c38b0 : decide ((a0.size : Int) < ((rd_T45 t164 x32_1).f2)) = false := decide_eq_false c38
                            clear c38
                            replace H := Option.bind_eq_some_iff.mp H
                            obtain ⟨t175, A410, H⟩ := H
                            replace H : (if t175.size + 1 ≤ 9223372036854775807 then (if x6_1.size + (t175 ++ (⟨#[32]⟩ : ByteArray)).size ≤ 9223372036854775807 then (wickerlaw05_LexAgain.l0 k1 a0 t164 (x6_1 ++ (t175 ++ (⟨#[32]⟩ : ByteArray))) t164 (t164.length : Int) (wrap64 (x32_1 + 1))) else (none)) else (none)) = some r := H
                            have A41 := Aside0.mk A410
                            clear A410
                            by_cases c42 : t175.size + 1 ≤ 9223372036854775807
                            · rw [if_pos c42] at H
                              have c42b0 := eq_true c42
                              have c42b1 : decide (t175.size + 1 ≤ 9223372036854775807) = true := decide_eq_true c42
                              try have c42b2 : (9223372036854775807 < t175.size + 1) = False := eq_false (Nat.not_lt.2 c42)
                              by_cases c43 : x6_1.size + (t175 ++ (⟨#[32]⟩ : ByteArray)).size ≤ 9223372036854775807
                              · rw [if_pos c43] at H
                                have c43b0 := eq_true c43
                                have c43b1 : decide (x6_1.size + (t175 ++ (⟨#[32]⟩ : ByteArray)).size ≤ 9223372036854775807) = true := decide_eq_true c43
                                try have c43b2 : (9223372036854775807 < x6_1.size + (t175 ++ (⟨#[32]⟩ : ByteArray)).size) = False := eq_false (Nat.not_lt.2 c43)
                                try (have c43b3 := c43b2; simp only [ByteArray.size_append, ByteArray.size_extract, Nat.sub_zero, show (⟨#[32]⟩ : ByteArray).size = 1 from rfl] at c43b3)
                                have H' := Aside0.mk H
                                clear H
                                have p170 : 0 ≤ (x32_1 : Int) := of_decide_eq_true (by first | (with_reducible assumption) | assumption)
                                have q170 : x32_1 < (t164.length : Int) := of_decide_eq_true (by first | (with_reducible assumption) | assumption)
                                obtain ⟨ad170, e170, hx170_0, hx170_1, hx170_2⟩ := at_T45 (Kd.R_reads' HO_30.out).2.2 x32_1 p170 q170
                                cases e170
                                replace p170 := eq_true p170
                                replace q170 := eq_true q170
                                go_wp2_with (first | ((with_reducible refine gate_dst (N := 8) rfl ?_); (try (refine gate_guard (by rfl) ?_; dsimp only)); refine box_event ?hg (N := 8) ?hd (cs := #[.int .i64 0, .string (⟨#[]⟩ : ByteArray), .int .i64 0]) (t := 45) ?hr ?_; (case hd => rfl); (case hg => rfl); (case hr => first | (go_simp; done) | (go_simp; rfl)); intro gb171 hg w44 hbox hb; have n0_ := Aside0.mk (Kd.R_below (Kd.R_elderB (by (with_reducible repeat (first | apply Kd.R_alloc | apply Kd.R_drewN | apply Kd.R_drew)); exact HO_3.out) gb171 (Nat.le_of_eq hg.symm)) hb); have n1_ := Aside0.mk (Kd.R_below (Kd.R_elderB (by (with_reducible repeat (first | apply Kd.R_alloc | apply Kd.R_drewN | apply Kd.R_drew)); exact HO_30.out) gb171 (Nat.le_of_eq hg.symm)) hb); have n2_ := Aside0.mk (below_step (by repeat (first | (with_reducible first | exact HB.out | apply below_alloc | apply pw_below_drewN | apply below_drew1) | exact HB.out)) hb); have n3_ := Aside0.mk (hbox); have n4_ := Aside0.mk ((by rw [hg]; exact (below_size (by repeat (first | (with_reducible first | exact HB.out | apply below_alloc | apply pw_below_drewN | apply below_drew1) | exact HB.out))) : w.heap.size ≤ gb171)); have n5_ := Aside0.mk ((by rw [hg]; exact (below_size (by repeat (first | (with_reducible first | exact HB.out | apply below_alloc | apply pw_below_drewN | apply below_drew1) | exact HB.out))) : w.heap.size ≤ gb171)); clear HO_3; clear HO_30; clear HB; have HO_3 := n0_; have HO_30 := n1_; have HB := n2_; have BK171 := n3_; have GW171 := n4_; have GE171 := n5_; clear n0_ n1_ n2_ n3_ n4_ n5_; have GQ_ := Aside0.mk (show ad170.block ≠ gb171 by rw [hg]; exact Go.Proofs.YtghdnijdbmekjaaDoorOwn.own_blkne (hx170_0)); clear hb hbox hg; have hcz45_0 : w44.cell? ⟨gb171, 0, none⟩ = some (.int .i64 0) := (blk_cell BK171.out 0).trans rfl; have hcz45_1 : w44.cell? ⟨gb171, 1, none⟩ = some (.string (⟨#[]⟩ : ByteArray)) := (blk_cell BK171.out 1).trans rfl; have hcz45_2 : w44.cell? ⟨gb171, 2, none⟩ = some (.int .i64 0) := (blk_cell BK171.out 2).trans rfl; have hfz45_0 := blk_frozen BK171.out 0; have hfz45_1 := blk_frozen BK171.out 1; have hfz45_2 := blk_frozen BK171.out 2; have p172 : 0 ≤ ((ji13) : Int) := of_decide_eq_true (by first | (with_reducible assumption) | assumption); have q172 : (ji13) < (t164.length : Int) := of_decide_eq_true (by first | (with_reducible assumption) | assumption); obtain ⟨ad172, e172, hx172_0, hx172_1, hx172_2⟩ := at_T45 (Kd.R_reads' HO_3.out).2.2 (ji13) p172 q172; obtain rfl : ad170 = ad172 := (by injection e172); have hn172_0 : ad170.block ≠ gb171 := GQ_.out; have hn172_1 : ad170.block ≠ gb171 := GQ_.out; have hn172_2 : ad170.block ≠ gb171 := GQ_.out; replace hx172_0 := (cell_far (p := ⟨gb171, 0, none⟩) (by first | (rw [add_block]; exact hn172_0) | (show (Addr.add _ _).block ≠ _; rw [add_block]; exact hn172_0) | exact hn172_0) (.int .i64 ((rd_T45 t164 x32_1).f0))).trans hx172_0; replace hx172_1 := (cell_far (p := ⟨gb171, 0, none⟩) (by first | (rw [add_block]; exact hn172_0) | (show (Addr.add _ _).block ≠ _; rw [add_block]; exact hn172_0) | exact hn172_0) (.int .i64 ((rd_T45 t164 x32_1).f0))).trans hx172_1; replace hx172_2 := (cell_far (p := ⟨gb171, 0, none⟩) (by first | (rw [add_block]; exact hn172_0) | (show (Addr.add _ _).block ≠ _; rw [add_block]; exact hn172_0) | exact hn172_0) (.int .i64 ((rd_T45 t164 x32_1).f0))).trans hx172_2; replace hx172_0 := (cell_far (p := ⟨gb171, 1, none⟩) (by first | (rw [add_block]; exact hn172_1) | (show (Addr.add _ _).block ≠ _; rw [add_block]; exact hn172_1) | exact hn172_1) (.string ((rd_T45 t164 x32_1).f1))).trans hx172_0; replace hx172_1 := (cell_far (p := ⟨gb171, 1, none⟩) (by first | (rw [add_block]; exact hn172_1) | (show (Addr.add _ _).block ≠ _; rw [add_block]; exact hn172_1) | exact hn172_1) (.string ((rd_T45 t164 x32_1).f1))).trans hx172_1; replace hx172_2 := (cell_far (p := ⟨gb171, 1, none⟩) (by first | (rw [add_block]; exact hn172_1) | (show (Addr.add _ _).block ≠ _; rw [add_block]; exact hn172_1) | exact hn172_1) (.string ((rd_T45 t164 x32_1).f1))).trans hx172_2; replace hx172_0 := (cell_far (p := ⟨gb171, 2, none⟩) (by first | (rw [add_block]; exact hn172_2) | (show (Addr.add _ _).block ≠ _; rw [add_block]; exact hn172_2) | exact hn172_2) (.int .i64 ((rd_T45 t164 x32_1).f2))).trans hx172_0; replace hx172_1 := (cell_far (p := ⟨gb171, 2, none⟩) (by first | (rw [add_block]; exact hn172_2) | (show (Addr.add _ _).block ≠ _; rw [add_block]; exact hn172_2) | exact hn172_2) (.int .i64 ((rd_T45 t164 x32_1).f2))).trans hx172_1; replace hx172_2 := (cell_far (p := ⟨gb171, 2, none⟩) (by first | (rw [add_block]; exact hn172_2) | (show (Addr.add _ _).block ≠ _; rw [add_block]; exact hn172_2) | exact hn172_2) (.int .i64 ((rd_T45 t164 x32_1).f2))).trans hx172_2; (try have hy172_0 := fun (n_ : Nat) => (show (((((w44.drewN n_).setCell ⟨gb171, 0, none⟩ (.int .i64 ((rd_T45 t164 x32_1).f0))).setCell ⟨gb171, 1, none⟩ (.string ((rd_T45 t164 x32_1).f1))).setCell ⟨gb171, 2, none⟩ (.int .i64 ((rd_T45 t164 x32_1).f2)))).cell? _ = some _ from hx172_0)); (try have hy172_1 := fun (n_ : Nat) => (show (((((w44.drewN n_).setCell ⟨gb171, 0, none⟩ (.int .i64 ((rd_T45 t164 x32_1).f0))).setCell ⟨gb171, 1, none⟩ (.string ((rd_T45 t164 x32_1).f1))).setCell ⟨gb171, 2, none⟩ (.int .i64 ((rd_T45 t164 x32_1).f2)))).cell? _ = some _ from hx172_1)); (try have hy172_2 := fun (n_ : Nat) => (show (((((w44.drewN n_).setCell ⟨gb171, 0, none⟩ (.int .i64 ((rd_T45 t164 x32_1).f0))).setCell ⟨gb171, 1, none⟩ (.string ((rd_T45 t164 x32_1).f1))).setCell ⟨gb171, 2, none⟩ (.int .i64 ((rd_T45 t164 x32_1).f2)))).cell? _ = some _ from hx172_2)); clear hn172_0; clear hn172_1; clear hn172_2; replace p172 := eq_true p172; replace q172 := eq_true q172) | (go_at_call 25; (with_reducible refine (wickerlaw05_show.calls ((rd_T45 t164 x32_1).f0) ((rd_T45 t164 x32_1).f1) ((rd_T45 t164 x32_1).f2) t175 _ A41.out).mono ?_); rintro e w46 ⟨rfl, hb⟩; have n0_ := Aside0.mk (Kd.R_below (by (with_reducible repeat (first | apply Kd.R_alloc | apply Kd.R_drewN | apply Kd.R_drew)); exact (Kd.R_mono (Kd.R_far (p := ⟨gb171, 2, none⟩) (Kd.R_far (p := ⟨gb171, 1, none⟩) (Kd.R_far (p := ⟨gb171, 0, none⟩) (Kd.R_mono HO_3.out (fun k_ hk => (⟨hk, hk.2⟩ : _ ∧ k_ ≠ gb171))) (fun _ hk => hk.2) (.int .i64 ((rd_T45 t164 x32_1).f0))) (fun _ hk => hk.2) (.string ((rd_T45 t164 x32_1).f1))) (fun _ hk => hk.2) (.int .i64 ((rd_T45 t164 x32_1).f2))) (fun _ h_ => h_.1))) hb); have n1_ := Aside0.mk (Kd.R_below (by (with_reducible repeat (first | apply Kd.R_alloc | apply Kd.R_drewN | apply Kd.R_drew)); exact (Kd.R_mono (Kd.R_far (p := ⟨gb171, 2, none⟩) (Kd.R_far (p := ⟨gb171, 1, none⟩) (Kd.R_far (p := ⟨gb171, 0, none⟩) (Kd.R_mono HO_30.out (fun k_ hk => (⟨hk, hk.2⟩ : _ ∧ k_ ≠ gb171))) (fun _ hk => hk.2) (.int .i64 ((rd_T45 t164 x32_1).f0))) (fun _ hk => hk.2) (.string ((rd_T45 t164 x32_1).f1))) (fun _ hk => hk.2) (.int .i64 ((rd_T45 t164 x32_1).f2))) (fun _ h_ => h_.1))) hb); have n2_ := Aside0.mk (blk_below (g := gb171) (o := .cells #[.int .i64 ((rd_T45 t164 x32_1).f0), .string ((rd_T45 t164 x32_1).f1), .int .i64 ((rd_T45 t164 x32_1).f2)] 45 (0, 0)) (by (with_reducible repeat (first | refine blk_drewN ?_ _ | refine blk_drew ?_ | refine blk_alloc ?_ _)); refine blk_put (cs := #[.int .i64 ((rd_T45 t164 x32_1).f0), .string ((rd_T45 t164 x32_1).f1), .int .i64 0]) ?_ 2 _ rfl; (with_reducible repeat (first | refine blk_drewN ?_ _ | refine blk_drew ?_ | refine blk_alloc ?_ _)); refine blk_put (cs := #[.int .i64 ((rd_T45 t164 x32_1).f0), .string (⟨#[]⟩ : ByteArray), .int .i64 0]) ?_ 1 _ rfl; (with_reducible repeat (first | refine blk_drewN ?_ _ | refine blk_drew ?_ | refine blk_alloc ?_ _)); refine blk_put (cs := #[.int .i64 0, .string (⟨#[]⟩ : ByteArray), .int .i64 0]) ?_ 0 _ rfl; (with_reducible repeat (first | refine blk_drewN ?_ _ | refine blk_drew ?_ | refine blk_alloc ?_ _)); exact BK171.out) hb); have n3_ := Aside0.mk (below_step (by repeat (first | (with_reducible first | exact HB.out | apply below_alloc | apply pw_below_drewN | apply below_drew1 | refine below_set ?_ GE171.out) | exact HB.out)) hb); clear HO_3; clear HO_30; clear BK171; clear HB; have HO_3 := n0_; have HO_30 := n1_; have BK171 := n2_; have HB := n3_; clear n0_ n1_ n2_ n3_; (try clear hb); (try clear hb2); (try clear hk); (try clear hi)))
                                repeat (go_quiet (first | (go_at_call 25; (with_reducible refine (wickerlaw05_show.calls ((rd_T45 t164 x32_1).f0) ((rd_T45 t164 x32_1).f1) ((rd_T45 t164 x32_1).f2) t175 _ A41.out).mono ?_); rintro e w46 ⟨rfl, hb⟩; have n0_ := Aside0.mk (Kd.R_below (by (with_reducible repeat (first | apply Kd.R_alloc | apply Kd.R_drewN | apply Kd.R_drew)); exact (Kd.R_mono (Kd.R_far (p := ⟨gb171, 2, none⟩) (Kd.R_far (p := ⟨gb171, 1, none⟩) (Kd.R_far (p := ⟨gb171, 0, none⟩) (Kd.R_mono HO_3.out (fun k_ hk => (⟨hk, hk.2⟩ : _ ∧ k_ ≠ gb171))) (fun _ hk => hk.2) (.int .i64 ((rd_T45 t164 x32_1).f0))) (fun _ hk => hk.2) (.string ((rd_T45 t164 x32_1).f1))) (fun _ hk => hk.2) (.int .i64 ((rd_T45 t164 x32_1).f2))) (fun _ h_ => h_.1))) hb); have n1_ := Aside0.mk (Kd.R_below (by (with_reducible repeat (first | apply Kd.R_alloc | apply Kd.R_drewN | apply Kd.R_drew)); exact (Kd.R_mono (Kd.R_far (p := ⟨gb171, 2, none⟩) (Kd.R_far (p := ⟨gb171, 1, none⟩) (Kd.R_far (p := ⟨gb171, 0, none⟩) (Kd.R_mono HO_30.out (fun k_ hk => (⟨hk, hk.2⟩ : _ ∧ k_ ≠ gb171))) (fun _ hk => hk.2) (.int .i64 ((rd_T45 t164 x32_1).f0))) (fun _ hk => hk.2) (.string ((rd_T45 t164 x32_1).f1))) (fun _ hk => hk.2) (.int .i64 ((rd_T45 t164 x32_1).f2))) (fun _ h_ => h_.1))) hb); have n2_ := Aside0.mk (blk_below (g := gb171) (o := .cells #[.int .i64 ((rd_T45 t164 x32_1).f0), .string ((rd_T45 t164 x32_1).f1), .int .i64 ((rd_T45 t164 x32_1).f2)] 45 (0, 0)) (by (with_reducible repeat (first | refine blk_drewN ?_ _ | refine blk_drew ?_ | refine blk_alloc ?_ _)); refine blk_put (cs := #[.int .i64 ((rd_T45 t164 x32_1).f0), .string ((rd_T45 t164 x32_1).f1), .int .i64 0]) ?_ 2 _ rfl; (with_reducible repeat (first | refine blk_drewN ?_ _ | refine blk_drew ?_ | refine blk_alloc ?_ _)); refine blk_put (cs := #[.int .i64 ((rd_T45 t164 x32_1).f0), .string (⟨#[]⟩ : ByteArray), .int .i64 0]) ?_ 1 _ rfl; (with_reducible repeat (first | refine blk_drewN ?_ _ | refine blk_drew ?_ | refine blk_alloc ?_ _)); refine blk_put (cs := #[.int .i64 0, .string (⟨#[]⟩ : ByteArray), .int .i64 0]) ?_ 0 _ rfl; (with_reducible repeat (first | refine blk_drewN ?_ _ | refine blk_drew ?_ | refine blk_alloc ?_ _)); exact BK171.out) hb); have n3_ := Aside0.mk (below_step (by repeat (first | (with_reducible first | exact HB.out | apply below_alloc | apply pw_below_drewN | apply below_drew1 | refine below_set ?_ GE171.out) | exact HB.out)) hb); clear HO_3; clear HO_30; clear BK171; clear HB; have HO_3 := n0_; have HO_30 := n1_; have BK171 := n2_; have HB := n3_; clear n0_ n1_ n2_ n3_; (try clear hb); (try clear hb2); (try clear hk); (try clear hi))); try go_wp2_with (first | (go_at_call 25; (with_reducible refine (wickerlaw05_show.calls ((rd_T45 t164 x32_1).f0) ((rd_T45 t164 x32_1).f1) ((rd_T45 t164 x32_1).f2) t175 _ A41.out).mono ?_); rintro e w46 ⟨rfl, hb⟩; have n0_ := Aside0.mk (Kd.R_below (by (with_reducible repeat (first | apply Kd.R_alloc | apply Kd.R_drewN | apply Kd.R_drew)); exact (Kd.R_mono (Kd.R_far (p := ⟨gb171, 2, none⟩) (Kd.R_far (p := ⟨gb171, 1, none⟩) (Kd.R_far (p := ⟨gb171, 0, none⟩) (Kd.R_mono HO_3.out (fun k_ hk => (⟨hk, hk.2⟩ : _ ∧ k_ ≠ gb171))) (fun _ hk => hk.2) (.int .i64 ((rd_T45 t164 x32_1).f0))) (fun _ hk => hk.2) (.string ((rd_T45 t164 x32_1).f1))) (fun _ hk => hk.2) (.int .i64 ((rd_T45 t164 x32_1).f2))) (fun _ h_ => h_.1))) hb); have n1_ := Aside0.mk (Kd.R_below (by (with_reducible repeat (first | apply Kd.R_alloc | apply Kd.R_drewN | apply Kd.R_drew)); exact (Kd.R_mono (Kd.R_far (p := ⟨gb171, 2, none⟩) (Kd.R_far (p := ⟨gb171, 1, none⟩) (Kd.R_far (p := ⟨gb171, 0, none⟩) (Kd.R_mono HO_30.out (fun k_ hk => (⟨hk, hk.2⟩ : _ ∧ k_ ≠ gb171))) (fun _ hk => hk.2) (.int .i64 ((rd_T45 t164 x32_1).f0))) (fun _ hk => hk.2) (.string ((rd_T45 t164 x32_1).f1))) (fun _ hk => hk.2) (.int .i64 ((rd_T45 t164 x32_1).f2))) (fun _ h_ => h_.1))) hb); have n2_ := Aside0.mk (blk_below (g := gb171) (o := .cells #[.int .i64 ((rd_T45 t164 x32_1).f0), .string ((rd_T45 t164 x32_1).f1), .int .i64 ((rd_T45 t164 x32_1).f2)] 45 (0, 0)) (by (with_reducible repeat (first | refine blk_drewN ?_ _ | refine blk_drew ?_ | refine blk_alloc ?_ _)); refine blk_put (cs := #[.int .i64 ((rd_T45 t164 x32_1).f0), .string ((rd_T45 t164 x32_1).f1), .int .i64 0]) ?_ 2 _ rfl; (with_reducible repeat (first | refine blk_drewN ?_ _ | refine blk_drew ?_ | refine blk_alloc ?_ _)); refine blk_put (cs := #[.int .i64 ((rd_T45 t164 x32_1).f0), .string (⟨#[]⟩ : ByteArray), .int .i64 0]) ?_ 1 _ rfl; (with_reducible repeat (first | refine blk_drewN ?_ _ | refine blk_drew ?_ | refine blk_alloc ?_ _)); refine blk_put (cs := #[.int .i64 0, .string (⟨#[]⟩ : ByteArray), .int .i64 0]) ?_ 0 _ rfl; (with_reducible repeat (first | refine blk_drewN ?_ _ | refine blk_drew ?_ | refine blk_alloc ?_ _)); exact BK171.out) hb); have n3_ := Aside0.mk (below_step (by repeat (first | (with_reducible first | exact HB.out | apply below_alloc | apply pw_below_drewN | apply below_drew1 | refine below_set ?_ GE171.out) | exact HB.out)) hb); clear HO_3; clear HO_30; clear BK171; clear HB; have HO_3 := n0_; have HO_30 := n1_; have BK171 := n2_; have HB := n3_; clear n0_ n1_ n2_ n3_; (try clear hb); (try clear hb2); (try clear hk); (try clear hi))))
                                go_roundg k1
                                case measure => have := HK1.out; omega
                                case rel => exact ⟨(x6_1 ++ (t175 ++ (⟨#[32]⟩ : ByteArray))), (wrap64 (x32_1 + 1)), (by first | rfl | (simp; done) | (simp [*]; done)), (by first | rfl | (simp; done) | (simp [*]; done)), H', ⟨by have := HK1.out; omega⟩, ⟨by (with_reducible repeat (first | apply Kd.R_alloc | apply Kd.R_drewN | apply Kd.R_drew)); exact Kd.R_mono HO_3.out (fun _ hk => trivial)⟩, ⟨by (with_reducible repeat (first | apply Kd.R_alloc | apply Kd.R_drewN | apply Kd.R_drew)); exact Kd.R_mono HO_30.out (fun _ hk => trivial)⟩, ⟨by repeat (first | (with_reducible first | exact HB.out | apply below_alloc | apply pw_below_drewN | apply below_drew1 | refine below_set ?_ GE171.out) | exact HB.out)⟩⟩
                              · rw [if_neg c43] at H
                                exact absurd H (by simp)
                            · rw [if_neg c42] at H
                              exact absurd H (by simp)
                    · rw [if_neg c15] at H
                      exact absurd H (by simp)
                  · rw [if_neg c14] at H
                    exact absurd H (by simp)
                · rw [if_neg c12] at H
                  have c12b0 : decide (0 < x32_1) = false := decide_eq_false c12
                  clear c12
                  by_cases c47 : ((rd_T45 t164 x32_1).f2) < 0
                  · rw [if_pos c47] at H
                    have c47b0 : decide (((rd_T45 t164 x32_1).f2) < 0) = true := decide_eq_true c47
                    clear c47
                    obtain rfl := Option.some.inj H
                    have p170 : 0 ≤ (x32_1 : Int) := of_decide_eq_true (by first | (with_reducible assumption) | assumption)
                    have q170 : x32_1 < (t164.length : Int) := of_decide_eq_true (by first | (with_reducible assumption) | assumption)
                    obtain ⟨ad170, e170, hx170_0, hx170_1, hx170_2⟩ := at_T45 (Kd.R_reads' HO_30.out).2.2 x32_1 p170 q170
                    cases e170
                    replace p170 := eq_true p170
                    replace q170 := eq_true q170
                    go_wp2_with (first | ((with_reducible refine gate_dst (N := 8) rfl ?_); (try (refine gate_guard (by rfl) ?_; dsimp only)); refine box_event ?hg (N := 8) ?hd (cs := #[.int .i64 0, .string (⟨#[]⟩ : ByteArray), .int .i64 0]) (t := 45) ?hr ?_; (case hd => rfl); (case hg => rfl); (case hr => first | (go_simp; done) | (go_simp; rfl)); intro gb171 hg w48 hbox hb; have n0_ := Aside0.mk (Kd.R_below (Kd.R_elderB (by (with_reducible repeat (first | apply Kd.R_alloc | apply Kd.R_drewN | apply Kd.R_drew)); exact HO_3.out) gb171 (Nat.le_of_eq hg.symm)) hb); have n1_ := Aside0.mk (Kd.R_below (Kd.R_elderB (by (with_reducible repeat (first | apply Kd.R_alloc | apply Kd.R_drewN | apply Kd.R_drew)); exact HO_30.out) gb171 (Nat.le_of_eq hg.symm)) hb); have n2_ := Aside0.mk (below_step (by repeat (first | (with_reducible first | exact HB.out | apply below_alloc | apply pw_below_drewN | apply below_drew1) | exact HB.out)) hb); have n3_ := Aside0.mk (hbox); have n4_ := Aside0.mk ((by rw [hg]; exact (below_size (by repeat (first | (with_reducible first | exact HB.out | apply below_alloc | apply pw_below_drewN | apply below_drew1) | exact HB.out))) : w.heap.size ≤ gb171)); have n5_ := Aside0.mk ((by rw [hg]; exact (below_size (by repeat (first | (with_reducible first | exact HB.out | apply below_alloc | apply pw_below_drewN | apply below_drew1) | exact HB.out))) : w.heap.size ≤ gb171)); clear HO_3; clear HO_30; clear HB; have HO_3 := n0_; have HO_30 := n1_; have HB := n2_; have BK171 := n3_; have GW171 := n4_; have GE171 := n5_; clear n0_ n1_ n2_ n3_ n4_ n5_; clear hb hbox hg; have hcz49_0 : w48.cell? ⟨gb171, 0, none⟩ = some (.int .i64 0) := (blk_cell BK171.out 0).trans rfl; have hcz49_1 : w48.cell? ⟨gb171, 1, none⟩ = some (.string (⟨#[]⟩ : ByteArray)) := (blk_cell BK171.out 1).trans rfl; have hcz49_2 : w48.cell? ⟨gb171, 2, none⟩ = some (.int .i64 0) := (blk_cell BK171.out 2).trans rfl; have hfz49_0 := blk_frozen BK171.out 0; have hfz49_1 := blk_frozen BK171.out 1; have hfz49_2 := blk_frozen BK171.out 2))
                    repeat (go_quiet (fail); try go_wp2_with (fail))
                    go_ret
                    exact ⟨by first | rfl | (simp [errW_none, errW_some] <;> rfl) | (simp [*, errW_none, errW_some] <;> rfl), by repeat (first | (with_reducible first | exact HB.out | apply below_alloc | apply pw_below_drewN | apply below_drew1 | refine below_set ?_ GE171.out) | exact HB.out)⟩
                  · rw [if_neg c47] at H
                    have c47b0 : decide (((rd_T45 t164 x32_1).f2) < 0) = false := decide_eq_false c47
                    clear c47
                    by_cases c50 : ((rd_T45 t164 x32_1).f2) > (a0.size : Int)
                    · rw [if_pos c50] at H
                      have c50b0 : decide ((a0.size : Int) < ((rd_T45 t164 x32_1).f2)) = true := decide_eq_true c50
                      clear c50
                      obtain rfl := Option.some.inj H
                      have p170 : 0 ≤ (x32_1 : Int) := of_decide_eq_true (by first | (with_reducible assumption) | assumption)
                      have q170 : x32_1 < (t164.length : Int) := of_decide_eq_true (by first | (with_reducible assumption) | assumption)
                      obtain ⟨ad170, e170, hx170_0, hx170_1, hx170_2⟩ := at_T45 (Kd.R_reads' HO_30.out).2.2 x32_1 p170 q170
                      cases e170
                      replace p170 := eq_true p170
                      replace q170 := eq_true q170
                      go_wp2_with (first | ((with_reducible refine gate_dst (N := 8) rfl ?_); (try (refine gate_guard (by rfl) ?_; dsimp only)); refine box_event ?hg (N := 8) ?hd (cs := #[.int .i64 0, .string (⟨#[]⟩ : ByteArray), .int .i64 0]) (t := 45) ?hr ?_; (case hd => rfl); (case hg => rfl); (case hr => first | (go_simp; done) | (go_simp; rfl)); intro gb171 hg w51 hbox hb; have n0_ := Aside0.mk (Kd.R_below (Kd.R_elderB (by (with_reducible repeat (first | apply Kd.R_alloc | apply Kd.R_drewN | apply Kd.R_drew)); exact HO_3.out) gb171 (Nat.le_of_eq hg.symm)) hb); have n1_ := Aside0.mk (Kd.R_below (Kd.R_elderB (by (with_reducible repeat (first | apply Kd.R_alloc | apply Kd.R_drewN | apply Kd.R_drew)); exact HO_30.out) gb171 (Nat.le_of_eq hg.symm)) hb); have n2_ := Aside0.mk (below_step (by repeat (first | (with_reducible first | exact HB.out | apply below_alloc | apply pw_below_drewN | apply below_drew1) | exact HB.out)) hb); have n3_ := Aside0.mk (hbox); have n4_ := Aside0.mk ((by rw [hg]; exact (below_size (by repeat (first | (with_reducible first | exact HB.out | apply below_alloc | apply pw_below_drewN | apply below_drew1) | exact HB.out))) : w.heap.size ≤ gb171)); have n5_ := Aside0.mk ((by rw [hg]; exact (below_size (by repeat (first | (with_reducible first | exact HB.out | apply below_alloc | apply pw_below_drewN | apply below_drew1) | exact HB.out))) : w.heap.size ≤ gb171)); clear HO_3; clear HO_30; clear HB; have HO_3 := n0_; have HO_30 := n1_; have HB := n2_; have BK171 := n3_; have GW171 := n4_; have GE171 := n5_; clear n0_ n1_ n2_ n3_ n4_ n5_; clear hb hbox hg; have hcz52_0 : w51.cell? ⟨gb171, 0, none⟩ = some (.int .i64 0) := (blk_cell BK171.out 0).trans rfl; have hcz52_1 : w51.cell? ⟨gb171, 1, none⟩ = some (.string (⟨#[]⟩ : ByteArray)) := (blk_cell BK171.out 1).trans rfl; have hcz52_2 : w51.cell? ⟨gb171, 2, none⟩ = some (.int .i64 0) := (blk_cell BK171.out 2).trans rfl; have hfz52_0 := blk_frozen BK171.out 0; have hfz52_1 := blk_frozen BK171.out 1; have hfz52_2 := blk_frozen BK171.out 2))
                      repeat (go_quiet (fail); try go_wp2_with (fail))
                      go_ret
                      exact ⟨by first | rfl | (simp [errW_none, errW_some] <;> rfl) | (simp [*, errW_none, errW_some] <;> rfl), by repeat (first | (with_reducible first | exact HB.out | apply below_alloc | apply pw_below_drewN | apply below_drew1 | refine below_set ?_ GE171.out) | exact HB.out)⟩
                    · rw [if_neg c50] at H
                      have c50b0 : decide ((a0.size : Int) < ((rd_T45 t164 x32_1).f2)) = false := decide_eq_false c50
                      clear c50
                      replace H := Option.bind_eq_some_iff.mp H
                      obtain ⟨t176, A530, H⟩ := H
                      replace H : (if t176.size + 1 ≤ 9223372036854775807 then (if x6_1.size + (t176 ++ (⟨#[32]⟩ : ByteArray)).size ≤ 9223372036854775807 then (wickerlaw05_LexAgain.l0 k1 a0 t164 (x6_1 ++ (t176 ++ (⟨#[32]⟩ : ByteArray))) t164 (t164.length : Int) (wrap64 (x32_1 + 1))) else (none)) else (none)) = some r := H
                      have A53 := Aside0.mk A530
                      clear A530
                      by_cases c54 : t176.size + 1 ≤ 9223372036854775807
                      · rw [if_pos c54] at H
                        have c54b0 := eq_true c54
                        have c54b1 : decide (t176.size + 1 ≤ 9223372036854775807) = true := decide_eq_true c54
                        try have c54b2 : (9223372036854775807 < t176.size + 1) = False := eq_false (Nat.not_lt.2 c54)
                        by_cases c55 : x6_1.size + (t176 ++ (⟨#[32]⟩ : ByteArray)).size ≤ 9223372036854775807
                        · rw [if_pos c55] at H
                          have c55b0 := eq_true c55
                          have c55b1 : decide (x6_1.size + (t176 ++ (⟨#[32]⟩ : ByteArray)).size ≤ 9223372036854775807) = true := decide_eq_true c55
                          try have c55b2 : (9223372036854775807 < x6_1.size + (t176 ++ (⟨#[32]⟩ : ByteArray)).size) = False := eq_false (Nat.not_lt.2 c55)
                          try (have c55b3 := c55b2; simp only [ByteArray.size_append, ByteArray.size_extract, Nat.sub_zero, show (⟨#[32]⟩ : ByteArray).size = 1 from rfl] at c55b3)
                          have H' := Aside0.mk H
                          clear H
                          have p170 : 0 ≤ (x32_1 : Int) := of_decide_eq_true (by first | (with_reducible assumption) | assumption)
                          have q170 : x32_1 < (t164.length : Int) := of_decide_eq_true (by first | (with_reducible assumption) | assumption)
                          obtain ⟨ad170, e170, hx170_0, hx170_1, hx170_2⟩ := at_T45 (Kd.R_reads' HO_30.out).2.2 x32_1 p170 q170
                          cases e170
                          replace p170 := eq_true p170
                          replace q170 := eq_true q170
                          go_wp2_with (first | ((with_reducible refine gate_dst (N := 8) rfl ?_); (try (refine gate_guard (by rfl) ?_; dsimp only)); refine box_event ?hg (N := 8) ?hd (cs := #[.int .i64 0, .string (⟨#[]⟩ : ByteArray), .int .i64 0]) (t := 45) ?hr ?_; (case hd => rfl); (case hg => rfl); (case hr => first | (go_simp; done) | (go_simp; rfl)); intro gb171 hg w56 hbox hb; have n0_ := Aside0.mk (Kd.R_below (Kd.R_elderB (by (with_reducible repeat (first | apply Kd.R_alloc | apply Kd.R_drewN | apply Kd.R_drew)); exact HO_3.out) gb171 (Nat.le_of_eq hg.symm)) hb); have n1_ := Aside0.mk (Kd.R_below (Kd.R_elderB (by (with_reducible repeat (first | apply Kd.R_alloc | apply Kd.R_drewN | apply Kd.R_drew)); exact HO_30.out) gb171 (Nat.le_of_eq hg.symm)) hb); have n2_ := Aside0.mk (below_step (by repeat (first | (with_reducible first | exact HB.out | apply below_alloc | apply pw_below_drewN | apply below_drew1) | exact HB.out)) hb); have n3_ := Aside0.mk (hbox); have n4_ := Aside0.mk ((by rw [hg]; exact (below_size (by repeat (first | (with_reducible first | exact HB.out | apply below_alloc | apply pw_below_drewN | apply below_drew1) | exact HB.out))) : w.heap.size ≤ gb171)); have n5_ := Aside0.mk ((by rw [hg]; exact (below_size (by repeat (first | (with_reducible first | exact HB.out | apply below_alloc | apply pw_below_drewN | apply below_drew1) | exact HB.out))) : w.heap.size ≤ gb171)); clear HO_3; clear HO_30; clear HB; have HO_3 := n0_; have HO_30 := n1_; have HB := n2_; have BK171 := n3_; have GW171 := n4_; have GE171 := n5_; clear n0_ n1_ n2_ n3_ n4_ n5_; clear hb hbox hg; have hcz57_0 : w56.cell? ⟨gb171, 0, none⟩ = some (.int .i64 0) := (blk_cell BK171.out 0).trans rfl; have hcz57_1 : w56.cell? ⟨gb171, 1, none⟩ = some (.string (⟨#[]⟩ : ByteArray)) := (blk_cell BK171.out 1).trans rfl; have hcz57_2 : w56.cell? ⟨gb171, 2, none⟩ = some (.int .i64 0) := (blk_cell BK171.out 2).trans rfl; have hfz57_0 := blk_frozen BK171.out 0; have hfz57_1 := blk_frozen BK171.out 1; have hfz57_2 := blk_frozen BK171.out 2) | (go_at_call 25; (with_reducible refine (wickerlaw05_show.calls ((rd_T45 t164 x32_1).f0) ((rd_T45 t164 x32_1).f1) ((rd_T45 t164 x32_1).f2) t176 _ A53.out).mono ?_); rintro e w58 ⟨rfl, hb⟩; have n0_ := Aside0.mk (Kd.R_below (by (with_reducible repeat (first | apply Kd.R_alloc | apply Kd.R_drewN | apply Kd.R_drew)); exact (Kd.R_mono (Kd.R_far (p := ⟨gb171, 2, none⟩) (Kd.R_far (p := ⟨gb171, 1, none⟩) (Kd.R_far (p := ⟨gb171, 0, none⟩) (Kd.R_mono HO_3.out (fun k_ hk => (⟨hk, hk.2⟩ : _ ∧ k_ ≠ gb171))) (fun _ hk => hk.2) (.int .i64 ((rd_T45 t164 x32_1).f0))) (fun _ hk => hk.2) (.string ((rd_T45 t164 x32_1).f1))) (fun _ hk => hk.2) (.int .i64 ((rd_T45 t164 x32_1).f2))) (fun _ h_ => h_.1))) hb); have n1_ := Aside0.mk (Kd.R_below (by (with_reducible repeat (first | apply Kd.R_alloc | apply Kd.R_drewN | apply Kd.R_drew)); exact (Kd.R_mono (Kd.R_far (p := ⟨gb171, 2, none⟩) (Kd.R_far (p := ⟨gb171, 1, none⟩) (Kd.R_far (p := ⟨gb171, 0, none⟩) (Kd.R_mono HO_30.out (fun k_ hk => (⟨hk, hk.2⟩ : _ ∧ k_ ≠ gb171))) (fun _ hk => hk.2) (.int .i64 ((rd_T45 t164 x32_1).f0))) (fun _ hk => hk.2) (.string ((rd_T45 t164 x32_1).f1))) (fun _ hk => hk.2) (.int .i64 ((rd_T45 t164 x32_1).f2))) (fun _ h_ => h_.1))) hb); have n2_ := Aside0.mk (blk_below (g := gb171) (o := .cells #[.int .i64 ((rd_T45 t164 x32_1).f0), .string ((rd_T45 t164 x32_1).f1), .int .i64 ((rd_T45 t164 x32_1).f2)] 45 (0, 0)) (by (with_reducible repeat (first | refine blk_drewN ?_ _ | refine blk_drew ?_ | refine blk_alloc ?_ _)); refine blk_put (cs := #[.int .i64 ((rd_T45 t164 x32_1).f0), .string ((rd_T45 t164 x32_1).f1), .int .i64 0]) ?_ 2 _ rfl; (with_reducible repeat (first | refine blk_drewN ?_ _ | refine blk_drew ?_ | refine blk_alloc ?_ _)); refine blk_put (cs := #[.int .i64 ((rd_T45 t164 x32_1).f0), .string (⟨#[]⟩ : ByteArray), .int .i64 0]) ?_ 1 _ rfl; (with_reducible repeat (first | refine blk_drewN ?_ _ | refine blk_drew ?_ | refine blk_alloc ?_ _)); refine blk_put (cs := #[.int .i64 0, .string (⟨#[]⟩ : ByteArray), .int .i64 0]) ?_ 0 _ rfl; (with_reducible repeat (first | refine blk_drewN ?_ _ | refine blk_drew ?_ | refine blk_alloc ?_ _)); exact BK171.out) hb); have n3_ := Aside0.mk (below_step (by repeat (first | (with_reducible first | exact HB.out | apply below_alloc | apply pw_below_drewN | apply below_drew1 | refine below_set ?_ GE171.out) | exact HB.out)) hb); clear HO_3; clear HO_30; clear BK171; clear HB; have HO_3 := n0_; have HO_30 := n1_; have BK171 := n2_; have HB := n3_; clear n0_ n1_ n2_ n3_; (try clear hb); (try clear hb2); (try clear hk); (try clear hi)))
                          repeat (go_quiet (first | (go_at_call 25; (with_reducible refine (wickerlaw05_show.calls ((rd_T45 t164 x32_1).f0) ((rd_T45 t164 x32_1).f1) ((rd_T45 t164 x32_1).f2) t176 _ A53.out).mono ?_); rintro e w58 ⟨rfl, hb⟩; have n0_ := Aside0.mk (Kd.R_below (by (with_reducible repeat (first | apply Kd.R_alloc | apply Kd.R_drewN | apply Kd.R_drew)); exact (Kd.R_mono (Kd.R_far (p := ⟨gb171, 2, none⟩) (Kd.R_far (p := ⟨gb171, 1, none⟩) (Kd.R_far (p := ⟨gb171, 0, none⟩) (Kd.R_mono HO_3.out (fun k_ hk => (⟨hk, hk.2⟩ : _ ∧ k_ ≠ gb171))) (fun _ hk => hk.2) (.int .i64 ((rd_T45 t164 x32_1).f0))) (fun _ hk => hk.2) (.string ((rd_T45 t164 x32_1).f1))) (fun _ hk => hk.2) (.int .i64 ((rd_T45 t164 x32_1).f2))) (fun _ h_ => h_.1))) hb); have n1_ := Aside0.mk (Kd.R_below (by (with_reducible repeat (first | apply Kd.R_alloc | apply Kd.R_drewN | apply Kd.R_drew)); exact (Kd.R_mono (Kd.R_far (p := ⟨gb171, 2, none⟩) (Kd.R_far (p := ⟨gb171, 1, none⟩) (Kd.R_far (p := ⟨gb171, 0, none⟩) (Kd.R_mono HO_30.out (fun k_ hk => (⟨hk, hk.2⟩ : _ ∧ k_ ≠ gb171))) (fun _ hk => hk.2) (.int .i64 ((rd_T45 t164 x32_1).f0))) (fun _ hk => hk.2) (.string ((rd_T45 t164 x32_1).f1))) (fun _ hk => hk.2) (.int .i64 ((rd_T45 t164 x32_1).f2))) (fun _ h_ => h_.1))) hb); have n2_ := Aside0.mk (blk_below (g := gb171) (o := .cells #[.int .i64 ((rd_T45 t164 x32_1).f0), .string ((rd_T45 t164 x32_1).f1), .int .i64 ((rd_T45 t164 x32_1).f2)] 45 (0, 0)) (by (with_reducible repeat (first | refine blk_drewN ?_ _ | refine blk_drew ?_ | refine blk_alloc ?_ _)); refine blk_put (cs := #[.int .i64 ((rd_T45 t164 x32_1).f0), .string ((rd_T45 t164 x32_1).f1), .int .i64 0]) ?_ 2 _ rfl; (with_reducible repeat (first | refine blk_drewN ?_ _ | refine blk_drew ?_ | refine blk_alloc ?_ _)); refine blk_put (cs := #[.int .i64 ((rd_T45 t164 x32_1).f0), .string (⟨#[]⟩ : ByteArray), .int .i64 0]) ?_ 1 _ rfl; (with_reducible repeat (first | refine blk_drewN ?_ _ | refine blk_drew ?_ | refine blk_alloc ?_ _)); refine blk_put (cs := #[.int .i64 0, .string (⟨#[]⟩ : ByteArray), .int .i64 0]) ?_ 0 _ rfl; (with_reducible repeat (first | refine blk_drewN ?_ _ | refine blk_drew ?_ | refine blk_alloc ?_ _)); exact BK171.out) hb); have n3_ := Aside0.mk (below_step (by repeat (first | (with_reducible first | exact HB.out | apply below_alloc | apply pw_below_drewN | apply below_drew1 | refine below_set ?_ GE171.out) | exact HB.out)) hb); clear HO_3; clear HO_30; clear BK171; clear HB; have HO_3 := n0_; have HO_30 := n1_; have BK171 := n2_; have HB := n3_; clear n0_ n1_ n2_ n3_; (try clear hb); (try clear hb2); (try clear hk); (try clear hi))); try go_wp2_with (first | (go_at_call 25; (with_reducible refine (wickerlaw05_show.calls ((rd_T45 t164 x32_1).f0) ((rd_T45 t164 x32_1).f1) ((rd_T45 t164 x32_1).f2) t176 _ A53.out).mono ?_); rintro e w58 ⟨rfl, hb⟩; have n0_ := Aside0.mk (Kd.R_below (by (with_reducible repeat (first | apply Kd.R_alloc | apply Kd.R_drewN | apply Kd.R_drew)); exact (Kd.R_mono (Kd.R_far (p := ⟨gb171, 2, none⟩) (Kd.R_far (p := ⟨gb171, 1, none⟩) (Kd.R_far (p := ⟨gb171, 0, none⟩) (Kd.R_mono HO_3.out (fun k_ hk => (⟨hk, hk.2⟩ : _ ∧ k_ ≠ gb171))) (fun _ hk => hk.2) (.int .i64 ((rd_T45 t164 x32_1).f0))) (fun _ hk => hk.2) (.string ((rd_T45 t164 x32_1).f1))) (fun _ hk => hk.2) (.int .i64 ((rd_T45 t164 x32_1).f2))) (fun _ h_ => h_.1))) hb); have n1_ := Aside0.mk (Kd.R_below (by (with_reducible repeat (first | apply Kd.R_alloc | apply Kd.R_drewN | apply Kd.R_drew)); exact (Kd.R_mono (Kd.R_far (p := ⟨gb171, 2, none⟩) (Kd.R_far (p := ⟨gb171, 1, none⟩) (Kd.R_far (p := ⟨gb171, 0, none⟩) (Kd.R_mono HO_30.out (fun k_ hk => (⟨hk, hk.2⟩ : _ ∧ k_ ≠ gb171))) (fun _ hk => hk.2) (.int .i64 ((rd_T45 t164 x32_1).f0))) (fun _ hk => hk.2) (.string ((rd_T45 t164 x32_1).f1))) (fun _ hk => hk.2) (.int .i64 ((rd_T45 t164 x32_1).f2))) (fun _ h_ => h_.1))) hb); have n2_ := Aside0.mk (blk_below (g := gb171) (o := .cells #[.int .i64 ((rd_T45 t164 x32_1).f0), .string ((rd_T45 t164 x32_1).f1), .int .i64 ((rd_T45 t164 x32_1).f2)] 45 (0, 0)) (by (with_reducible repeat (first | refine blk_drewN ?_ _ | refine blk_drew ?_ | refine blk_alloc ?_ _)); refine blk_put (cs := #[.int .i64 ((rd_T45 t164 x32_1).f0), .string ((rd_T45 t164 x32_1).f1), .int .i64 0]) ?_ 2 _ rfl; (with_reducible repeat (first | refine blk_drewN ?_ _ | refine blk_drew ?_ | refine blk_alloc ?_ _)); refine blk_put (cs := #[.int .i64 ((rd_T45 t164 x32_1).f0), .string (⟨#[]⟩ : ByteArray), .int .i64 0]) ?_ 1 _ rfl; (with_reducible repeat (first | refine blk_drewN ?_ _ | refine blk_drew ?_ | refine blk_alloc ?_ _)); refine blk_put (cs := #[.int .i64 0, .string (⟨#[]⟩ : ByteArray), .int .i64 0]) ?_ 0 _ rfl; (with_reducible repeat (first | refine blk_drewN ?_ _ | refine blk_drew ?_ | refine blk_alloc ?_ _)); exact BK171.out) hb); have n3_ := Aside0.mk (below_step (by repeat (first | (with_reducible first | exact HB.out | apply below_alloc | apply pw_below_drewN | apply below_drew1 | refine below_set ?_ GE171.out) | exact HB.out)) hb); clear HO_3; clear HO_30; clear BK171; clear HB; have HO_3 := n0_; have HO_30 := n1_; have BK171 := n2_; have HB := n3_; clear n0_ n1_ n2_ n3_; (try clear hb); (try clear hb2); (try clear hk); (try clear hi))))
                          go_roundg k1
                          case measure => have := HK1.out; omega
                          case rel => exact ⟨(x6_1 ++ (t176 ++ (⟨#[32]⟩ : ByteArray))), (wrap64 (x32_1 + 1)), (by first | rfl | (simp; done) | (simp [*]; done)), (by first | rfl | (simp; done) | (simp [*]; done)), H', ⟨by have := HK1.out; omega⟩, ⟨by (with_reducible repeat (first | apply Kd.R_alloc | apply Kd.R_drewN | apply Kd.R_drew)); exact Kd.R_mono HO_3.out (fun _ hk => trivial)⟩, ⟨by (with_reducible repeat (first | apply Kd.R_alloc | apply Kd.R_drewN | apply Kd.R_drew)); exact Kd.R_mono HO_30.out (fun _ hk => trivial)⟩, ⟨by repeat (first | (with_reducible first | exact HB.out | apply below_alloc | apply pw_below_drewN | apply below_drew1 | refine below_set ?_ GE171.out) | exact HB.out)⟩⟩
                        · rw [if_neg c55] at H
                          exact absurd H (by simp)
                      · rw [if_neg c54] at H
                        exact absurd H (by simp)
              · rw [if_neg c11] at H
                exact absurd H (by simp)
            · rw [if_neg c10] at H
              exact absurd H (by simp)
          · rw [if_neg c9] at H
            have c9b0 : decide (x32_1 < (t164.length : Int)) = false := decide_eq_false c9
            clear c9
            replace H := Option.bind_eq_some_iff.mp H
            obtain ⟨⟨t177, t178, t179⟩, A590, H⟩ := H
            replace H : (if t179 = 0 then (wickerlaw05_LexAgain.j1 k1 t164 t177 ((t177.length : Int) != (t164.length : Int))) else (wickerlaw05_LexAgain.j1 k1 t164 t177 true)) = some r := H
            have A59 := Aside0.mk A590
            clear A590
            have HC60 := Aside0.mk H
            clear H
            go_upto_region 15 with (first | (go_at_call 22; (with_reducible refine (lex_Lex.calls k1 x6_1 t177 t178 t179 _ A59.out).mono ?_); rintro e w61 ⟨v180, rfl, ho0, hb⟩; have n0_ := Aside0.mk (Kd.R_elder' (by (with_reducible repeat (first | apply Kd.R_alloc | apply Kd.R_drewN | apply Kd.R_drew)); exact HO_3.out) (Kd.R_base ho0) hb); have n1_ := Aside0.mk (Kd.R_elder' (by (with_reducible repeat (first | apply Kd.R_alloc | apply Kd.R_drewN | apply Kd.R_drew)); exact HO_30.out) (Kd.R_base ho0) hb); have n2_ := Aside0.mk (Kd.R_lower (Kd.R_new' (Kd.R_new' ho0 (Kd.R_lt (by (with_reducible repeat (first | apply Kd.R_alloc | apply Kd.R_drewN | apply Kd.R_drew)); exact HO_3.out))) (Kd.R_lt (by (with_reducible repeat (first | apply Kd.R_alloc | apply Kd.R_drewN | apply Kd.R_drew)); exact HO_30.out))) (below_size (by repeat (first | (with_reducible first | exact HB.out | apply below_alloc | apply pw_below_drewN | apply below_drew1) | exact HB.out)))); have n3_ := Aside0.mk (below_step (by repeat (first | (with_reducible first | exact HB.out | apply below_alloc | apply pw_below_drewN | apply below_drew1) | exact HB.out)) hb); clear HO_3; clear HO_30; clear HB; have HO_3 := n0_; have HO_30 := n1_; have HO181 := n2_; have HB := n3_; clear n0_ n1_ n2_ n3_; (try clear hb); (try clear hb2); (try clear hk); (try clear hi); (try clear ho0)))
            repeat (go_quiet (first | (go_at_call 22; (with_reducible refine (lex_Lex.calls k1 x6_1 t177 t178 t179 _ A59.out).mono ?_); rintro e w61 ⟨v180, rfl, ho0, hb⟩; have n0_ := Aside0.mk (Kd.R_elder' (by (with_reducible repeat (first | apply Kd.R_alloc | apply Kd.R_drewN | apply Kd.R_drew)); exact HO_3.out) (Kd.R_base ho0) hb); have n1_ := Aside0.mk (Kd.R_elder' (by (with_reducible repeat (first | apply Kd.R_alloc | apply Kd.R_drewN | apply Kd.R_drew)); exact HO_30.out) (Kd.R_base ho0) hb); have n2_ := Aside0.mk (Kd.R_lower (Kd.R_new' (Kd.R_new' ho0 (Kd.R_lt (by (with_reducible repeat (first | apply Kd.R_alloc | apply Kd.R_drewN | apply Kd.R_drew)); exact HO_3.out))) (Kd.R_lt (by (with_reducible repeat (first | apply Kd.R_alloc | apply Kd.R_drewN | apply Kd.R_drew)); exact HO_30.out))) (below_size (by repeat (first | (with_reducible first | exact HB.out | apply below_alloc | apply pw_below_drewN | apply below_drew1) | exact HB.out)))); have n3_ := Aside0.mk (below_step (by repeat (first | (with_reducible first | exact HB.out | apply below_alloc | apply pw_below_drewN | apply below_drew1) | exact HB.out)) hb); clear HO_3; clear HO_30; clear HB; have HO_3 := n0_; have HO_30 := n1_; have HO181 := n2_; have HB := n3_; clear n0_ n1_ n2_ n3_; (try clear hb); (try clear hb2); (try clear hk); (try clear hi); (try clear ho0))); go_upto_region 15 with (first | (go_at_call 22; (with_reducible refine (lex_Lex.calls k1 x6_1 t177 t178 t179 _ A59.out).mono ?_); rintro e w61 ⟨v180, rfl, ho0, hb⟩; have n0_ := Aside0.mk (Kd.R_elder' (by (with_reducible repeat (first | apply Kd.R_alloc | apply Kd.R_drewN | apply Kd.R_drew)); exact HO_3.out) (Kd.R_base ho0) hb); have n1_ := Aside0.mk (Kd.R_elder' (by (with_reducible repeat (first | apply Kd.R_alloc | apply Kd.R_drewN | apply Kd.R_drew)); exact HO_30.out) (Kd.R_base ho0) hb); have n2_ := Aside0.mk (Kd.R_lower (Kd.R_new' (Kd.R_new' ho0 (Kd.R_lt (by (with_reducible repeat (first | apply Kd.R_alloc | apply Kd.R_drewN | apply Kd.R_drew)); exact HO_3.out))) (Kd.R_lt (by (with_reducible repeat (first | apply Kd.R_alloc | apply Kd.R_drewN | apply Kd.R_drew)); exact HO_30.out))) (below_size (by repeat (first | (with_reducible first | exact HB.out | apply below_alloc | apply pw_below_drewN | apply below_drew1) | exact HB.out)))); have n3_ := Aside0.mk (below_step (by repeat (first | (with_reducible first | exact HB.out | apply below_alloc | apply pw_below_drewN | apply below_drew1) | exact HB.out)) hb); clear HO_3; clear HO_30; clear HB; have HO_3 := n0_; have HO_30 := n1_; have HO181 := n2_; have HB := n3_; clear n0_ n1_ n2_ n3_; (try clear hb); (try clear hb2); (try clear hk); (try clear hi); (try clear ho0))))
            (try simp only [Act.put, List.setIfInBounds_toArray, List.set_cons_zero, List.set_cons_succ])
            go_cut [98] (fun v98 wc => ∃ (kq : Nat) (x98_59 : Bool), v98 = .bool x98_59 ∧ Aside0 (wickerlaw05_LexAgain.j1 kq t164 t177 x98_59 = some r) ∧ Aside0 (kq ≤ k1) ∧ Aside0 (Kd.R k45 45 wc w.heap.size (fun k_ => some k_ ≠ (v180 : Value).ownBlock) (.slice Ao8 t164.length co8) t164) ∧ Aside0 (Kd.R k45 45 wc w.heap.size (fun k_ => some k_ ≠ ((.slice Ao8 t164.length co8) : Value).ownBlock) v180 t177) ∧ Aside0 (Below w.heap.size w wc))
            case first =>
              have H := HC60.out
              clear HC60
              by_cases c62 : t179 = 0
              · rw [if_pos c62] at H
                have c62b0 : (t179 == 0) = true := beq_iff_eq.mpr c62
                have c62b1 : (t179 != 0) = false := bne_eq_false_iff_eq.mpr c62
                clear c62
                (first | rw [c62b0] | (simp only [i64_w, i32_w]; rw [c62b0]) | skip)
                have H' := Aside0.mk H
                clear H
                obtain ⟨Ao63, co63, eo63⟩ := Kd.R_slice HO181.out
                subst eo63
                go_wp2
                repeat (go_quiet (fail); try go_wp2)
                go_meet
                case rel => exact ⟨_, (((t177.length : Int) != (t164.length : Int))), (by first | rfl | (simp; done) | (simp [*]; done)), H', ⟨by have := HK1.out; first | omega | exact Nat.le_refl _⟩, ⟨by (with_reducible repeat (first | apply Kd.R_alloc | apply Kd.R_drewN | apply Kd.R_drew)); exact Kd.R_mono HO_3.out (fun _ hk => hk.2)⟩, ⟨by (with_reducible repeat (first | apply Kd.R_alloc | apply Kd.R_drewN | apply Kd.R_drew)); exact Kd.R_mono HO181.out (fun _ hk => hk.1.2)⟩, ⟨by repeat (first | (with_reducible first | exact HB.out | apply below_alloc | apply pw_below_drewN | apply below_drew1) | exact HB.out)⟩⟩
              · rw [if_neg c62] at H
                have c62b0 : (t179 == 0) = false := beq_eq_false_iff_ne.mpr c62
                have c62b1 : (t179 != 0) = true := bne_iff_ne.mpr c62
                (first | rw [c62b0] | (simp only [i64_w, i32_w]; rw [c62b0]) | skip)
                have H' := Aside0.mk H
                clear H
                go_wp2
                repeat (go_quiet (fail); try go_wp2)
                go_meet
                case rel => exact ⟨_, (true), (by first | rfl | (simp; done) | (simp [*]; done)), H', ⟨by have := HK1.out; first | omega | exact Nat.le_refl _⟩, ⟨by (with_reducible repeat (first | apply Kd.R_alloc | apply Kd.R_drewN | apply Kd.R_drew)); exact Kd.R_mono HO_3.out (fun _ hk => hk.2)⟩, ⟨by (with_reducible repeat (first | apply Kd.R_alloc | apply Kd.R_drewN | apply Kd.R_drew)); exact Kd.R_mono HO181.out (fun _ hk => hk.1.2)⟩, ⟨by repeat (first | (with_reducible first | exact HB.out | apply below_alloc | apply pw_below_drewN | apply below_drew1) | exact HB.out)⟩⟩
            case rest =>
              clear HC60
              try clear c1
              try clear p1
              try clear q1
              try clear hx1
              try clear c2
              try clear c2b0
              try clear c2b1
              try clear p2
              try clear c3
              try clear c4
              try clear c5
              try clear c6
              try clear c6b0
              try clear c6b1
              try clear p6
              try clear c8
              try clear c9
              try clear c9b0
              try clear c10
              try clear c10b0
              try clear c11
              try clear c11b0
              try clear c12
              try clear c12b0
              try clear c14
              try clear c14b0
              try clear c15
              try clear c15b0
              try clear c16
              try clear c16b0
              try clear c17
              try clear c17b0
              try clear c17b1
              try clear p17
              try clear q17
              try clear hx17
              try clear c18
              try clear c18b0
              try clear c21
              try clear c21b0
              try clear c24
              try clear c24b0
              try clear c28
              try clear c28b0
              try clear c28b1
              try clear c28b2
              try clear c29
              try clear c29b0
              try clear c29b1
              try clear c29b2
              try clear c35
              try clear c35b0
              try clear c38
              try clear c38b0
              try clear c42
              try clear c42b0
              try clear c42b1
              try clear c42b2
              try clear c43
              try clear c43b0
              try clear c43b1
              try clear c43b2
              try clear c47
              try clear c47b0
              try clear c50
              try clear c50b0
              try clear c54
              try clear c54b0
              try clear c54b1
              try clear c54b2
              try clear c55
              try clear c55b0
              try clear c55b1
              try clear c55b2
              try clear c62
              try clear c62b0
              try clear c62b1
              try clear hcz20_0
              try clear hcz20_1
              try clear hcz20_2
              try clear hcz23_0
              try clear hcz23_1
              try clear hcz23_2
              try clear hcz26_0
              try clear hcz26_1
              try clear hcz26_2
              try clear hcz31_0
              try clear hcz31_1
              try clear hcz31_2
              try clear hcz34_0
              try clear hcz34_1
              try clear hcz34_2
              try clear hcz37_0
              try clear hcz37_1
              try clear hcz37_2
              try clear hcz40_0
              try clear hcz40_1
              try clear hcz40_2
              try clear hcz45_0
              try clear hcz45_1
              try clear hcz45_2
              try clear hcz49_0
              try clear hcz49_1
              try clear hcz49_2
              try clear hcz52_0
              try clear hcz52_1
              try clear hcz52_2
              try clear hcz57_0
              try clear hcz57_1
              try clear hcz57_2
              try clear hfz20_0
              try clear hfz20_1
              try clear hfz20_2
              try clear hfz23_0
              try clear hfz23_1
              try clear hfz23_2
              try clear hfz26_0
              try clear hfz26_1
              try clear hfz26_2
              try clear hfz31_0
              try clear hfz31_1
              try clear hfz31_2
              try clear hfz34_0
              try clear hfz34_1
              try clear hfz34_2
              try clear hfz37_0
              try clear hfz37_1
              try clear hfz37_2
              try clear hfz40_0
              try clear hfz40_1
              try clear hfz40_2
              try clear hfz45_0
              try clear hfz45_1
              try clear hfz45_2
              try clear hfz49_0
              try clear hfz49_1
              try clear hfz49_2
              try clear hfz52_0
              try clear hfz52_1
              try clear hfz52_2
              try clear hfz57_0
              try clear hfz57_1
              try clear hfz57_2
              try clear hx170_0
              try clear hx170_1
              try clear hx170_2
              try clear hx172_0
              try clear hx172_1
              try clear hx172_2
              try clear hx173_0
              try clear hx173_1
              try clear hx173_2
              try clear p170
              try clear p172
              try clear p173
              try clear p2
              try clear q170
              try clear q172
              try clear q173
              obtain ⟨kq, x98_59, rfl, HA, HJ59, HO_3, HO_9, HB⟩ := hcut
              cases kq with
              | zero => exact absurd HA.out (by simp [wickerlaw05_LexAgain.j1])
              | succ kj59 =>
                have H := HA.out
                clear HA
                simp only [wickerlaw05_LexAgain.j1] at H
                by_cases c64 : x98_59 = true
                · subst c64
                  have H1 : (some false) = some r := by rw [if_pos rfl] at H; exact H
                  clear H
                  have H := H1
                  clear H1
                  obtain rfl := Option.some.inj H
                  go_wp2
                  repeat (go_quiet (fail); try go_wp2)
                  go_ret
                  exact ⟨by first | rfl | (simp [errW_none, errW_some] <;> rfl) | (simp [*, errW_none, errW_some] <;> rfl), by repeat (first | (with_reducible first | exact HB.out | apply below_alloc | apply pw_below_drewN | apply below_drew1) | exact HB.out)⟩
                · replace c64 := Bool.eq_false_iff.mpr c64
                  subst c64
                  have H1 : (wickerlaw05_LexAgain.l1 kj59 t164 t177 (t164.length : Int) 0) = some r := by rw [if_neg (show ¬ (false = true) by decide)] at H; exact H
                  clear H
                  have H := H1
                  clear H1
                  have H' := Aside0.mk H
                  clear H
                  go_wp2
                  repeat (go_quiet (fail); try go_wp2)
                  go_loopg [101] kj59 (fun kq v101 w' => ∃ (x101_3 : Int), v101 = .int .i64 x101_3 ∧ Aside0 (wickerlaw05_LexAgain.l1 kq t164 t177 (t164.length : Int) x101_3 = some r) ∧ Aside0 (kq ≤ kj59) ∧ Aside0 (Kd.R k45 45 w' w.heap.size (fun k_ => some k_ ≠ (v180 : Value).ownBlock) (.slice Ao8 t164.length co8) t164) ∧ Aside0 (Kd.R k45 45 w' w.heap.size (fun k_ => some k_ ≠ ((.slice Ao8 t164.length co8) : Value).ownBlock) v180 t177) ∧ Aside0 (Below w.heap.size w w'))
                  case atStart => exact ⟨(0), (by first | rfl | (simp; done) | (simp [*]; done)), H', ⟨Nat.le_refl _⟩, ⟨by (with_reducible repeat (first | apply Kd.R_alloc | apply Kd.R_drewN | apply Kd.R_drew)); exact HO_3.out⟩, ⟨by (with_reducible repeat (first | apply Kd.R_alloc | apply Kd.R_drewN | apply Kd.R_drew)); exact HO_9.out⟩, ⟨by repeat (first | (with_reducible first | exact HB.out | apply below_alloc | apply pw_below_drewN | apply below_drew1) | exact HB.out)⟩⟩
                  case round =>
                    clear H'
                    try clear c1
                    try clear p1
                    try clear q1
                    try clear hx1
                    try clear c2
                    try clear c2b0
                    try clear c2b1
                    try clear p2
                    try clear c3
                    try clear c4
                    try clear c5
                    try clear c6
                    try clear c6b0
                    try clear c6b1
                    try clear p6
                    try clear c8
                    try clear c9
                    try clear c9b0
                    try clear c10
                    try clear c10b0
                    try clear c11
                    try clear c11b0
                    try clear c12
                    try clear c12b0
                    try clear c14
                    try clear c14b0
                    try clear c15
                    try clear c15b0
                    try clear c16
                    try clear c16b0
                    try clear c17
                    try clear c17b0
                    try clear c17b1
                    try clear p17
                    try clear q17
                    try clear hx17
                    try clear c18
                    try clear c18b0
                    try clear c21
                    try clear c21b0
                    try clear c24
                    try clear c24b0
                    try clear c28
                    try clear c28b0
                    try clear c28b1
                    try clear c28b2
                    try clear c29
                    try clear c29b0
                    try clear c29b1
                    try clear c29b2
                    try clear c35
                    try clear c35b0
                    try clear c38
                    try clear c38b0
                    try clear c42
                    try clear c42b0
                    try clear c42b1
                    try clear c42b2
                    try clear c43
                    try clear c43b0
                    try clear c43b1
                    try clear c43b2
                    try clear c47
                    try clear c47b0
                    try clear c50
                    try clear c50b0
                    try clear c54
                    try clear c54b0
                    try clear c54b1
                    try clear c54b2
                    try clear c55
                    try clear c55b0
                    try clear c55b1
                    try clear c55b2
                    try clear c62
                    try clear c62b0
                    try clear c62b1
                    try clear c64
                    try clear p64
                    try clear hcz20_0
                    try clear hcz20_1
                    try clear hcz20_2
                    try clear hcz23_0
                    try clear hcz23_1
                    try clear hcz23_2
                    try clear hcz26_0
                    try clear hcz26_1
                    try clear hcz26_2
                    try clear hcz31_0
                    try clear hcz31_1
                    try clear hcz31_2
                    try clear hcz34_0
                    try clear hcz34_1
                    try clear hcz34_2
                    try clear hcz37_0
                    try clear hcz37_1
                    try clear hcz37_2
                    try clear hcz40_0
                    try clear hcz40_1
                    try clear hcz40_2
                    try clear hcz45_0
                    try clear hcz45_1
                    try clear hcz45_2
                    try clear hcz49_0
                    try clear hcz49_1
                    try clear hcz49_2
                    try clear hcz52_0
                    try clear hcz52_1
                    try clear hcz52_2
                    try clear hcz57_0
                    try clear hcz57_1
                    try clear hcz57_2
                    try clear hfz20_0
                    try clear hfz20_1
                    try clear hfz20_2
                    try clear hfz23_0
                    try clear hfz23_1
                    try clear hfz23_2
                    try clear hfz26_0
                    try clear hfz26_1
                    try clear hfz26_2
                    try clear hfz31_0
                    try clear hfz31_1
                    try clear hfz31_2
                    try clear hfz34_0
                    try clear hfz34_1
                    try clear hfz34_2
                    try clear hfz37_0
                    try clear hfz37_1
                    try clear hfz37_2
                    try clear hfz40_0
                    try clear hfz40_1
                    try clear hfz40_2
                    try clear hfz45_0
                    try clear hfz45_1
                    try clear hfz45_2
                    try clear hfz49_0
                    try clear hfz49_1
                    try clear hfz49_2
                    try clear hfz52_0
                    try clear hfz52_1
                    try clear hfz52_2
                    try clear hfz57_0
                    try clear hfz57_1
                    try clear hfz57_2
                    try clear hx170_0
                    try clear hx170_1
                    try clear hx170_2
                    try clear hx172_0
                    try clear hx172_1
                    try clear hx172_2
                    try clear hx173_0
                    try clear hx173_1
                    try clear hx173_2
                    try clear p1
                    try clear p17
                    try clear p170
                    try clear p172
                    try clear p173
                    try clear p2
                    try clear p6
                    try clear q1
                    try clear q17
                    try clear q170
                    try clear q172
                    try clear q173
                    obtain ⟨x101_3, rfl, HA, HK3, HO_3, HO_9, HB⟩ := hrel
                    cases gk with
                    | zero => exact absurd HA.out (by simp [wickerlaw05_LexAgain.l1])
                    | succ k3 =>
                      have H := HA.out
                      clear HA
                      simp only [wickerlaw05_LexAgain.l1] at H
                      by_cases c65 : x101_3 < (t164.length : Int)
                      · rw [if_pos c65] at H
                        have c65b0 : decide (x101_3 < (t164.length : Int)) = true := decide_eq_true c65
                        clear c65
                        by_cases c66 : 0 ≤ x101_3
                        · rw [if_pos c66] at H
                          have c66b0 : decide (0 ≤ x101_3) = true := decide_eq_true c66
                          clear c66
                          by_cases c67 : x101_3 < (t164.length : Int)
                          · rw [if_pos c67] at H
                            have c67b0 : decide (x101_3 < (t164.length : Int)) = true := decide_eq_true c67
                            clear c67
                            by_cases c68 : x101_3 < (t177.length : Int)
                            · rw [if_pos c68] at H
                              have c68b0 : decide (x101_3 < (t177.length : Int)) = true := decide_eq_true c68
                              clear c68
                              by_cases c69 : ((rd_T45 t164 x101_3).f0) = ((rd_T45 t177 x101_3).f0)
                              · rw [if_pos c69] at H
                                have c69b0 : (((rd_T45 t164 x101_3).f0) == ((rd_T45 t177 x101_3).f0)) = true := beq_iff_eq.mpr c69
                                have c69b1 : (((rd_T45 t164 x101_3).f0) != ((rd_T45 t177 x101_3).f0)) = false := bne_eq_false_iff_eq.mpr c69
                                clear c69
                                by_cases c70 : ((rd_T45 t164 x101_3).f1).toList = ((rd_T45 t177 x101_3).f1).toList
                                · rw [if_pos c70] at H
                                  have c70b0 : (((rd_T45 t164 x101_3).f1).toList == ((rd_T45 t177 x101_3).f1).toList) = true := beq_iff_eq.mpr c70
                                  have c70b1 : (((rd_T45 t164 x101_3).f1).toList != ((rd_T45 t177 x101_3).f1).toList) = false := bne_eq_false_iff_eq.mpr c70
                                  clear c70
                                  have H' := Aside0.mk H
                                  clear H
                                  have p182 : 0 ≤ (x101_3 : Int) := of_decide_eq_true (by first | (with_reducible assumption) | assumption)
                                  have q182 : x101_3 < (t164.length : Int) := of_decide_eq_true (by first | (with_reducible assumption) | assumption)
                                  obtain ⟨ad182, e182, hx182_0, hx182_1, hx182_2⟩ := at_T45 (Kd.R_reads' HO_3.out).2.2 x101_3 p182 q182
                                  cases e182
                                  replace p182 := eq_true p182
                                  replace q182 := eq_true q182
                                  obtain ⟨Ao71, co71, eo71⟩ := Kd.R_slice HO_9.out
                                  subst eo71
                                  have p183 : 0 ≤ (x101_3 : Int) := of_decide_eq_true (by first | (with_reducible assumption) | assumption)
                                  have q183 : x101_3 < (t177.length : Int) := of_decide_eq_true (by first | (with_reducible assumption) | assumption)
                                  obtain ⟨ad183, e183, hx183_0, hx183_1, hx183_2⟩ := at_T45 (Kd.R_reads' HO_9.out).2.2 x101_3 p183 q183
                                  cases e183
                                  replace p183 := eq_true p183
                                  replace q183 := eq_true q183
                                  have p184 : 0 ≤ (x101_3 : Int) := of_decide_eq_true (by first | (with_reducible assumption) | assumption)
                                  have q184 : x101_3 < (t164.length : Int) := of_decide_eq_true (by first | (with_reducible assumption) | assumption)
                                  obtain ⟨ad184, e184, hx184_0, hx184_1, hx184_2⟩ := at_T45 (Kd.R_reads' HO_3.out).2.2 x101_3 p184 q184
                                  obtain rfl : ad182 = ad184 := (by injection e184)
                                  replace p184 := eq_true p184
                                  replace q184 := eq_true q184
                                  have p185 : 0 ≤ (x101_3 : Int) := of_decide_eq_true (by first | (with_reducible assumption) | assumption)
                                  have q185 : x101_3 < (t177.length : Int) := of_decide_eq_true (by first | (with_reducible assumption) | assumption)
                                  obtain ⟨ad185, e185, hx185_0, hx185_1, hx185_2⟩ := at_T45 (Kd.R_reads' HO_9.out).2.2 x101_3 p185 q185
                                  obtain rfl : ad183 = ad185 := (by injection e185)
                                  replace p185 := eq_true p185
                                  replace q185 := eq_true q185
                                  go_wp2
                                  repeat (go_quiet (fail); try go_wp2)
                                  go_roundg k3
                                  case measure => have := HK1.out; have := HJ59.out; have := HK3.out; omega
                                  case rel => exact ⟨(wrap64 (x101_3 + 1)), (by first | rfl | (simp; done) | (simp [*]; done)), H', ⟨by have := HK1.out; have := HJ59.out; have := HK3.out; omega⟩, ⟨by (with_reducible repeat (first | apply Kd.R_alloc | apply Kd.R_drewN | apply Kd.R_drew)); exact HO_3.out⟩, ⟨by (with_reducible repeat (first | apply Kd.R_alloc | apply Kd.R_drewN | apply Kd.R_drew)); exact HO_9.out⟩, ⟨by repeat (first | (with_reducible first | exact HB.out | apply below_alloc | apply pw_below_drewN | apply below_drew1) | exact HB.out)⟩⟩
                                · rw [if_neg c70] at H
                                  have c70b0 : (((rd_T45 t164 x101_3).f1).toList == ((rd_T45 t177 x101_3).f1).toList) = false := beq_eq_false_iff_ne.mpr c70
                                  have c70b1 : (((rd_T45 t164 x101_3).f1).toList != ((rd_T45 t177 x101_3).f1).toList) = true := bne_iff_ne.mpr c70
                                  obtain rfl := Option.some.inj H
                                  have p182 : 0 ≤ (x101_3 : Int) := of_decide_eq_true (by first | (with_reducible assumption) | assumption)
                                  have q182 : x101_3 < (t164.length : Int) := of_decide_eq_true (by first | (with_reducible assumption) | assumption)
                                  obtain ⟨ad182, e182, hx182_0, hx182_1, hx182_2⟩ := at_T45 (Kd.R_reads' HO_3.out).2.2 x101_3 p182 q182
                                  cases e182
                                  replace p182 := eq_true p182
                                  replace q182 := eq_true q182
                                  obtain ⟨Ao72, co72, eo72⟩ := Kd.R_slice HO_9.out
                                  subst eo72
                                  have p183 : 0 ≤ (x101_3 : Int) := of_decide_eq_true (by first | (with_reducible assumption) | assumption)
                                  have q183 : x101_3 < (t177.length : Int) := of_decide_eq_true (by first | (with_reducible assumption) | assumption)
                                  obtain ⟨ad183, e183, hx183_0, hx183_1, hx183_2⟩ := at_T45 (Kd.R_reads' HO_9.out).2.2 x101_3 p183 q183
                                  cases e183
                                  replace p183 := eq_true p183
                                  replace q183 := eq_true q183
                                  have p184 : 0 ≤ (x101_3 : Int) := of_decide_eq_true (by first | (with_reducible assumption) | assumption)
                                  have q184 : x101_3 < (t164.length : Int) := of_decide_eq_true (by first | (with_reducible assumption) | assumption)
                                  obtain ⟨ad184, e184, hx184_0, hx184_1, hx184_2⟩ := at_T45 (Kd.R_reads' HO_3.out).2.2 x101_3 p184 q184
                                  obtain rfl : ad182 = ad184 := (by injection e184)
                                  replace p184 := eq_true p184
                                  replace q184 := eq_true q184
                                  have p185 : 0 ≤ (x101_3 : Int) := of_decide_eq_true (by first | (with_reducible assumption) | assumption)
                                  have q185 : x101_3 < (t177.length : Int) := of_decide_eq_true (by first | (with_reducible assumption) | assumption)
                                  obtain ⟨ad185, e185, hx185_0, hx185_1, hx185_2⟩ := at_T45 (Kd.R_reads' HO_9.out).2.2 x101_3 p185 q185
                                  obtain rfl : ad183 = ad185 := (by injection e185)
                                  replace p185 := eq_true p185
                                  replace q185 := eq_true q185
                                  go_wp2
                                  repeat (go_quiet (fail); try go_wp2)
                                  go_ret
                                  exact ⟨by first | rfl | (simp [errW_none, errW_some] <;> rfl) | (simp [*, errW_none, errW_some] <;> rfl), by repeat (first | (with_reducible first | exact HB.out | apply below_alloc | apply pw_below_drewN | apply below_drew1) | exact HB.out)⟩
                              · rw [if_neg c69] at H
                                have c69b0 : (((rd_T45 t164 x101_3).f0) == ((rd_T45 t177 x101_3).f0)) = false := beq_eq_false_iff_ne.mpr c69
                                have c69b1 : (((rd_T45 t164 x101_3).f0) != ((rd_T45 t177 x101_3).f0)) = true := bne_iff_ne.mpr c69
                                obtain rfl := Option.some.inj H
                                have p182 : 0 ≤ (x101_3 : Int) := of_decide_eq_true (by first | (with_reducible assumption) | assumption)
                                have q182 : x101_3 < (t164.length : Int) := of_decide_eq_true (by first | (with_reducible assumption) | assumption)
                                obtain ⟨ad182, e182, hx182_0, hx182_1, hx182_2⟩ := at_T45 (Kd.R_reads' HO_3.out).2.2 x101_3 p182 q182
                                cases e182
                                replace p182 := eq_true p182
                                replace q182 := eq_true q182
                                obtain ⟨Ao73, co73, eo73⟩ := Kd.R_slice HO_9.out
                                subst eo73
                                have p183 : 0 ≤ (x101_3 : Int) := of_decide_eq_true (by first | (with_reducible assumption) | assumption)
                                have q183 : x101_3 < (t177.length : Int) := of_decide_eq_true (by first | (with_reducible assumption) | assumption)
                                obtain ⟨ad183, e183, hx183_0, hx183_1, hx183_2⟩ := at_T45 (Kd.R_reads' HO_9.out).2.2 x101_3 p183 q183
                                cases e183
                                replace p183 := eq_true p183
                                replace q183 := eq_true q183
                                go_wp2
                                repeat (go_quiet (fail); try go_wp2)
                                go_ret
                                exact ⟨by first | rfl | (simp [errW_none, errW_some] <;> rfl) | (simp [*, errW_none, errW_some] <;> rfl), by repeat (first | (with_reducible first | exact HB.out | apply below_alloc | apply pw_below_drewN | apply below_drew1) | exact HB.out)⟩
                            · rw [if_neg c68] at H
                              exact absurd H (by simp)
                          · rw [if_neg c67] at H
                            exact absurd H (by simp)
                        · rw [if_neg c66] at H
                          exact absurd H (by simp)
                      · rw [if_neg c65] at H
                        have c65b0 : decide (x101_3 < (t164.length : Int)) = false := decide_eq_false c65
                        clear c65
                        replace H := Option.bind_eq_some_iff.mp H
                        obtain ⟨t186, A740, H⟩ := H
                        replace H : (some t186) = some r := H
                        have A74 := Aside0.mk A740
                        clear A740
                        obtain rfl := Option.some.inj H
                        go_wp2_with (first | (go_at_call 21; (with_reducible refine (wickerlaw05_Awake.calls k3  t186 _ A74.out).mono ?_); rintro e w75 ⟨rfl, hb⟩; have n0_ := Aside0.mk (Kd.R_below (by (with_reducible repeat (first | apply Kd.R_alloc | apply Kd.R_drewN | apply Kd.R_drew)); exact HO_3.out) hb); have n1_ := Aside0.mk (Kd.R_below (by (with_reducible repeat (first | apply Kd.R_alloc | apply Kd.R_drewN | apply Kd.R_drew)); exact HO_9.out) hb); have n2_ := Aside0.mk (below_step (by repeat (first | (with_reducible first | exact HB.out | apply below_alloc | apply pw_below_drewN | apply below_drew1) | exact HB.out)) hb); clear HO_3; clear HO_9; clear HB; have HO_3 := n0_; have HO_9 := n1_; have HB := n2_; clear n0_ n1_ n2_; (try clear hb); (try clear hb2); (try clear hk); (try clear hi)))
                        repeat (go_quiet (first | (go_at_call 21; (with_reducible refine (wickerlaw05_Awake.calls k3  t186 _ A74.out).mono ?_); rintro e w75 ⟨rfl, hb⟩; have n0_ := Aside0.mk (Kd.R_below (by (with_reducible repeat (first | apply Kd.R_alloc | apply Kd.R_drewN | apply Kd.R_drew)); exact HO_3.out) hb); have n1_ := Aside0.mk (Kd.R_below (by (with_reducible repeat (first | apply Kd.R_alloc | apply Kd.R_drewN | apply Kd.R_drew)); exact HO_9.out) hb); have n2_ := Aside0.mk (below_step (by repeat (first | (with_reducible first | exact HB.out | apply below_alloc | apply pw_below_drewN | apply below_drew1) | exact HB.out)) hb); clear HO_3; clear HO_9; clear HB; have HO_3 := n0_; have HO_9 := n1_; have HB := n2_; clear n0_ n1_ n2_; (try clear hb); (try clear hb2); (try clear hk); (try clear hi))); try go_wp2_with (first | (go_at_call 21; (with_reducible refine (wickerlaw05_Awake.calls k3  t186 _ A74.out).mono ?_); rintro e w75 ⟨rfl, hb⟩; have n0_ := Aside0.mk (Kd.R_below (by (with_reducible repeat (first | apply Kd.R_alloc | apply Kd.R_drewN | apply Kd.R_drew)); exact HO_3.out) hb); have n1_ := Aside0.mk (Kd.R_below (by (with_reducible repeat (first | apply Kd.R_alloc | apply Kd.R_drewN | apply Kd.R_drew)); exact HO_9.out) hb); have n2_ := Aside0.mk (below_step (by repeat (first | (with_reducible first | exact HB.out | apply below_alloc | apply pw_below_drewN | apply below_drew1) | exact HB.out)) hb); clear HO_3; clear HO_9; clear HB; have HO_3 := n0_; have HO_9 := n1_; have HB := n2_; clear n0_ n1_ n2_; (try clear hb); (try clear hb2); (try clear hk); (try clear hi))))
                        go_ret
                        exact ⟨by first | rfl | (simp [errW_none, errW_some] <;> rfl) | (simp [*, errW_none, errW_some] <;> rfl), by repeat (first | (with_reducible first | exact HB.out | apply below_alloc | apply pw_below_drewN | apply below_drew1) | exact HB.out)⟩
    · rw [if_neg c6] at H
      have c6b0 : (t166 == 0) = false := beq_eq_false_iff_ne.mpr c6
      have c6b1 : (t166 != 0) = true := bne_iff_ne.mpr c6
      replace H := Option.bind_eq_some_iff.mp H
      obtain ⟨t169, A760, H⟩ := H
      replace H : (if t169 = true then (some ((t164.length : Int) == 0)) else (some false)) = some r := H
      have A76 := Aside0.mk A760
      clear A760
      by_cases c77 : t169 = true
      · subst c77
        have H1 : (some ((t164.length : Int) == 0)) = some r := by rw [if_pos rfl] at H; exact H
        clear H
        have H := H1
        clear H1
        obtain rfl := Option.some.inj H
        go_enter Tryd.func8, Tryd.ntmps8
        go_wp2_with (first | (go_at_call 22; (with_reducible refine (lex_Lex.calls k a0 t164 t165 t166 _ A5.out).mono ?_); rintro e w78 ⟨v167, rfl, ho0, hb⟩; have n0_ := Aside0.mk (Kd.R_lower ho0 (below_size (by repeat (first | (with_reducible first | exact HB.out | apply below_alloc | apply pw_below_drewN | apply below_drew1) | exact HB.out)))); have n1_ := Aside0.mk (below_step (by repeat (first | (with_reducible first | exact HB.out | apply below_alloc | apply pw_below_drewN | apply below_drew1) | exact HB.out)) hb); clear HB; have HO168 := n0_; have HB := n1_; clear n0_ n1_; (try clear hb); (try clear hb2); (try clear hk); (try clear hi); (try clear ho0)) | (go_at_call 21; (with_reducible refine (wickerlaw05_Awake.calls k  true _ A76.out).mono ?_); rintro e w79 ⟨rfl, hb⟩; have n0_ := Aside0.mk (Kd.R_below (by (with_reducible repeat (first | apply Kd.R_alloc | apply Kd.R_drewN | apply Kd.R_drew)); exact HO168.out) hb); have n1_ := Aside0.mk (below_step (by repeat (first | (with_reducible first | exact HB.out | apply below_alloc | apply pw_below_drewN | apply below_drew1) | exact HB.out)) hb); clear HO168; clear HB; have HO168 := n0_; have HB := n1_; clear n0_ n1_; (try clear hb); (try clear hb2); (try clear hk); (try clear hi); obtain ⟨Ao80, co80, eo80⟩ := Kd.R_slice HO168.out; subst eo80))
        repeat (go_quiet (first | (go_at_call 22; (with_reducible refine (lex_Lex.calls k a0 t164 t165 t166 _ A5.out).mono ?_); rintro e w78 ⟨v167, rfl, ho0, hb⟩; have n0_ := Aside0.mk (Kd.R_lower ho0 (below_size (by repeat (first | (with_reducible first | exact HB.out | apply below_alloc | apply pw_below_drewN | apply below_drew1) | exact HB.out)))); have n1_ := Aside0.mk (below_step (by repeat (first | (with_reducible first | exact HB.out | apply below_alloc | apply pw_below_drewN | apply below_drew1) | exact HB.out)) hb); clear HB; have HO168 := n0_; have HB := n1_; clear n0_ n1_; (try clear hb); (try clear hb2); (try clear hk); (try clear hi); (try clear ho0)) | (go_at_call 21; (with_reducible refine (wickerlaw05_Awake.calls k  true _ A76.out).mono ?_); rintro e w79 ⟨rfl, hb⟩; have n0_ := Aside0.mk (Kd.R_below (by (with_reducible repeat (first | apply Kd.R_alloc | apply Kd.R_drewN | apply Kd.R_drew)); exact HO168.out) hb); have n1_ := Aside0.mk (below_step (by repeat (first | (with_reducible first | exact HB.out | apply below_alloc | apply pw_below_drewN | apply below_drew1) | exact HB.out)) hb); clear HO168; clear HB; have HO168 := n0_; have HB := n1_; clear n0_ n1_; (try clear hb); (try clear hb2); (try clear hk); (try clear hi); obtain ⟨Ao80, co80, eo80⟩ := Kd.R_slice HO168.out; subst eo80)); try go_wp2_with (first | (go_at_call 22; (with_reducible refine (lex_Lex.calls k a0 t164 t165 t166 _ A5.out).mono ?_); rintro e w78 ⟨v167, rfl, ho0, hb⟩; have n0_ := Aside0.mk (Kd.R_lower ho0 (below_size (by repeat (first | (with_reducible first | exact HB.out | apply below_alloc | apply pw_below_drewN | apply below_drew1) | exact HB.out)))); have n1_ := Aside0.mk (below_step (by repeat (first | (with_reducible first | exact HB.out | apply below_alloc | apply pw_below_drewN | apply below_drew1) | exact HB.out)) hb); clear HB; have HO168 := n0_; have HB := n1_; clear n0_ n1_; (try clear hb); (try clear hb2); (try clear hk); (try clear hi); (try clear ho0)) | (go_at_call 21; (with_reducible refine (wickerlaw05_Awake.calls k  true _ A76.out).mono ?_); rintro e w79 ⟨rfl, hb⟩; have n0_ := Aside0.mk (Kd.R_below (by (with_reducible repeat (first | apply Kd.R_alloc | apply Kd.R_drewN | apply Kd.R_drew)); exact HO168.out) hb); have n1_ := Aside0.mk (below_step (by repeat (first | (with_reducible first | exact HB.out | apply below_alloc | apply pw_below_drewN | apply below_drew1) | exact HB.out)) hb); clear HO168; clear HB; have HO168 := n0_; have HB := n1_; clear n0_ n1_; (try clear hb); (try clear hb2); (try clear hk); (try clear hi); obtain ⟨Ao80, co80, eo80⟩ := Kd.R_slice HO168.out; subst eo80)))
        go_ret
        exact ⟨by first | rfl | (simp [errW_none, errW_some] <;> rfl) | (simp [*, errW_none, errW_some] <;> rfl), by repeat (first | (with_reducible first | exact HB.out | apply below_alloc | apply pw_below_drewN | apply below_drew1) | exact HB.out)⟩
      · replace c77 := Bool.eq_false_iff.mpr c77
        subst c77
        have H1 : (some false) = some r := by rw [if_neg (show ¬ (false = true) by decide)] at H; exact H
        clear H
        have H := H1
        clear H1
        obtain rfl := Option.some.inj H
        go_enter Tryd.func8, Tryd.ntmps8
        go_wp2_with (first | (go_at_call 22; (with_reducible refine (lex_Lex.calls k a0 t164 t165 t166 _ A5.out).mono ?_); rintro e w81 ⟨v167, rfl, ho0, hb⟩; have n0_ := Aside0.mk (Kd.R_lower ho0 (below_size (by repeat (first | (with_reducible first | exact HB.out | apply below_alloc | apply pw_below_drewN | apply below_drew1) | exact HB.out)))); have n1_ := Aside0.mk (below_step (by repeat (first | (with_reducible first | exact HB.out | apply below_alloc | apply pw_below_drewN | apply below_drew1) | exact HB.out)) hb); clear HB; have HO168 := n0_; have HB := n1_; clear n0_ n1_; (try clear hb); (try clear hb2); (try clear hk); (try clear hi); (try clear ho0)) | (go_at_call 21; (with_reducible refine (wickerlaw05_Awake.calls k  false _ A76.out).mono ?_); rintro e w82 ⟨rfl, hb⟩; have n0_ := Aside0.mk (Kd.R_below (by (with_reducible repeat (first | apply Kd.R_alloc | apply Kd.R_drewN | apply Kd.R_drew)); exact HO168.out) hb); have n1_ := Aside0.mk (below_step (by repeat (first | (with_reducible first | exact HB.out | apply below_alloc | apply pw_below_drewN | apply below_drew1) | exact HB.out)) hb); clear HO168; clear HB; have HO168 := n0_; have HB := n1_; clear n0_ n1_; (try clear hb); (try clear hb2); (try clear hk); (try clear hi)))
        repeat (go_quiet (first | (go_at_call 22; (with_reducible refine (lex_Lex.calls k a0 t164 t165 t166 _ A5.out).mono ?_); rintro e w81 ⟨v167, rfl, ho0, hb⟩; have n0_ := Aside0.mk (Kd.R_lower ho0 (below_size (by repeat (first | (with_reducible first | exact HB.out | apply below_alloc | apply pw_below_drewN | apply below_drew1) | exact HB.out)))); have n1_ := Aside0.mk (below_step (by repeat (first | (with_reducible first | exact HB.out | apply below_alloc | apply pw_below_drewN | apply below_drew1) | exact HB.out)) hb); clear HB; have HO168 := n0_; have HB := n1_; clear n0_ n1_; (try clear hb); (try clear hb2); (try clear hk); (try clear hi); (try clear ho0)) | (go_at_call 21; (with_reducible refine (wickerlaw05_Awake.calls k  false _ A76.out).mono ?_); rintro e w82 ⟨rfl, hb⟩; have n0_ := Aside0.mk (Kd.R_below (by (with_reducible repeat (first | apply Kd.R_alloc | apply Kd.R_drewN | apply Kd.R_drew)); exact HO168.out) hb); have n1_ := Aside0.mk (below_step (by repeat (first | (with_reducible first | exact HB.out | apply below_alloc | apply pw_below_drewN | apply below_drew1) | exact HB.out)) hb); clear HO168; clear HB; have HO168 := n0_; have HB := n1_; clear n0_ n1_; (try clear hb); (try clear hb2); (try clear hk); (try clear hi))); try go_wp2_with (first | (go_at_call 22; (with_reducible refine (lex_Lex.calls k a0 t164 t165 t166 _ A5.out).mono ?_); rintro e w81 ⟨v167, rfl, ho0, hb⟩; have n0_ := Aside0.mk (Kd.R_lower ho0 (below_size (by repeat (first | (with_reducible first | exact HB.out | apply below_alloc | apply pw_below_drewN | apply below_drew1) | exact HB.out)))); have n1_ := Aside0.mk (below_step (by repeat (first | (with_reducible first | exact HB.out | apply below_alloc | apply pw_below_drewN | apply below_drew1) | exact HB.out)) hb); clear HB; have HO168 := n0_; have HB := n1_; clear n0_ n1_; (try clear hb); (try clear hb2); (try clear hk); (try clear hi); (try clear ho0)) | (go_at_call 21; (with_reducible refine (wickerlaw05_Awake.calls k  false _ A76.out).mono ?_); rintro e w82 ⟨rfl, hb⟩; have n0_ := Aside0.mk (Kd.R_below (by (with_reducible repeat (first | apply Kd.R_alloc | apply Kd.R_drewN | apply Kd.R_drew)); exact HO168.out) hb); have n1_ := Aside0.mk (below_step (by repeat (first | (with_reducible first | exact HB.out | apply below_alloc | apply pw_below_drewN | apply below_drew1) | exact HB.out)) hb); clear HO168; clear HB; have HO168 := n0_; have HB := n1_; clear n0_ n1_; (try clear hb); (try clear hb2); (try clear hk); (try clear hi))))
        go_ret
        exact ⟨by first | rfl | (simp [errW_none, errW_some] <;> rfl) | (simp [*, errW_none, errW_some] <;> rfl), by repeat (first | (with_reducible first | exact HB.out | apply below_alloc | apply pw_below_drewN | apply below_drew1) | exact HB.out)⟩

end Go.Proofs.YtghdnijdbmekjaaDoor.H
