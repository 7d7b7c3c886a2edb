/- What the two texts of 'Name' and of 'Mark' answer: one plain function. -/
import Derived.Test.YtghdnijdbmekjaaDoorUBase
import Derived.Test.YtghdnijdbmekjaaDoorGx8
import Derived.Test.YtghdnijdbmekjaaDoorGx12
import Derived.Test.YtghdnijdbmekjaaDoorGx10
set_option linter.unusedVariables false
set_option linter.unusedSimpArgs false
namespace Go.Proofs.YtghdnijdbmekjaaDoor.Pure
open Go.RowKit Go.Proofs.YtghdnijdbmekjaaDoorW.PrintWords Go.Proofs.YtghdnijdbmekjaaDoor.G

def letterI (n : Int) : Bool := decide ((65 ≤ n ∧ n ≤ 90) ∨ (97 ≤ n ∧ n ≤ 122))
def nameI (n : Int) : Bool := letterI n || decide (n = 45) || decide (48 ≤ n ∧ n ≤ 57)
def nameB (b : UInt8) : Bool := nameI b.toNat
/-- Is a text a name? -/
def nameL (l : List UInt8) : Bool := match l with
  | [] => false
  | b :: t => decide (t.length < 64) && letterI b.toNat && t.all nameB
def markL (l : List UInt8) : Bool := decide (1 ≤ l.length ∧ l.length ≤ 64)

theorem letter_f (n : Int) : names_letter.f n = some (letterI n) := by
  unfold names_letter.f letterI
  by_cases h1 : 65 ≤ n <;> by_cases h2 : n ≤ 90 <;> by_cases h3 : 97 ≤ n <;> by_cases h4 : n ≤ 122 <;> simp [h1, h2, h3, h4] <;> omega
theorem ref_letter_f (n : Int) : wickerref01_letter.f n = some (letterI n) := by
  unfold wickerref01_letter.f letterI
  by_cases h1 : 65 ≤ n <;> by_cases h2 : n ≤ 90 <;> by_cases h3 : 97 ≤ n <;> by_cases h4 : n ≤ 122 <;> simp [h1, h2, h3, h4] <;> omega
theorem nameI_of_letter {n : Int} (h : letterI n = true) : nameI n = true := by simp [nameI, h]

theorem name_l0 (s : ByteArray) (hn : s.size ≤ 1000000000000) : ∀ d i : Nat, i + d = s.size → Ev (fun k => names_Name.l0 k s (s.size : Int) (i : Int)) ((s.data.toList.drop i).all nameB) := by
  intro d
  induction d with
  | zero =>
    intro i hi
    refine ev_nowS fun k => ?_
    simp only [names_Name.l0]
    rw [if_neg (by omega), List.drop_eq_nil_of_le (by rw [data_length]; omega)]
    rfl
  | succ d ih =>
    intro i hi
    have hl : i < s.data.toList.length := by rw [data_length]; omega
    have hb := bt_get s i hl
    have e1 : wrap64 ((i : Int) + 1) = ((i + 1 : Nat) : Int) := by rw [w64 (by omega) (by omega)]; omega
    rw [List.drop_eq_getElem_cons hl, List.all_cons]
    generalize s.data.toList[i] = b at hb
    by_cases hv : nameB b = true
    · rw [hv, Bool.true_and]
      refine Ev.step (f := fun k => names_Name.l0 k s (s.size : Int) ((i + 1 : Nat) : Int)) (fun k => ?_) (ih (i + 1) (by omega))
      simp only [names_Name.l0]
      rw [if_pos (by omega), if_pos (by omega), if_pos (by omega), hb, letter_f, Option.bind_some, e1]
      unfold nameB nameI at hv
      by_cases h1 : letterI b.toNat = true
      · rw [if_pos h1]
      · rw [if_neg h1]
        by_cases h2 : ((b.toNat : Nat) : Int) = 45
        · rw [if_pos h2]
        · have h3 : (48 : Int) ≤ b.toNat ∧ (b.toNat : Int) ≤ 57 := by simpa [h1, h2] using hv
          rw [if_neg h2, if_neg (by omega), if_neg (by omega)]
    · have hv' : nameB b = false := by simpa using hv
      rw [hv', Bool.false_and]
      refine ev_nowS fun k => ?_
      simp only [names_Name.l0]
      rw [if_pos (by omega), if_pos (by omega), if_pos (by omega), hb, letter_f, Option.bind_some]
      unfold nameB nameI at hv'
      simp only [Bool.or_eq_false_iff, decide_eq_false_iff_not] at hv'
      rw [if_neg (by simp [hv'.1.1]), if_neg hv'.1.2]
      by_cases h3 : (b.toNat : Int) < 48
      · rw [if_pos h3]
      · rw [if_neg h3, if_pos (by omega)]

theorem name_f (s : ByteArray) (hn : s.size ≤ 1000000000000) : Ev (fun k => names_Name.f k s) (nameL s.data.toList) := by
  unfold names_Name.f
  have hlen := data_length s
  cases hl : s.data.toList with
  | nil =>
    rw [hl] at hlen
    exact Ev.pos ((ba_nil s).2 hlen.symm) (ev_nowS fun k => by simp only [names_Name.j0]; rfl)
  | cons b t =>
    rw [hl] at hlen
    simp only [List.length_cons] at hlen
    refine Ev.neg (fun h => by have := (ba_nil s).1 h; omega) ?_
    by_cases h64 : (s.size : Int) > 64
    · refine Ev.pos h64 ?_
      have : nameL (b :: t) = false := by simp [nameL]; intro h; omega
      rw [this]
      exact ev_nowS fun k => by simp only [names_Name.j0]; rfl
    · refine Ev.neg h64 (Ev.pos (by omega) ?_)
      have hb := bt_get s 0 (by rw [hl]; simp)
      simp only [hl, List.getElem_cons_zero] at hb
      rw [show bt s 0 = b.toNat from hb]
      refine Ev.got (letter_f _) ?_
      by_cases h1 : letterI b.toNat = true
      · have hall : nameL (b :: t) = (s.data.toList.drop 0).all nameB := by
          rw [List.drop_zero, hl, List.all_cons, show nameB b = true from nameI_of_letter h1, Bool.true_and]
          simp only [nameL, h1, Bool.and_true]
          rw [decide_eq_true (by omega), Bool.true_and]
        rw [hall]
        refine Ev.step (f := fun k => names_Name.l0 k s (s.size : Int) ((0 : Nat) : Int)) (fun k => ?_) (name_l0 s hn s.size 0 (by omega))
        simp only [names_Name.j0]
        rw [h1, if_neg (by simp)]; rfl
      · have h1' : letterI b.toNat = false := by simpa using h1
        have : nameL (b :: t) = false := by simp [nameL, h1']
        rw [this]
        exact ev_nowS fun k => by simp only [names_Name.j0]; rw [h1']; rfl

theorem ref_name_l0 (s : ByteArray) (hn : s.size ≤ 1000000000000) : ∀ d i : Nat, i + d = s.size → Ev (fun k => wickerref01_Name.l0 k s (i : Int)) ((s.data.toList.drop i).all nameB) := by
  intro d
  induction d with
  | zero =>
    intro i hi
    refine ev_nowS fun k => ?_
    simp only [wickerref01_Name.l0]
    rw [if_neg (by omega), List.drop_eq_nil_of_le (by rw [data_length]; omega)]
    rfl
  | succ d ih =>
    intro i hi
    have hl : i < s.data.toList.length := by rw [data_length]; omega
    have hb := bt_get s i hl
    have e1 : wrap64 ((i : Int) + 1) = ((i + 1 : Nat) : Int) := by rw [w64 (by omega) (by omega)]; omega
    rw [List.drop_eq_getElem_cons hl, List.all_cons]
    generalize s.data.toList[i] = b at hb
    by_cases hv : nameB b = true
    · rw [hv, Bool.true_and]
      refine Ev.step (f := fun k => wickerref01_Name.l0 k s ((i + 1 : Nat) : Int)) (fun k => ?_) (ih (i + 1) (by omega))
      simp only [wickerref01_Name.l0]
      rw [if_pos (by omega), if_pos (by omega), hb, ref_letter_f, Option.bind_some, e1]
      unfold nameB nameI at hv
      by_cases h1 : letterI b.toNat = true
      · rw [if_pos h1]
      · rw [if_neg h1]
        by_cases h2 : ((b.toNat : Nat) : Int) = 45
        · rw [if_neg (by omega), if_pos h2]
        · have h3 : (48 : Int) ≤ b.toNat ∧ (b.toNat : Int) ≤ 57 := by simpa [h1, h2] using hv
          rw [if_pos (by omega), if_pos (by omega)]
    · have hv' : nameB b = false := by simpa using hv
      rw [hv', Bool.false_and]
      refine ev_nowS fun k => ?_
      simp only [wickerref01_Name.l0]
      rw [if_pos (by omega), if_pos (by omega), hb, ref_letter_f, Option.bind_some]
      unfold nameB nameI at hv'
      simp only [Bool.or_eq_false_iff, decide_eq_false_iff_not] at hv'
      rw [if_neg (by simp [hv'.1.1])]
      by_cases h3 : (b.toNat : Int) ≥ 48
      · rw [if_pos h3, if_neg (by omega), if_neg hv'.1.2]
      · rw [if_neg h3, if_neg hv'.1.2]

theorem ref_name_f (s : ByteArray) (hn : s.size ≤ 1000000000000) : Ev (fun k => wickerref01_Name.f k s) (nameL s.data.toList) := by
  unfold wickerref01_Name.f
  have hlen := data_length s
  cases hl : s.data.toList with
  | nil =>
    rw [hl] at hlen
    simp only [List.length_nil] at hlen
    exact Ev.pos (by omega) (ev_nowS fun k => by simp only [wickerref01_Name.j0]; rfl)
  | cons b t =>
    rw [hl] at hlen
    simp only [List.length_cons] at hlen
    refine Ev.neg (by omega) ?_
    by_cases h64 : (s.size : Int) > 64
    · refine Ev.pos h64 ?_
      have : nameL (b :: t) = false := by simp [nameL]; intro h; omega
      rw [this]
      exact ev_nowS fun k => by simp only [wickerref01_Name.j0]; rfl
    · refine Ev.neg h64 (Ev.pos (by omega) ?_)
      have hb := bt_get s 0 (by rw [hl]; simp)
      simp only [hl, List.getElem_cons_zero] at hb
      rw [show bt s 0 = b.toNat from hb]
      refine Ev.got (ref_letter_f _) ?_
      by_cases h1 : letterI b.toNat = true
      · have hall : nameL (b :: t) = (s.data.toList.drop 1).all nameB := by
          rw [hl, List.drop_one, List.tail_cons]
          simp only [nameL, h1, Bool.and_true]
          rw [decide_eq_true (by omega), Bool.true_and]
        rw [hall]
        refine Ev.step (f := fun k => wickerref01_Name.l0 k s ((1 : Nat) : Int)) (fun k => ?_) (ref_name_l0 s hn (s.size - 1) 1 (by omega))
        simp only [wickerref01_Name.j0]
        rw [h1, if_neg (by simp)]; rfl
      · have h1' : letterI b.toNat = false := by simpa using h1
        have : nameL (b :: t) = false := by simp [nameL, h1']
        rw [this]
        exact ev_nowS fun k => by simp only [wickerref01_Name.j0]; rw [h1']; rfl

theorem mark_f (s : ByteArray) : names_Mark.f s = some (markL s.data.toList) := by
  unfold names_Mark.f markL
  rw [data_length]
  by_cases h : s.size = 0
  · rw [if_pos ((ba_nil s).2 h)]; simp [h]
  · rw [if_neg (fun e => h ((ba_nil s).1 e))]
    by_cases h2 : s.size ≤ 64
    · rw [decide_eq_true (by omega), decide_eq_true (by omega)]
    · rw [decide_eq_false (by omega), decide_eq_false (by omega)]
theorem ref_mark_f (s : ByteArray) : wickerref01_Mark.f s = some (markL s.data.toList) := by
  unfold wickerref01_Mark.f markL
  rw [data_length]
  by_cases h : s.size = 0
  · rw [if_neg (by omega), decide_eq_false (by omega)]
  · rw [if_pos (by omega)]
    by_cases h2 : s.size ≤ 64
    · rw [decide_eq_true (by omega), decide_eq_true (by omega)]
    · rw [decide_eq_false (by omega), decide_eq_false (by omega)]
end Go.Proofs.YtghdnijdbmekjaaDoor.Pure
