/- Plain words on lists of bytes and on rounds, of no program. What the two texts of 'Name' and of 'Mark' answer: one plain function. What the two texts of 'Quote' answer: one plain function. The document's examples of layer 1 come true. -/
import Derived.Test.YtghdnijdbmekjaaDoorWMore
import Derived.Test.YtghdnijdbmekjaaDoorHx7
import Derived.Test.YtghdnijdbmekjaaDoorHx14
import Derived.Test.YtghdnijdbmekjaaDoorHx9
import Derived.Test.YtghdnijdbmekjaaDoorHx8
import Derived.Test.YtghdnijdbmekjaaDoorHx16
import Derived.Test.YtghdnijdbmekjaaDoorHx11
set_option linter.unusedVariables false
set_option linter.unusedSimpArgs false
namespace Go.Proofs.YtghdnijdbmekjaaDoor.Pure
open Go.RowKit Go.Proofs.YtghdnijdbmekjaaDoorW.PrintWords

theorem w64 {i : Int} (h0 : -9223372036854775808 ≤ i) (h1 : i ≤ 9223372036854775807) : wrap64 i = i := IntWalk.wrap64_in i ⟨h0, h1⟩
theorem toList_data (s : ByteArray) : s.toList = s.data.toList := ByteArray.toList_eq s
theorem data_length (s : ByteArray) : s.data.toList.length = s.size := by rw [Array.length_toList]; rfl
theorem bt_get (s : ByteArray) (i : Nat) (h : i < s.data.toList.length) : bt s i = ((s.data.toList[i]).toNat : Int) := by
  have h2 : i < s.size := by rwa [data_length] at h
  unfold bt
  rw [dif_pos (by simpa using h2)]
  rfl
theorem ba_ext {a b : ByteArray} (h : a.data.toList = b.data.toList) : a = b := by
  cases a; cases b; simp_all [Array.toList_inj]
theorem ba_beq (a b : ByteArray) : (a.toList == b.toList) = decide (a = b) := by
  rw [toList_data, toList_data, Bool.eq_iff_iff]
  simp only [beq_iff_eq, decide_eq_true_eq]
  exact ⟨ba_ext, fun h => by rw [h]⟩
theorem ba_list (a b : ByteArray) : (a.toList = b.toList) ↔ a = b := by
  rw [toList_data, toList_data]
  exact ⟨ba_ext, fun h => by rw [h]⟩
theorem ba_nil (a : ByteArray) : (a.toList = ([] : List UInt8)) ↔ a.size = 0 := by
  rw [toList_data, ← data_length]
  exact ⟨fun h => by rw [h]; rfl, fun h => List.eq_nil_of_length_eq_zero h⟩
theorem ev_now {α : Type} {g : Nat → Option α} {r : α} (h : ∀ k, g k = some r) : Ev g r := ⟨0, fun k _ => h k⟩
theorem ev_nowS {α : Type} {g : Nat → Option α} {r : α} (h : ∀ k, g (k + 1) = some r) : Ev g r := Ev.step (f := fun _ => some r) h (Ev.now r)
theorem Ev.eq {α : Type} {g : Nat → Option α} {r s : α} (h : Ev g r) (e : r = s) : Ev g s := e ▸ h
theorem Ev.pos {α : Type} {c : Prop} [Decidable c] {A B : Nat → Option α} {r : α} (h : c) (e : Ev A r) : Ev (fun k => if c then A k else B k) r := Ev.congr (fun k => if_pos h) e
theorem Ev.neg {α : Type} {c : Prop} [Decidable c] {A B : Nat → Option α} {r : α} (h : ¬ c) (e : Ev B r) : Ev (fun k => if c then A k else B k) r := Ev.congr (fun k => if_neg h) e
theorem Ev.got {α β : Type} {y : Option α} {a : α} {f : Nat → α → Option β} {r : β} (h : y = some a) (e : Ev (fun k => f k a) r) : Ev (fun k => y.bind (f k)) r := Ev.congr (fun k => by rw [h]; rfl) e
theorem Ev.out {α : Type} {g : Nat → Option α} {r : α} (h : Ev g r) : ∃ K, ∀ k, K ≤ k → g k = some r := h
end Go.Proofs.YtghdnijdbmekjaaDoor.Pure

namespace Go.Proofs.YtghdnijdbmekjaaDoor.Pure
open Go.RowKit Go.Proofs.YtghdnijdbmekjaaDoorW.PrintWords Go.Proofs.YtghdnijdbmekjaaDoor.H

def letterI (n : Int) : Bool := decide ((65 ≤ n ∧ n ≤ 90) ∨ (97 ≤ n ∧ n ≤ 122))
def nameI (n : Int) : Bool := letterI n || decide (n = 45) || decide (48 ≤ n ∧ n ≤ 57)
def nameB (b : UInt8) : Bool := nameI b.toNat
/-- Is a text a name? -/
def nameL (l : List UInt8) : Bool := match l with
  | [] => false
  | b :: t => decide (t.length < 64) && letterI b.toNat && t.all nameB
def markL (l : List UInt8) : Bool := decide (1 ≤ l.length ∧ l.length ≤ 64)

theorem letter_f (n : Int) : names_letter.f n = some (letterI n) := by
  unfold names_letter.f letterI
  by_cases h1 : 65 ≤ n <;> by_cases h2 : n ≤ 90 <;> by_cases h3 : 97 ≤ n <;> by_cases h4 : n ≤ 122 <;> simp [h1, h2, h3, h4] <;> omega
theorem ref_letter_f (n : Int) : wickerref01_letter.f n = some (letterI n) := by
  unfold wickerref01_letter.f letterI
  by_cases h1 : 65 ≤ n <;> by_cases h2 : n ≤ 90 <;> by_cases h3 : 97 ≤ n <;> by_cases h4 : n ≤ 122 <;> simp [h1, h2, h3, h4] <;> omega
theorem nameI_of_letter {n : Int} (h : letterI n = true) : nameI n = true := by simp [nameI, h]

theorem name_l0 (s : ByteArray) (hn : s.size ≤ 1000000000000) : ∀ d i : Nat, i + d = s.size → Ev (fun k => names_Name.l0 k s (s.size : Int) (i : Int)) ((s.data.toList.drop i).all nameB) := by
  intro d
  induction d with
  | zero =>
    intro i hi
    refine ev_nowS fun k => ?_
    simp only [names_Name.l0]
    rw [if_neg (by omega), List.drop_eq_nil_of_le (by rw [data_length]; omega)]
    rfl
  | succ d ih =>
    intro i hi
    have hl : i < s.data.toList.length := by rw [data_length]; omega
    have hb := bt_get s i hl
    have e1 : wrap64 ((i : Int) + 1) = ((i + 1 : Nat) : Int) := by rw [w64 (by omega) (by omega)]; omega
    rw [List.drop_eq_getElem_cons hl, List.all_cons]
    generalize s.data.toList[i] = b at hb
    by_cases hv : nameB b = true
    · rw [hv, Bool.true_and]
      refine Ev.step (f := fun k => names_Name.l0 k s (s.size : Int) ((i + 1 : Nat) : Int)) (fun k => ?_) (ih (i + 1) (by omega))
      simp only [names_Name.l0]
      rw [if_pos (by omega), if_pos (by omega), if_pos (by omega), hb, letter_f, Option.bind_some, e1]
      unfold nameB nameI at hv
      by_cases h1 : letterI b.toNat = true
      · rw [if_pos h1]
      · rw [if_neg h1]
        by_cases h2 : ((b.toNat : Nat) : Int) = 45
        · rw [if_pos h2]
        · have h3 : (48 : Int) ≤ b.toNat ∧ (b.toNat : Int) ≤ 57 := by simpa [h1, h2] using hv
          rw [if_neg h2, if_neg (by omega), if_neg (by omega)]
    · have hv' : nameB b = false := by simpa using hv
      rw [hv', Bool.false_and]
      refine ev_nowS fun k => ?_
      simp only [names_Name.l0]
      rw [if_pos (by omega), if_pos (by omega), if_pos (by omega), hb, letter_f, Option.bind_some]
      unfold nameB nameI at hv'
      simp only [Bool.or_eq_false_iff, decide_eq_false_iff_not] at hv'
      rw [if_neg (by simp [hv'.1.1]), if_neg hv'.1.2]
      by_cases h3 : (b.toNat : Int) < 48
      · rw [if_pos h3]
      · rw [if_neg h3, if_pos (by omega)]

theorem name_f (s : ByteArray) (hn : s.size ≤ 1000000000000) : Ev (fun k => names_Name.f k s) (nameL s.data.toList) := by
  unfold names_Name.f
  have hlen := data_length s
  cases hl : s.data.toList with
  | nil =>
    rw [hl] at hlen
    exact Ev.pos ((ba_nil s).2 hlen.symm) (ev_nowS fun k => by simp only [names_Name.j0]; rfl)
  | cons b t =>
    rw [hl] at hlen
    simp only [List.length_cons] at hlen
    refine Ev.neg (fun h => by have := (ba_nil s).1 h; omega) ?_
    by_cases h64 : (s.size : Int) > 64
    · refine Ev.pos h64 ?_
      have : nameL (b :: t) = false := by simp [nameL]; intro h; omega
      rw [this]
      exact ev_nowS fun k => by simp only [names_Name.j0]; rfl
    · refine Ev.neg h64 (Ev.pos (by omega) ?_)
      have hb := bt_get s 0 (by rw [hl]; simp)
      simp only [hl, List.getElem_cons_zero] at hb
      rw [show bt s 0 = b.toNat from hb]
      refine Ev.got (letter_f _) ?_
      by_cases h1 : letterI b.toNat = true
      · have hall : nameL (b :: t) = (s.data.toList.drop 0).all nameB := by
          rw [List.drop_zero, hl, List.all_cons, show nameB b = true from nameI_of_letter h1, Bool.true_and]
          simp only [nameL, h1, Bool.and_true]
          rw [decide_eq_true (by omega), Bool.true_and]
        rw [hall]
        refine Ev.step (f := fun k => names_Name.l0 k s (s.size : Int) ((0 : Nat) : Int)) (fun k => ?_) (name_l0 s hn s.size 0 (by omega))
        simp only [names_Name.j0]
        rw [h1, if_neg (by simp)]; rfl
      · have h1' : letterI b.toNat = false := by simpa using h1
        have : nameL (b :: t) = false := by simp [nameL, h1']
        rw [this]
        exact ev_nowS fun k => by simp only [names_Name.j0]; rw [h1']; rfl

theorem ref_name_l0 (s : ByteArray) (hn : s.size ≤ 1000000000000) : ∀ d i : Nat, i + d = s.size → Ev (fun k => wickerref01_Name.l0 k s (i : Int)) ((s.data.toList.drop i).all nameB) := by
  intro d
  induction d with
  | zero =>
    intro i hi
    refine ev_nowS fun k => ?_
    simp only [wickerref01_Name.l0]
    rw [if_neg (by omega), List.drop_eq_nil_of_le (by rw [data_length]; omega)]
    rfl
  | succ d ih =>
    intro i hi
    have hl : i < s.data.toList.length := by rw [data_length]; omega
    have hb := bt_get s i hl
    have e1 : wrap64 ((i : Int) + 1) = ((i + 1 : Nat) : Int) := by rw [w64 (by omega) (by omega)]; omega
    rw [List.drop_eq_getElem_cons hl, List.all_cons]
    generalize s.data.toList[i] = b at hb
    by_cases hv : nameB b = true
    · rw [hv, Bool.true_and]
      refine Ev.step (f := fun k => wickerref01_Name.l0 k s ((i + 1 : Nat) : Int)) (fun k => ?_) (ih (i + 1) (by omega))
      simp only [wickerref01_Name.l0]
      rw [if_pos (by omega), if_pos (by omega), hb, ref_letter_f, Option.bind_some, e1]
      unfold nameB nameI at hv
      by_cases h1 : letterI b.toNat = true
      · rw [if_pos h1]
      · rw [if_neg h1]
        by_cases h2 : ((b.toNat : Nat) : Int) = 45
        · rw [if_neg (by omega), if_pos h2]
        · have h3 : (48 : Int) ≤ b.toNat ∧ (b.toNat : Int) ≤ 57 := by simpa [h1, h2] using hv
          rw [if_pos (by omega), if_pos (by omega)]
    · have hv' : nameB b = false := by simpa using hv
      rw [hv', Bool.false_and]
      refine ev_nowS fun k => ?_
      simp only [wickerref01_Name.l0]
      rw [if_pos (by omega), if_pos (by omega), hb, ref_letter_f, Option.bind_some]
      unfold nameB nameI at hv'
      simp only [Bool.or_eq_false_iff, decide_eq_false_iff_not] at hv'
      rw [if_neg (by simp [hv'.1.1])]
      by_cases h3 : (b.toNat : Int) ≥ 48
      · rw [if_pos h3, if_neg (by omega), if_neg hv'.1.2]
      · rw [if_neg h3, if_neg hv'.1.2]

theorem ref_name_f (s : ByteArray) (hn : s.size ≤ 1000000000000) : Ev (fun k => wickerref01_Name.f k s) (nameL s.data.toList) := by
  unfold wickerref01_Name.f
  have hlen := data_length s
  cases hl : s.data.toList with
  | nil =>
    rw [hl] at hlen
    simp only [List.length_nil] at hlen
    exact Ev.pos (by omega) (ev_nowS fun k => by simp only [wickerref01_Name.j0]; rfl)
  | cons b t =>
    rw [hl] at hlen
    simp only [List.length_cons] at hlen
    refine Ev.neg (by omega) ?_
    by_cases h64 : (s.size : Int) > 64
    · refine Ev.pos h64 ?_
      have : nameL (b :: t) = false := by simp [nameL]; intro h; omega
      rw [this]
      exact ev_nowS fun k => by simp only [wickerref01_Name.j0]; rfl
    · refine Ev.neg h64 (Ev.pos (by omega) ?_)
      have hb := bt_get s 0 (by rw [hl]; simp)
      simp only [hl, List.getElem_cons_zero] at hb
      rw [show bt s 0 = b.toNat from hb]
      refine Ev.got (ref_letter_f _) ?_
      by_cases h1 : letterI b.toNat = true
      · have hall : nameL (b :: t) = (s.data.toList.drop 1).all nameB := by
          rw [hl, List.drop_one, List.tail_cons]
          simp only [nameL, h1, Bool.and_true]
          rw [decide_eq_true (by omega), Bool.true_and]
        rw [hall]
        refine Ev.step (f := fun k => wickerref01_Name.l0 k s ((1 : Nat) : Int)) (fun k => ?_) (ref_name_l0 s hn (s.size - 1) 1 (by omega))
        simp only [wickerref01_Name.j0]
        rw [h1, if_neg (by simp)]; rfl
      · have h1' : letterI b.toNat = false := by simpa using h1
        have : nameL (b :: t) = false := by simp [nameL, h1']
        rw [this]
        exact ev_nowS fun k => by simp only [wickerref01_Name.j0]; rw [h1']; rfl

theorem mark_f (s : ByteArray) : names_Mark.f s = some (markL s.data.toList) := by
  unfold names_Mark.f markL
  rw [data_length]
  by_cases h : s.size = 0
  · rw [if_pos ((ba_nil s).2 h)]; simp [h]
  · rw [if_neg (fun e => h ((ba_nil s).1 e))]
    by_cases h2 : s.size ≤ 64
    · rw [decide_eq_true (by omega), decide_eq_true (by omega)]
    · rw [decide_eq_false (by omega), decide_eq_false (by omega)]
theorem ref_mark_f (s : ByteArray) : wickerref01_Mark.f s = some (markL s.data.toList) := by
  unfold wickerref01_Mark.f markL
  rw [data_length]
  by_cases h : s.size = 0
  · rw [if_neg (by omega), decide_eq_false (by omega)]
  · rw [if_pos (by omega)]
    by_cases h2 : s.size ≤ 64
    · rw [decide_eq_true (by omega), decide_eq_true (by omega)]
    · rw [decide_eq_false (by omega), decide_eq_false (by omega)]
end Go.Proofs.YtghdnijdbmekjaaDoor.Pure

namespace Go.Proofs.YtghdnijdbmekjaaDoor.Pure
open Go.RowKit Go.Proofs.YtghdnijdbmekjaaDoorW.PrintWords Go.Proofs.YtghdnijdbmekjaaDoor.H

def numsL (l : List UInt8) : List Int := l.map fun b => (b.toNat : Int)
theorem numsL_append (a b : List UInt8) : numsL (a ++ b) = numsL a ++ numsL b := by simp [numsL]
theorem numsL_length (a : List UInt8) : (numsL a).length = a.length := by simp [numsL]
theorem strOf_numsL (l : List UInt8) : strOfNums (numsL l) = ⟨l.toArray⟩ := by
  apply ba_ext
  rw [strOfNums_data, numsL, List.map_map]
  exact (List.map_congr_left (g := id) (fun b _ => by simp)).trans (List.map_id l)
theorem hexd_toNat (n : Nat) (h : n < 16) : (hexd n).toNat = if n < 10 then 48 + n else 87 + n := by
  unfold hexd
  split <;> simp <;> omega
theorem hex_f (n : Nat) (h : n < 16) : wickerref01_hex.f (n : Int) = some ((hexd n).toNat : Int) := by
  unfold wickerref01_hex.f
  rw [hexd_toNat n h]
  by_cases h10 : n < 10
  · rw [if_pos (by omega), if_pos h10, w64 (by omega) (by omega)]; congr 1; omega
  · rw [if_neg (by omega), if_neg h10, w64 (by omega) (by omega)]; congr 1; omega

theorem ref_quote_l0 (s : ByteArray) (hn : s.size ≤ 1000000000000) : ∀ (d i : Nat) (acc : List UInt8), i + d = s.size → acc.length ≤ 4 * i + 1 →
    Ev (fun k => wickerref01_Quote.l0 k s (numsL acc) (i : Int)) ⟨(acc ++ ((s.data.toList.drop i).flatMap escB ++ [34])).toArray⟩ := by
  intro d
  induction d with
  | zero =>
    intro i acc hi ha
    refine ev_nowS fun k => ?_
    simp only [wickerref01_Quote.l0]
    rw [if_neg (by omega), List.drop_eq_nil_of_le (by rw [data_length]; omega), if_pos (by rw [numsL_length]; omega)]
    have : numsL acc ++ [34] = numsL (acc ++ [34]) := by simp [numsL]
    rw [this, strOf_numsL]; rfl
  | succ d ih =>
    intro i acc hi ha
    have hl : i < s.data.toList.length := by rw [data_length]; omega
    have hb := bt_get s i hl
    have e1 : wrap64 ((i : Int) + 1) = ((i + 1 : Nat) : Int) := by rw [w64 (by omega) (by omega)]; omega
    rw [List.drop_eq_getElem_cons hl, List.flatMap_cons]
    generalize s.data.toList[i] = b at hb
    have hb2 : b.toNat < 256 := UInt8.toNat_lt b
    have hlen := escB_le b
    have key := ih (i + 1) (acc ++ escB b) (by omega) (by rw [List.length_append]; omega)
    have hal : (numsL acc).length + 4 < 140737488355328 := by rw [numsL_length]; omega
    refine Ev.eq (r := ⟨((acc ++ escB b) ++ ((s.data.toList.drop (i + 1)).flatMap escB ++ [34])).toArray⟩) ?_ (by simp)
    rw [numsL_append] at key
    by_cases h10 : b.toNat = 10
    · have he : escB b = [92, 110] := by unfold escB; rw [if_pos h10]
      refine Ev.step (fun k => ?_) key
      simp only [wickerref01_Quote.l0]
      rw [if_pos (by omega), if_pos (by omega), hb, if_pos (by omega), Option.bind_some, if_pos (by simp only [List.length_cons, List.length_nil]; omega), he, e1]; rfl
    by_cases h9 : b.toNat = 9
    · have he : escB b = [92, 116] := by unfold escB; rw [if_neg h10, if_pos h9]
      refine Ev.step (fun k => ?_) key
      simp only [wickerref01_Quote.l0]
      rw [if_pos (by omega), if_pos (by omega), hb, if_neg (by omega), if_pos (by omega), Option.bind_some, if_pos (by simp only [List.length_cons, List.length_nil]; omega), he, e1]; rfl
    by_cases hp : b.toNat < 32 ∨ 126 < b.toNat
    · have he : escB b = [92, 120, hexd (b.toNat / 16), hexd (b.toNat % 16)] := by unfold escB; rw [if_neg h10, if_neg h9, if_pos hp]
      refine Ev.step (f := fun k => wickerref01_Quote.j1 k s (numsL acc) (i : Int) (b.toNat : Int) true) (fun k => ?_) (Ev.step (fun k => ?_) key)
      · simp only [wickerref01_Quote.l0]
        rw [if_pos (by omega), if_pos (by omega), hb, if_neg (by omega), if_neg (by omega)]
        by_cases h32 : (b.toNat : Int) < 32
        · rw [if_pos h32]
        · rw [if_neg h32, decide_eq_true (by omega)]
      · simp only [wickerref01_Quote.j1]
        rw [if_pos trivial, w64 (i := (b.toNat : Int)) (by omega) (by omega), Int.tdiv_eq_ediv_of_nonneg (by omega), Int.tmod_eq_emod_of_nonneg (by omega), w64 (i := (b.toNat : Int) / 16) (by omega) (by omega),
          show (b.toNat : Int) / 16 = ((b.toNat / 16 : Nat) : Int) by omega, show (b.toNat : Int) % 16 = ((b.toNat % 16 : Nat) : Int) by omega, hex_f _ (by omega), Option.bind_some, hex_f _ (by omega), Option.bind_some, Option.bind_some, if_pos (by simp only [List.length_cons, List.length_nil]; omega), he, e1]; rfl
    have hj : ∀ k, wickerref01_Quote.l0 (k + 1) s (numsL acc) (i : Int) = wickerref01_Quote.j1 k s (numsL acc) (i : Int) (b.toNat : Int) false := by
      intro k
      simp only [wickerref01_Quote.l0]
      rw [if_pos (by omega), if_pos (by omega), hb, if_neg (by omega), if_neg (by omega), if_neg (by omega), decide_eq_false (by omega)]
    by_cases hq : b.toNat = 34 ∨ b.toNat = 92
    · have he : escB b = [92, b] := by unfold escB; rw [if_neg h10, if_neg h9, if_neg hp, if_pos hq]
      refine Ev.step hj (Ev.step (fun k => ?_) key)
      simp only [wickerref01_Quote.j1]
      rw [if_neg (by simp)]
      by_cases h34 : (b.toNat : Int) = 34
      · rw [if_pos h34, Option.bind_some, if_pos (by simp only [List.length_cons, List.length_nil]; omega), he, e1]; rfl
      · rw [if_neg h34, if_pos (by omega), Option.bind_some, if_pos (by simp only [List.length_cons, List.length_nil]; omega), he, e1]; rfl
    · have he : escB b = [b] := by unfold escB; rw [if_neg h10, if_neg h9, if_neg hp, if_neg hq]
      refine Ev.step hj (Ev.step (fun k => ?_) key)
      simp only [wickerref01_Quote.j1]
      rw [if_neg (by simp), if_neg (by omega), if_neg (by omega), if_pos (by omega), he, e1]; rfl

theorem ref_quote_f (s : ByteArray) (hn : s.size ≤ 1000000000000) : Ev (fun k => wickerref01_Quote.f k s) ⟨(quoteL s.data.toList).toArray⟩ := by
  have := ref_quote_l0 s hn s.size 0 [34] (by omega) (by simp)
  refine Ev.eq this ?_
  simp [quoteL]
theorem quote_f (s : ByteArray) (hn : s.size ≤ 1000000000000) : names_Quote.f s = some ⟨(quoteL s.data.toList).toArray⟩ := by
  unfold names_Quote.f; rw [if_pos (by omega)]
end Go.Proofs.YtghdnijdbmekjaaDoor.Pure

namespace Go.Proofs.YtghdnijdbmekjaaDoor.Pure
open Go.RowKit Go.Proofs.YtghdnijdbmekjaaDoorW.PrintWords Go.Proofs.YtghdnijdbmekjaaDoor.H
theorem awake1_at : wickerlaw01_Awake.f 20 = some true := by kernel_rfl
theorem awake1 : Ev wickerlaw01_Awake.f true := Ev.of wickerlaw01_Awake.mono awake1_at
end Go.Proofs.YtghdnijdbmekjaaDoor.Pure
