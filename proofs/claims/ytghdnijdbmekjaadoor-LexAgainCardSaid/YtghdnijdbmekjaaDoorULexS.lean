/- What the two texts of 'Lex' answer: one relation between a text and its words. The two texts of 'Lex' answer what the relation tells. The program's word, and its text of words. The reference's text of words. -/
import Derived.Test.YtghdnijdbmekjaaDoorUNames0
import Derived.Test.YtghdnijdbmekjaaDoorUUnqS
import Derived.Test.YtghdnijdbmekjaaDoorHx10
import Derived.Test.YtghdnijdbmekjaaDoorHx17
set_option linter.unusedVariables false
set_option linter.unusedSimpArgs false
namespace Go.Proofs.YtghdnijdbmekjaaDoor.Pure
open Go.RowKit Go.Proofs.YtghdnijdbmekjaaDoorW.PrintWords Go.Proofs.YtghdnijdbmekjaaDoor.H

abbrev Tok := Int × ByteArray × Int
abbrev LexR := List Tok × Int × Int
def tokP (t : Tok) : S45 := ⟨t.1, t.2.1, t.2.2⟩
def tokR (t : Tok) : S41 := ⟨t.1, t.2.1, t.2.2⟩

/-- How many bytes stand ahead of the first c. -/
def cnt (c : Nat) : List UInt8 → Nat
  | [] => 0
  | b :: t => if b.toNat = c then 0 else cnt c t + 1
theorem cnt_le (c : Nat) (l : List UInt8) : cnt c l ≤ l.length := by
  induction l with
  | nil => simp [cnt]
  | cons b t ih => simp only [cnt, List.length_cons]; split <;> omega
theorem cnt_at (c : Nat) : ∀ (l : List UInt8) (h : cnt c l < l.length), (l[cnt c l]).toNat = c := by
  intro l
  induction l with
  | nil => intro h; simp at h
  | cons b t ih =>
    intro h
    simp only [cnt] at h ⊢
    by_cases hb : b.toNat = c
    · simp only [if_pos hb, List.getElem_cons_zero]; exact hb
    · simp only [if_neg hb, List.length_cons] at h ⊢
      simp only [List.getElem_cons_succ]
      exact ih (by omega)
theorem cnt_before (c : Nat) : ∀ (l : List UInt8) (i : Nat) (h : i < l.length), i < cnt c l → ¬ (l[i]).toNat = c := by
  intro l
  induction l with
  | nil => intro i h; simp at h
  | cons b t ih =>
    intro i h hi
    simp only [cnt] at hi
    by_cases hb : b.toNat = c
    · rw [if_pos hb] at hi; omega
    · rw [if_neg hb] at hi
      cases i with
      | zero => simpa using hb
      | succ i => simp only [List.getElem_cons_succ]; exact ih i (by simpa using h) (by omega)
theorem index_cnt (c : UInt8) (l : List UInt8) : Lib.indexByte l c = if cnt c.toNat l < l.length then (cnt c.toNat l : Int) else -1 := by
  induction l with
  | nil => simp [Lib.indexByte, cnt]
  | cons b t ih =>
    by_cases hb : b = c
    · subst hb
      have : cnt b.toNat (b :: t) = 0 := by simp [cnt]
      rw [this]; simp [Lib.indexByte]
    · have hb' : ¬ b.toNat = c.toNat := fun e => hb (UInt8.toNat_inj.1 e)
      have e : cnt c.toNat (b :: t) = cnt c.toNat t + 1 := by simp [cnt, hb']
      have hl : (b :: t).length = t.length + 1 := rfl
      have ei : Lib.indexByte (b :: t) c = if Lib.indexByte t c == -1 then -1 else Lib.indexByte t c + 1 := by
        simp only [Lib.indexByte]; rw [if_neg (by simpa using hb)]
      rw [e, hl, ei, ih]
      have := cnt_le c.toNat t
      by_cases h : cnt c.toNat t < t.length
      · rw [if_pos h, if_neg (by simp), if_pos (by omega)]; rfl
      · rw [if_neg h, if_neg (show ¬ cnt c.toNat t + 1 < t.length + 1 by omega)]; rfl

def blank (b : UInt8) : Prop := b.toNat = 32 ∨ b.toNat = 9 ∨ b.toNat = 10
instance (b : UInt8) : Decidable (blank b) := by unfold blank; infer_instance
/-- The word with which a text begins: kind, text, how many bytes, code. -/
def wordS (l : List UInt8) : Int × ByteArray × Int × Int :=
  match l with
  | [] => (0, E0, 0, 6)
  | b :: t =>
    if b.toNat = 60 then (if cnt 62 t < t.length then (if nameL (t.take (cnt 62 t)) = true then (0, ⟨(t.take (cnt 62 t)).toArray⟩, (cnt 62 t : Int) + 2, 0) else (0, E0, 0, 1)) else (0, E0, 0, 7))
    else if b.toNat = 34 then (1, (unquoteS l).1, (unquoteS l).2.1, (unquoteS l).2.2)
    else if l.take 3 = [58, 58, 61] then (2, E0, 3, 0)
    else if b.toNat = 124 then (3, E0, 1, 0)
    else if b.toNat = 59 then (4, E0, 1, 0)
    else (0, E0, 0, 6)
inductive Lexes : List Tok → Nat → List UInt8 → LexR → Prop where
  | done (acc : List Tok) (p : Nat) : Lexes acc p [] (acc ++ [(5, E0, (p : Int))], 0, 0)
  | blank {acc : List Tok} {p : Nat} {b t R} (h : blank b) (k : Lexes acc (p + 1) t R) : Lexes acc p (b :: t) R
  | remark {acc : List Tok} {p : Nat} {b t R} (h : b.toNat = 35) (k : Lexes acc (p + (cnt 10 t + 1)) (t.drop (cnt 10 t)) R) : Lexes acc p (b :: t) R
  | word {acc : List Tok} {p : Nat} {b t R} (h1 : ¬ blank b) (h2 : ¬ b.toNat = 35) (w : Int × ByteArray × Int × Int) (hw : wordS (b :: t) = w) (h0 : w.2.2.2 = 0) (m : Nat) (hm : w.2.2.1 = (m : Int)) (hm0 : 1 ≤ m) (hml : m ≤ t.length + 1)
      (k : Lexes (acc ++ [(w.1, w.2.1, (p : Int))]) (p + m) ((b :: t).drop m) R) : Lexes acc p (b :: t) R
  | wrong {acc : List Tok} {p : Nat} {b t} (h1 : ¬ blank b) (h2 : ¬ b.toNat = 35) (h0 : ¬ (wordS (b :: t)).2.2.2 = 0) : Lexes acc p (b :: t) ([], (p : Int), (wordS (b :: t)).2.2.2)

theorem unq_ok : ∀ (n : Nat) (acc : List UInt8) (p : Int) (l : List UInt8), (unq n acc p l).2.2 = 0 → p + 1 ≤ (unq n acc p l).2.1 ∧ (unq n acc p l).2.1 ≤ p + l.length := by
  intro n
  induction n with
  | zero => intro acc p l h; simp [unq] at h
  | succ n ih =>
    intro acc p l h
    cases l with
    | nil => simp [unq] at h
    | cons b t =>
      simp only [unq] at h ⊢
      simp only [List.length_cons]
      by_cases h34 : b.toNat = 34
      · rw [if_pos h34] at h ⊢
        by_cases hm : markL acc = true
        · rw [if_pos hm]; simp only []; omega
        · rw [if_neg hm] at h; simp at h
      rw [if_neg h34] at h ⊢
      by_cases h92 : b.toNat = 92
      · rw [if_pos h92] at h ⊢
        by_cases h0 : (escS t).2.2 = 0
        · rw [if_pos h0] at h ⊢
          have hok := escS_ok h0
          have := ih _ _ _ h
          rw [List.length_drop] at this
          omega
        · rw [if_neg h0] at h; exact absurd h h0
      rw [if_neg h92] at h ⊢
      by_cases hp : 32 ≤ b.toNat ∧ b.toNat < 127
      · rw [if_pos hp] at h ⊢
        have := ih _ _ _ h
        omega
      · rw [if_neg hp] at h; simp at h
theorem unquoteS_ok (l : List UInt8) (h : (unquoteS l).2.2 = 0) : 1 ≤ (unquoteS l).2.1 ∧ (unquoteS l).2.1 ≤ l.length := by
  cases l with
  | nil => simp [unquoteS] at h
  | cons b t =>
    simp only [unquoteS] at h ⊢
    by_cases h34 : b.toNat = 34
    · rw [if_pos h34] at h ⊢
      have := unq_ok _ _ _ _ h
      simp only [List.length_cons]; omega
    · rw [if_neg h34] at h; simp at h
theorem wordS_ok (b : UInt8) (t : List UInt8) (h : (wordS (b :: t)).2.2.2 = 0) : 1 ≤ (wordS (b :: t)).2.2.1 ∧ (wordS (b :: t)).2.2.1 ≤ (t.length : Int) + 1 := by
  simp only [wordS] at h ⊢
  by_cases h1 : b.toNat = 60
  · rw [if_pos h1] at h ⊢
    by_cases h2 : cnt 62 t < t.length
    · rw [if_pos h2] at h ⊢
      by_cases h3 : nameL (t.take (cnt 62 t)) = true
      · rw [if_pos h3]; simp only []; omega
      · rw [if_neg h3] at h; simp at h
    · rw [if_neg h2] at h; simp at h
  rw [if_neg h1] at h ⊢
  by_cases h2 : b.toNat = 34
  · rw [if_pos h2] at h ⊢
    have := unquoteS_ok (b :: t) h
    simpa using this
  rw [if_neg h2] at h ⊢
  by_cases h3 : (b :: t).take 3 = [58, 58, 61]
  · rw [if_pos h3]
    have := congrArg List.length h3
    simp only [List.length_take, List.length_cons, List.length_nil] at this
    simp only []; omega
  rw [if_neg h3] at h ⊢
  by_cases h4 : b.toNat = 124
  · rw [if_pos h4]; simp only []; omega
  rw [if_neg h4] at h ⊢
  by_cases h5 : b.toNat = 59
  · rw [if_pos h5]; simp only []; omega
  · rw [if_neg h5] at h; simp at h
theorem lexes_total : ∀ (n : Nat) (acc : List Tok) (p : Nat) (l : List UInt8), l.length < n → ∃ R, Lexes acc p l R := by
  intro n
  induction n with
  | zero => intro acc p l h; omega
  | succ n ih =>
    intro acc p l h
    cases l with
    | nil => exact ⟨_, .done acc p⟩
    | cons b t =>
      simp only [List.length_cons] at h
      by_cases hb : blank b
      · obtain ⟨R, hR⟩ := ih acc (p + 1) t (by omega)
        exact ⟨R, .blank hb hR⟩
      by_cases h35 : b.toNat = 35
      · obtain ⟨R, hR⟩ := ih acc (p + (cnt 10 t + 1)) (t.drop (cnt 10 t)) (by rw [List.length_drop]; omega)
        exact ⟨R, .remark h35 hR⟩
      by_cases h0 : (wordS (b :: t)).2.2.2 = 0
      · have hok := wordS_ok b t h0
        obtain ⟨m, hm⟩ := Int.eq_ofNat_of_zero_le (show 0 ≤ (wordS (b :: t)).2.2.1 by omega)
        obtain ⟨R, hR⟩ := ih (acc ++ [((wordS (b :: t)).1, (wordS (b :: t)).2.1, (p : Int))]) (p + m) ((b :: t).drop m) (by rw [List.length_drop, List.length_cons]; omega)
        exact ⟨R, .word hb h35 _ rfl h0 m hm (by omega) (by omega) hR⟩
      · exact ⟨_, .wrong hb h35 h0⟩
end Go.Proofs.YtghdnijdbmekjaaDoor.Pure

namespace Go.Proofs.YtghdnijdbmekjaaDoor.Pure
open Go.RowKit Go.Proofs.YtghdnijdbmekjaaDoorW.PrintWords Go.Proofs.YtghdnijdbmekjaaDoor.H

theorem Ev.unbind {α β : Type} {g : Nat → Option α} {F : Nat → α → Option β} {R : β} (hg : ∀ k, LeO (g k) (g (k + 1))) (h : Ev (fun k => (g k).bind (F k)) R) : ∃ a, Ev g a ∧ Ev (fun k => F k a) R := by
  obtain ⟨K, h⟩ := h
  have h0 := h K (Nat.le_refl _)
  obtain ⟨a, ha, _⟩ := Option.bind_eq_some_iff.1 h0
  refine ⟨a, Ev.of hg ha, K, fun k hk => ?_⟩
  have h1 := h k hk
  have h2 := at_rounds hg hk ha
  simp only [h2, Option.bind_some] at h1
  exact h1
theorem Ev.uniq {α : Type} {g : Nat → Option α} {a b : α} (h : Ev g a) (k : Ev g b) : a = b := by
  obtain ⟨K, h⟩ := h
  obtain ⟨K', k⟩ := k
  have h1 := h (max K K') (by omega)
  have h2 := k (max K K') (by omega)
  rw [h1] at h2
  exact Option.some.inj h2
theorem Ev.back {α : Type} {g f : Nat → Option α} {r : α} (n : Nat) (h : ∀ k, g (k + n) = f k) (k : Ev g r) : Ev f r := by
  obtain ⟨K, k⟩ := k
  exact ⟨K, fun m hm => by rw [← h]; exact k (m + n) (by omega)⟩

theorem drop_cons {l : List UInt8} {p : Nat} {b : UInt8} {t : List UInt8} (h : l.drop p = b :: t) : p < l.length ∧ l[p]? = some b ∧ l.drop (p + 1) = t := by
  have hp : p < l.length := by
    rcases Nat.lt_or_ge p l.length with h' | h'
    · exact h'
    · rw [List.drop_eq_nil_of_le h'] at h; cases h
  rw [List.drop_eq_getElem_cons hp] at h
  injection h with h1 h2
  exact ⟨hp, by rw [List.getElem?_eq_getElem hp, h1], h2⟩
theorem bt_drop {s : ByteArray} {p : Nat} {b : UInt8} {t : List UInt8} (h : s.data.toList.drop p = b :: t) : p < s.size ∧ bt s (p : Int) = (b.toNat : Int) := by
  obtain ⟨h1, h2, _⟩ := drop_cons h
  refine ⟨by rwa [data_length] at h1, ?_⟩
  rw [bt_get s p h1]
  rw [List.getElem?_eq_getElem h1] at h2
  rw [Option.some.inj h2]
theorem wr1 (s : ByteArray) (hn : s.size ≤ 1000000) (p : Nat) (h : p ≤ s.size) (i : Nat) (hi : i ≤ 100) : wrap64 ((p : Int) + (i : Int)) = ((p + i : Nat) : Int) := by rw [w64 (by omega) (by omega)]; omega

theorem skip_blank (s : ByteArray) (hn : s.size ≤ 1000000) {p : Nat} {b : UInt8} {t : List UInt8} (h : s.data.toList.drop p = b :: t) (hb : blank b) (k : Nat) : lex_skip.l0 (k + 2) s (p : Int) = lex_skip.l0 k s ((p + 1 : Nat) : Int) := by
  obtain ⟨h1, h2⟩ := bt_drop h
  have e1 := wr1 s hn p (by omega) 1 (by omega)
  have hj : ∀ q, q = true → lex_skip.j1 (k + 1) s (p : Int) q = lex_skip.l0 k s ((p + 1 : Nat) : Int) := fun q hq => by
    rw [lex_skip.j1, if_pos hq, show (1 : Int) = ((1 : Nat) : Int) from rfl, e1]
  unfold blank at hb
  rw [show k + 2 = (k + 1) + 1 from rfl, lex_skip.l0, if_pos (by omega), if_pos (by omega), h2, if_neg (by omega)]
  by_cases h32 : (b.toNat : Int) = 32
  · rw [if_pos h32]; exact hj _ (by rw [h32]; rfl)
  rw [if_neg h32]
  by_cases h9 : (b.toNat : Int) = 9
  · rw [if_pos h9]; exact hj _ (by rw [h9]; rfl)
  rw [if_neg h9]
  exact hj _ (by rw [show (b.toNat : Int) = 10 by omega]; rfl)
theorem skip_stop (s : ByteArray) (hn : s.size ≤ 1000000) {p : Nat} {b : UInt8} {t : List UInt8} (h : s.data.toList.drop p = b :: t) (hb : ¬ blank b) (h35 : ¬ b.toNat = 35) (k : Nat) : lex_skip.l0 (k + 2) s (p : Int) = some (p : Int) := by
  obtain ⟨h1, h2⟩ := bt_drop h
  unfold blank at hb
  rw [show k + 2 = (k + 1) + 1 from rfl, lex_skip.l0, if_pos (by omega), if_pos (by omega), h2, if_neg (by omega), if_neg (by omega), if_neg (by omega), lex_skip.j1, if_neg (by simp; omega)]
theorem skip_end (s : ByteArray) (hn : s.size ≤ 1000000) {p : Nat} (h : s.data.toList.drop p = []) (hp : p ≤ s.size) (k : Nat) : lex_skip.l0 (k + 1) s (p : Int) = some (p : Int) ∧ p = s.size := by
  have hl : s.size ≤ p := by
    have := congrArg List.length h
    rw [List.length_drop, data_length, List.length_nil] at this
    omega
  exact ⟨by rw [lex_skip.l0, if_neg (by omega)], by omega⟩
theorem skip_remark (s : ByteArray) (hn : s.size ≤ 1000000) {p : Nat} {b : UInt8} {t : List UInt8} (h : s.data.toList.drop p = b :: t) (h35 : b.toNat = 35) {a : Int} (hk : Ev (fun k => lex_skip.l0 k s ((p + (cnt 10 t + 1) : Nat) : Int)) a) : Ev (fun k => lex_skip.l0 k s (p : Int)) a := by
  obtain ⟨h1, h2⟩ := bt_drop h
  obtain ⟨_, _, h3⟩ := drop_cons h
  have hex : (s.extract p s.size).data.toList = b :: t := by rw [Lib.extract_to_end, h]
  have hlen : t.length + 1 + p = s.size := by
    have := congrArg List.length h
    rw [List.length_drop, data_length, List.length_cons] at this
    omega
  have hidx : strings_IndexByte.f (s.extract p s.size) 10 = some (if cnt 10 t < t.length then (cnt 10 t : Int) + 1 else -1) := by
    unfold strings_IndexByte.f
    rw [hex, show ((10 : Int).toNat.toUInt8) = (10 : UInt8) from rfl, index_cnt]
    have e : cnt (10 : UInt8).toNat (b :: t) = cnt 10 t + 1 := by
      show cnt 10 (b :: t) = _
      simp only [cnt]; rw [if_neg (by omega)]
    rw [e]
    simp only [List.length_cons]
    by_cases hc : cnt 10 t < t.length
    · rw [if_pos (by omega), if_pos hc]; rfl
    · rw [if_neg (by omega), if_neg hc]
  have hcl := cnt_le 10 t
  by_cases hc : cnt 10 t < t.length
  · rw [if_pos hc] at hidx
    have hd : s.data.toList.drop (p + (cnt 10 t + 1)) = t[cnt 10 t] :: t.drop (cnt 10 t + 1) := by
      rw [← List.drop_eq_getElem_cons hc, ← h3, List.drop_drop]; congr 1; omega
    have hnl : blank t[cnt 10 t] := Or.inr (Or.inr (cnt_at 10 t hc))
    have hk2 := Ev.back (g := fun k => lex_skip.l0 k s ((p + (cnt 10 t + 1) : Nat) : Int)) 2 (fun k => skip_blank s hn hd hnl k) hk
    refine Ev.step (fun k => ?_) hk2
    rw [lex_skip.l0, if_pos (by omega), if_pos (by omega), h2, if_pos (by omega), if_pos (by omega), show ((p : Int)).toNat = p by omega, hidx, Option.bind_some, if_neg (by omega), w64 (i := (p : Int) + ((cnt 10 t : Int) + 1)) (by omega) (by omega), w64 (by omega) (by omega), show (p : Int) + ((cnt 10 t : Int) + 1) + 1 = ((p + (cnt 10 t + 1) + 1 : Nat) : Int) by omega]
  · rw [if_neg hc] at hidx
    have he : cnt 10 t = t.length := by omega
    have hd : s.data.toList.drop (p + (cnt 10 t + 1)) = [] := List.drop_eq_nil_of_le (by rw [data_length]; omega)
    have := Ev.uniq hk (ev_nowS fun k => (skip_end s hn hd (by omega) k).1)
    refine ev_nowS fun k => ?_
    rw [lex_skip.l0, if_pos (by omega), if_pos (by omega), h2, if_pos (by omega), if_pos (by omega), show ((p : Int)).toNat = p by omega, hidx, Option.bind_some, if_pos (by omega), this]
    rw [show p + (cnt 10 t + 1) = s.size by omega]
end Go.Proofs.YtghdnijdbmekjaaDoor.Pure

namespace Go.Proofs.YtghdnijdbmekjaaDoor.Pure
open Go.RowKit Go.Proofs.YtghdnijdbmekjaaDoorW.PrintWords Go.Proofs.YtghdnijdbmekjaaDoor.H

theorem extract_list (s : ByteArray) (a b : Nat) : (s.extract a b).data.toList = (s.data.toList.drop a).take (b - a) := by
  rw [ByteArray.data_extract, Array.toList_extract]
  try rfl
theorem hasPrefix_f (s : ByteArray) (hn : s.size ≤ 1000000) : strings_HasPrefix.f s (⟨#[58, 58, 61]⟩ : ByteArray) = some (decide (s.data.toList.take 3 = [58, 58, 61])) := by
  unfold strings_HasPrefix.f stringslite_HasPrefix.f
  have h3 : (⟨#[58, 58, 61]⟩ : ByteArray).size = 3 := rfl
  rw [h3]
  have hl := data_length s
  by_cases h : 3 ≤ s.size
  · rw [if_pos (by omega), if_pos (by omega), if_pos (by omega), Option.bind_some, toList_data, toList_data, extract_list]
    show some ((s.data.toList.drop 0).take 3 == [58, 58, 61]) = _
    rw [List.drop_zero]
    congr 1
    rw [Bool.eq_iff_iff]; simp
  · rw [if_neg (by omega), Option.bind_some]
    rw [decide_eq_false]
    intro e
    have := congrArg List.length e
    simp only [List.length_take, List.length_cons, List.length_nil] at this
    omega
theorem name_word (s : ByteArray) (hn : s.size ≤ 1000000) (b : UInt8) (t : List UInt8) (h : s.data.toList = b :: t) (h60 : b.toNat = 60) :
    Ev (fun k => lex_name.f k s) (if cnt 62 t < t.length then (if nameL (t.take (cnt 62 t)) = true then (⟨(t.take (cnt 62 t)).toArray⟩, (cnt 62 t : Int) + 2, 0) else (E0, 0, 1)) else (E0, 0, 7)) := by
  unfold lex_name.f
  have hl := data_length s
  rw [h, List.length_cons] at hl
  have hcl := cnt_le 62 t
  have hidx : strings_IndexByte.f s 62 = some (if cnt 62 t < t.length then (cnt 62 t : Int) + 1 else -1) := by
    unfold strings_IndexByte.f
    rw [h, show ((62 : Int).toNat.toUInt8) = (62 : UInt8) from rfl, index_cnt]
    have e : cnt (62 : UInt8).toNat (b :: t) = cnt 62 t + 1 := by
      show cnt 62 (b :: t) = _
      simp only [cnt]; rw [if_neg (by omega)]
    rw [e]
    simp only [List.length_cons]
    by_cases hc : cnt 62 t < t.length
    · rw [if_pos (by omega), if_pos hc]; rfl
    · rw [if_neg (by omega), if_neg hc]
  by_cases hc : cnt 62 t < t.length
  · rw [if_pos hc] at hidx ⊢
    refine Ev.got hidx (Ev.neg (by omega) (Ev.pos (by omega) (Ev.pos (by omega) ?_)))
    have hex : (s.extract 1 ((cnt 62 t : Int) + 1).toNat) = ⟨(t.take (cnt 62 t)).toArray⟩ := by
      apply ba_ext
      rw [extract_list, h, List.drop_one, List.tail_cons, show ((cnt 62 t : Int) + 1).toNat - 1 = cnt 62 t by omega]
    rw [hex]
    have hnm := name_f ⟨(t.take (cnt 62 t)).toArray⟩ (by rw [← data_length]; show (t.take (cnt 62 t)).length ≤ _; rw [List.length_take]; omega)
    refine Ev.bind hnm ?_
    by_cases hm : nameL (t.take (cnt 62 t)) = true
    · refine Ev.pos hm ?_
      rw [if_pos hm]
      refine ev_now fun k => ?_
      rw [w64 (by omega) (by omega), show (cnt 62 t : Int) + 1 + 1 = (cnt 62 t : Int) + 2 by omega]
    · refine Ev.neg hm ?_
      rw [if_neg hm]
      exact Ev.now _
  · rw [if_neg hc] at hidx ⊢
    exact Ev.got hidx (Ev.pos (by omega) (Ev.now _))
theorem word_f (s : ByteArray) (hn : s.size ≤ 1000000) (b : UInt8) (t : List UInt8) (h : s.data.toList = b :: t) :
    Ev (fun k => lex_word.f k s) ((wordS (b :: t)).1, (wordS (b :: t)).2.1, 0, (wordS (b :: t)).2.2.1, (wordS (b :: t)).2.2.2) := by
  unfold lex_word.f
  have hl := data_length s
  rw [h, List.length_cons] at hl
  have hb : bt s 0 = (b.toNat : Int) := by
    have := bt_get s 0 (by rw [h]; simp)
    simp only [h, List.getElem_cons_zero] at this
    exact this
  refine Ev.pos (by omega) ?_
  rw [hb]
  simp only [wordS]
  by_cases h60 : b.toNat = 60
  · rw [if_pos h60]
    refine Ev.pos (by omega) (Ev.bind (name_word s hn b t h h60) ?_)
    by_cases hc : cnt 62 t < t.length
    · simp only [if_pos hc]
      by_cases hm : nameL (t.take (cnt 62 t)) = true
      · simp only [if_pos hm]; exact Ev.now _
      · simp only [if_neg hm]; exact Ev.now _
    · simp only [if_neg hc]; exact Ev.now _
  rw [if_neg h60]
  refine Ev.neg (by omega) ?_
  by_cases h34 : b.toNat = 34
  · rw [if_pos h34]
    have := unquote_f s (by omega)
    rw [h] at this
    exact Ev.pos (by omega) (Ev.bind this (Ev.now _))
  rw [if_neg h34]
  refine Ev.neg (by omega) ?_
  have hp := hasPrefix_f s hn
  rw [h] at hp
  by_cases h3 : (b :: t).take 3 = [58, 58, 61]
  · rw [if_pos h3]
    rw [decide_eq_true h3] at hp
    exact Ev.got hp (Ev.pos rfl (Ev.now _))
  rw [if_neg h3]
  rw [decide_eq_false h3] at hp
  refine Ev.got hp (Ev.neg (by simp) ?_)
  by_cases h4 : b.toNat = 124
  · rw [if_pos h4]; exact Ev.pos (by omega) (Ev.now _)
  rw [if_neg h4]
  refine Ev.neg (by omega) ?_
  by_cases h5 : b.toNat = 59
  · rw [if_pos h5]; exact Ev.pos (by omega) (Ev.now _)
  rw [if_neg h5]
  exact Ev.neg (by omega) (Ev.now _)

theorem lex_of (s : ByteArray) (hn : s.size ≤ 1000000) {acc : List Tok} {p : Nat} {l : List UInt8} {R : LexR} (h : Lexes acc p l R) : l = s.data.toList.drop p → p ≤ s.size → acc.length ≤ p →
    Ev (fun k => (lex_skip.f k s (p : Int)).bind fun t => lex_Lex.l0 k s (acc.map tokP) t) (R.1.map tokP, R.2.1, R.2.2) := by
  induction h with
  | done acc p =>
    intro hl hp ha
    refine Ev.bind (a := (p : Int)) (ev_nowS fun k => (skip_end s hn hl.symm hp k).1) (ev_nowS fun k => ?_)
    have := (skip_end s hn hl.symm hp 0).2
    rw [lex_Lex.l0, if_neg (by omega), if_pos (by rw [List.length_map]; omega)]
    simp only [List.map_append, List.map_cons, List.map_nil, tokP, this]
  | blank hb k ih =>
    intro hl hp ha
    obtain ⟨h1, h2⟩ := bt_drop hl.symm
    obtain ⟨_, _, h3⟩ := drop_cons hl.symm
    obtain ⟨a, e1, e2⟩ := Ev.unbind (lex_skip.mono _ _) (ih h3.symm (by omega) (by omega))
    exact Ev.bind (Ev.step (f := fun k => lex_skip.l0 k.succ s _) (fun k => rfl) (Ev.step (f := fun k => lex_skip.l0 k s _) (fun k => skip_blank s hn hl.symm hb k) e1)) e2
  | @remark acc_ p_ b_ t_ R_ h35 k ih =>
    intro hl hp ha
    obtain ⟨h1, h2⟩ := bt_drop hl.symm
    obtain ⟨_, _, h3⟩ := drop_cons hl.symm
    have hlen := congrArg List.length h3
    rw [List.length_drop, data_length] at hlen
    have hcl := cnt_le 10 (s.data.toList.drop (p_ + 1))
    obtain ⟨a, e1, e2⟩ := Ev.unbind (lex_skip.mono _ _) (ih (by rw [← h3, List.drop_drop]; congr 1; omega) (by rw [h3] at hcl; omega) (by omega))
    exact Ev.bind (skip_remark s hn hl.symm h35 e1) e2
  | @word acc_ p_ b_ t_ R_ h1 h2 w hw h0 m hm hm0 hml k ih =>
    intro hl hp ha
    obtain ⟨g1, g2⟩ := bt_drop hl.symm
    have hlen := congrArg List.length hl
    rw [List.length_drop, data_length, List.length_cons] at hlen
    refine Ev.bind (Ev.step (f := fun k => lex_skip.l0 k.succ s _) (fun k => rfl) (ev_nowS fun k => skip_stop s hn hl.symm h1 h2 k)) ?_
    have hex : (s.extract p_ s.size).data.toList = b_ :: t_ := by rw [Lib.extract_to_end, ← hl]
    have hwf := word_f (s.extract p_ s.size) (by rw [← data_length, hex, List.length_cons]; omega) b_ t_ hex
    rw [hw] at hwf
    refine Ev.step (fun k => ?_) (Ev.bind hwf (f := fun k bt135 => if bt135.2.2.2.2 = 0 then (if (acc_.map tokP).length < 4398046511104 then ((lex_skip.f k s (wrap64 ((p_ : Int) + bt135.2.2.2.1))).bind fun t144 => (lex_Lex.l0 k s (acc_.map tokP ++ [(⟨bt135.1, bt135.2.1, (p_ : Int)⟩ : S45)]) t144)) else none) else some (([] : List S45), (p_ : Int), bt135.2.2.2.2)) (Ev.pos h0 (Ev.pos (by rw [List.length_map]; omega) ?_)))
    · rw [lex_Lex.l0, if_pos (by omega), if_pos (by omega), if_pos (by omega)]; rfl
    · simp only [hm]
      rw [w64 (by omega) (by omega), show (p_ : Int) + (m : Int) = ((p_ + m : Nat) : Int) by omega]
      have := ih (by rw [hl, List.drop_drop]) (by omega) (by rw [List.length_append]; simp; omega)
      rw [List.map_append] at this
      exact this
  | @wrong acc_ p_ b_ t_ h1 h2 h0 =>
    intro hl hp ha
    obtain ⟨g1, g2⟩ := bt_drop hl.symm
    have hlen := congrArg List.length hl
    rw [List.length_drop, data_length, List.length_cons] at hlen
    refine Ev.bind (Ev.step (f := fun k => lex_skip.l0 k.succ s _) (fun k => rfl) (ev_nowS fun k => skip_stop s hn hl.symm h1 h2 k)) ?_
    have hex : (s.extract p_ s.size).data.toList = b_ :: t_ := by rw [Lib.extract_to_end, ← hl]
    have hwf := word_f (s.extract p_ s.size) (by rw [← data_length, hex, List.length_cons]; omega) b_ t_ hex
    refine Ev.step (fun k => ?_) (Ev.bind hwf (f := fun k bt135 => if bt135.2.2.2.2 = 0 then (if (acc_.map tokP).length < 4398046511104 then ((lex_skip.f k s (wrap64 ((p_ : Int) + bt135.2.2.2.1))).bind fun t144 => (lex_Lex.l0 k s (acc_.map tokP ++ [(⟨bt135.1, bt135.2.1, (p_ : Int)⟩ : S45)]) t144)) else none) else some (([] : List S45), (p_ : Int), bt135.2.2.2.2)) (Ev.neg h0 (Ev.now _)))
    rw [lex_Lex.l0, if_pos (by omega), if_pos (by omega), if_pos (by omega)]; rfl
end Go.Proofs.YtghdnijdbmekjaaDoor.Pure

namespace Go.Proofs.YtghdnijdbmekjaaDoor.Pure
open Go.RowKit Go.Proofs.YtghdnijdbmekjaaDoorW.PrintWords Go.Proofs.YtghdnijdbmekjaaDoor.H

abbrev RR := List S41 × Int × Int
theorem ref_l1 (s : ByteArray) (hn : s.size ≤ 1000000) (A : List S41) (R : RR) : ∀ (l : List UInt8) (q : Nat), l = s.data.toList.drop q → q ≤ s.size → Ev (fun k => wickerref05_Lex.l0 k s A ((q + cnt 10 l : Nat) : Int)) R → Ev (fun k => wickerref05_Lex.l1 k s A (q : Int)) R := by
  intro l
  induction l with
  | nil =>
    intro q hl hq h
    have he := (skip_end s hn hl.symm hq 0).2
    refine Ev.step (fun k => ?_) h
    rw [wickerref05_Lex.l1, if_neg (by omega)]; rfl
  | cons b t ih =>
    intro q hl hq h
    obtain ⟨h1, h2⟩ := bt_drop hl.symm
    obtain ⟨_, _, h3⟩ := drop_cons hl.symm
    by_cases hb : b.toNat = 10
    · have e : cnt 10 (b :: t) = 0 := by simp [cnt, hb]
      rw [e] at h
      refine Ev.step (fun k => ?_) h
      rw [wickerref05_Lex.l1, if_pos (by omega), if_pos (by omega), h2, if_pos (by omega)]; rfl
    · have e : cnt 10 (b :: t) = cnt 10 t + 1 := by simp [cnt, hb]
      rw [e] at h
      refine Ev.step (fun k => ?_) (ih (q + 1) h3.symm (by omega) (by rw [show q + 1 + cnt 10 t = q + (cnt 10 t + 1) by omega]; exact h))
      rw [wickerref05_Lex.l1, if_pos (by omega), if_pos (by omega), h2, if_neg (by omega), w64 (by omega) (by omega)]; rfl
theorem ref_l2 (s : ByteArray) (hn : s.size ≤ 1000000) (A : List S41) (R : RR) (p a : Int) (c : ByteArray) (d : Int) : ∀ (l : List UInt8) (q : Nat), l = s.data.toList.drop q → q ≤ s.size → Ev (fun k => wickerref05_Lex.j4 k s A p ((q + cnt 62 l : Nat) : Int) a c d) R → Ev (fun k => wickerref05_Lex.l2 k s A p (q : Int) a c d) R := by
  intro l
  induction l with
  | nil =>
    intro q hl hq h
    have he := (skip_end s hn hl.symm hq 0).2
    refine Ev.step (fun k => ?_) h
    rw [wickerref05_Lex.l2, if_neg (by omega)]; rfl
  | cons b t ih =>
    intro q hl hq h
    obtain ⟨h1, h2⟩ := bt_drop hl.symm
    obtain ⟨_, _, h3⟩ := drop_cons hl.symm
    by_cases hb : b.toNat = 62
    · have e : cnt 62 (b :: t) = 0 := by simp [cnt, hb]
      rw [e] at h
      refine Ev.step (fun k => ?_) h
      rw [wickerref05_Lex.l2, if_pos (by omega), if_pos (by omega), h2, if_pos (by omega)]; rfl
    · have e : cnt 62 (b :: t) = cnt 62 t + 1 := by simp [cnt, hb]
      rw [e] at h
      refine Ev.step (fun k => ?_) (ih (q + 1) h3.symm (by omega) (by rw [show q + 1 + cnt 62 t = q + (cnt 62 t + 1) by omega]; exact h))
      rw [wickerref05_Lex.l2, if_pos (by omega), if_pos (by omega), h2, if_neg (by omega), w64 (by omega) (by omega)]; rfl
theorem ref_word (s : ByteArray) (hn : s.size ≤ 1000000) (A : List S41) (hA : A.length < 1000001) (R : RR) (p : Nat) (b : UInt8) (t : List UInt8) (hl : b :: t = s.data.toList.drop p) (h35 : ¬ b.toNat = 35)
    (w : Int × ByteArray × Int × Int) (hw : wordS (b :: t) = w)
    (h0 : w.2.2.2 = 0 → Ev (fun k => wickerref05_Lex.l0 k s (A ++ [tokR (w.1, w.2.1, (p : Int))]) ((p : Int) + w.2.2.1)) R) (h1 : ¬ w.2.2.2 = 0 → R = ([], (p : Int), w.2.2.2)) :
    Ev (fun k => wickerref05_Lex.j1 k s A (p : Int) (b.toNat : Int) false) R := by
  obtain ⟨g1, g2⟩ := bt_drop hl.symm
  obtain ⟨_, _, g3⟩ := drop_cons hl.symm
  have hlen := congrArg List.length hl
  rw [List.length_drop, data_length, List.length_cons] at hlen
  have hA2 : A.length < 4398046511104 := by omega
  have e1 : wrap64 ((p : Int) + 1) = ((p + 1 : Nat) : Int) := by rw [w64 (by omega) (by omega)]; omega
  have e2 : wrap64 ((p : Int) + 2) = ((p + 2 : Nat) : Int) := by rw [w64 (by omega) (by omega)]; omega
  simp only [wordS] at hw
  by_cases h60 : b.toNat = 60
  · rw [if_pos h60] at hw
    refine Ev.step (f := fun k => wickerref05_Lex.l2 k s A (p : Int) ((p + 1 : Nat) : Int) 0 E0 (p : Int)) (fun k => by rw [wickerref05_Lex.j1, if_neg (by simp), if_neg (by omega), if_pos (by omega), e1]) ?_
    refine ref_l2 s hn A R _ _ _ _ t (p + 1) g3.symm (by omega) ?_
    have hcl := cnt_le 62 t
    by_cases hc : cnt 62 t < t.length
    · rw [if_pos hc] at hw
      have hex : s.extract (p + 1) (p + 1 + cnt 62 t) = ⟨(t.take (cnt 62 t)).toArray⟩ := by
        apply ba_ext
        rw [extract_list, g3, show p + 1 + cnt 62 t - (p + 1) = cnt 62 t by omega]
      have hnm := ref_name_f ⟨(t.take (cnt 62 t)).toArray⟩ (by rw [← data_length]; show (t.take (cnt 62 t)).length ≤ _; rw [List.length_take]; omega)
      refine Ev.step (f := fun k => (wickerref01_Name.f k ⟨(t.take (cnt 62 t)).toArray⟩).bind fun t255 => if t255 = true then (wickerref05_Lex.l0 k s (A ++ [(⟨0, ⟨(t.take (cnt 62 t)).toArray⟩, (p : Int)⟩ : S41)]) (wrap64 (((p + 1 + cnt 62 t : Nat) : Int) + 1))) else some ([], (p : Int), 1)) (fun k => ?_) (Ev.bind hnm ?_)
      · rw [wickerref05_Lex.j4, if_neg (by omega), e1, if_pos (by omega), if_pos (by omega), if_pos (by omega)]
        simp only [Int.toNat_natCast, hex, if_pos hA2]
      · by_cases hm : nameL (t.take (cnt 62 t)) = true
        · rw [if_pos hm] at hw
          subst hw
          refine Ev.pos hm ?_
          have := h0 rfl
          rw [w64 (by omega) (by omega), show ((p + 1 + cnt 62 t : Nat) : Int) + 1 = (p : Int) + ((cnt 62 t : Int) + 2) by omega]
          exact this
        · rw [if_neg hm] at hw
          subst hw
          rw [h1 (by simp)]
          exact Ev.neg hm (Ev.now _)
    · rw [if_neg hc] at hw
      subst hw
      rw [h1 (by simp)]
      exact ev_nowS fun k => by rw [wickerref05_Lex.j4, if_pos (by omega)]
  rw [if_neg h60] at hw
  by_cases h34 : b.toNat = 34
  · rw [if_pos h34] at hw
    have hex : (s.extract p s.size).data.toList = b :: t := by rw [Lib.extract_to_end, ← hl]
    have hu := ref_unquote_f (s.extract p s.size) (by rw [← data_length, hex, List.length_cons]; omega)
    rw [hex] at hu
    subst hw
    refine Ev.step (f := fun k => (wickerref01_Unquote.f k (s.extract p s.size)).bind fun x => if x.2.2 = 0 then (wickerref05_Lex.l0 k s (A ++ [(⟨1, x.1, (p : Int)⟩ : S41)]) (wrap64 ((p : Int) + x.2.1))) else some ([], (p : Int), x.2.2)) (fun k => ?_) (Ev.bind hu ?_)
    · rw [wickerref05_Lex.j1, if_neg (by simp), if_neg (by omega), if_neg (by omega), if_pos (by omega), if_pos (by omega), if_pos (by omega)]
      simp only [Int.toNat_natCast, if_pos hA2]
    · by_cases hz : (unquoteS (b :: t)).2.2 = 0
      · have hok := unquoteS_ok _ hz
        simp only [List.length_cons] at hok
        refine Ev.pos hz ?_
        rw [w64 (by omega) (by omega)]
        exact h0 hz
      · rw [h1 hz]
        exact Ev.neg hz (Ev.now _)
  rw [if_neg h34] at hw
  have hstep : ∀ k, wickerref05_Lex.j1 (k + 1) s A (p : Int) (b.toNat : Int) false = (if (b.toNat : Int) = 58 then (if (wrap64 ((p : Int) + 2)) ≥ (s.size : Int) then (some (([] : List S41), (p : Int), 6)) else (if 0 ≤ (wrap64 ((p : Int) + 1)) then (if (wrap64 ((p : Int) + 1)) < (s.size : Int) then (if (bt s (wrap64 ((p : Int) + 1))) = 58 then (if 0 ≤ (wrap64 ((p : Int) + 2)) then (if (wrap64 ((p : Int) + 2)) < (s.size : Int) then (if (bt s (wrap64 ((p : Int) + 2))) = 61 then (if A.length < 4398046511104 then (wickerref05_Lex.l0 k s (A ++ [(⟨2, E0, (p : Int)⟩ : S41)]) (wrap64 ((p : Int) + 3))) else (none)) else (some (([] : List S41), (p : Int), 6))) else (none)) else (none)) else (some (([] : List S41), (p : Int), 6))) else (none)) else (none))) else (if (b.toNat : Int) = 124 then (if A.length < 4398046511104 then (wickerref05_Lex.l0 k s (A ++ [(⟨3, E0, (p : Int)⟩ : S41)]) (wrap64 ((p : Int) + 1))) else (none)) else (if (b.toNat : Int) = 59 then (if A.length < 4398046511104 then (wickerref05_Lex.l0 k s (A ++ [(⟨4, E0, (p : Int)⟩ : S41)]) (wrap64 ((p : Int) + 1))) else (none)) else (some (([] : List S41), (p : Int), 6))))) := by
    intro k
    rw [wickerref05_Lex.j1, if_neg (by simp), if_neg (by omega), if_neg (by omega), if_neg (by omega)]
  by_cases h3 : (b :: t).take 3 = [58, 58, 61]
  · rw [if_pos h3] at hw
    obtain ⟨c, d, r, rfl⟩ : ∃ c d r, t = c :: d :: r := by
      match t, h3 with
      | c :: d :: r, _ => exact ⟨c, d, r, rfl⟩
      | [], h => simp at h
      | [_], h => simp at h
    simp only [List.take_succ_cons, List.take_zero, List.cons.injEq, and_true] at h3
    obtain ⟨rfl, rfl, rfl⟩ := h3
    obtain ⟨q1, q2⟩ := bt_drop (p := p + 1) g3
    obtain ⟨_, _, g4⟩ := drop_cons g3
    obtain ⟨q3, q4⟩ := bt_drop (p := p + 1 + 1) g4
    subst hw
    have := h0 rfl
    refine Ev.step (fun k => ?_) this
    rw [hstep, if_pos (by decide), e1, e2, if_neg (by omega), if_pos (by omega), if_pos (by omega), q2, if_pos (by decide), if_pos (by omega), if_pos (by omega), q4, if_pos (by decide), if_pos hA2, w64 (by omega) (by omega)]
    rfl
  rw [if_neg h3] at hw
  by_cases h58 : b.toNat = 58
  · rw [if_neg (by omega), if_neg (by omega)] at hw
    subst hw
    rw [h1 (by simp)]
    refine ev_nowS fun k => ?_
    have hb58 : b = 58 := UInt8.toNat_inj.1 h58
    rw [hstep, if_pos (by omega), e1, e2]
    by_cases hs : ((p + 2 : Nat) : Int) ≥ (s.size : Int)
    · rw [if_pos hs]
    rw [if_neg hs, if_pos (by omega), if_pos (by omega)]
    obtain ⟨c, d, r, rfl⟩ : ∃ c d r, t = c :: d :: r := by
      match t, hlen with
      | c :: d :: r, _ => exact ⟨c, d, r, rfl⟩
      | [], h => simp at h; omega
      | [_], h => simp at h; omega
    obtain ⟨q1, q2⟩ := bt_drop (p := p + 1) g3
    obtain ⟨_, _, g4⟩ := drop_cons g3
    obtain ⟨q3, q4⟩ := bt_drop (p := p + 1 + 1) g4
    rw [q2]
    by_cases hc : (c.toNat : Int) = 58
    · rw [if_pos hc, if_pos (by omega), if_pos (by omega), q4, if_neg ?_]
      intro hd
      apply h3
      have hc2 : c = 58 := UInt8.toNat_inj.1 (by show c.toNat = 58; omega)
      have hd2 : d = 61 := UInt8.toNat_inj.1 (by show d.toNat = 61; omega)
      rw [hb58, hc2, hd2]; rfl
    · rw [if_neg hc]
  by_cases h4 : b.toNat = 124
  · rw [if_pos h4] at hw
    subst hw
    have := h0 rfl
    refine Ev.step (fun k => ?_) this
    rw [hstep, if_neg (by omega), if_pos (by omega), if_pos hA2, w64 (by omega) (by omega)]
    rfl
  rw [if_neg h4] at hw
  by_cases h5 : b.toNat = 59
  · rw [if_pos h5] at hw
    subst hw
    have := h0 rfl
    refine Ev.step (fun k => ?_) this
    rw [hstep, if_neg (by omega), if_neg (by omega), if_pos (by omega), if_pos hA2, w64 (by omega) (by omega)]
    rfl
  rw [if_neg h5] at hw
  subst hw
  rw [h1 (by simp)]
  refine ev_nowS fun k => ?_
  rw [hstep, if_neg (by omega), if_neg (by omega), if_neg (by omega)]

theorem ref_enter (s : ByteArray) (A : List S41) (p : Nat) (b : UInt8) (t : List UInt8) (hl : b :: t = s.data.toList.drop p) (k : Nat) : wickerref05_Lex.l0 (k + 1) s A (p : Int) = wickerref05_Lex.j1 k s A (p : Int) (b.toNat : Int) (decide (blank b)) := by
  obtain ⟨g1, g2⟩ := bt_drop hl.symm
  rw [wickerref05_Lex.l0, if_pos (by omega), if_pos (by omega), g2]
  by_cases h32 : (b.toNat : Int) = 32
  · rw [if_pos h32, decide_eq_true (show blank b from Or.inl (by omega))]
  rw [if_neg h32]
  by_cases h9 : (b.toNat : Int) = 9
  · rw [if_pos h9, decide_eq_true (show blank b from Or.inr (Or.inl (by omega)))]
  rw [if_neg h9]
  congr 1
  by_cases h10 : b.toNat = 10
  · rw [decide_eq_true (show blank b from Or.inr (Or.inr h10)), show (b.toNat : Int) = 10 by omega]; rfl
  · rw [decide_eq_false (by unfold blank; omega)]; simp; omega
theorem ref_lex_of (s : ByteArray) (hn : s.size ≤ 1000000) {acc : List Tok} {p : Nat} {l : List UInt8} {R : LexR} (h : Lexes acc p l R) : l = s.data.toList.drop p → p ≤ s.size → acc.length ≤ p →
    Ev (fun k => wickerref05_Lex.l0 k s (acc.map tokR) (p : Int)) (R.1.map tokR, R.2.1, R.2.2) := by
  induction h with
  | done acc p =>
    intro hl hp ha
    have := (skip_end s hn hl.symm hp 0).2
    refine ev_nowS fun k => ?_
    rw [wickerref05_Lex.l0, if_neg (by omega), if_pos (by rw [List.length_map]; omega)]
    simp only [List.map_append, List.map_cons, List.map_nil, tokR, this]
  | @blank acc_ p_ b_ t_ R_ hb k ih =>
    intro hl hp ha
    obtain ⟨h1, h2⟩ := bt_drop hl.symm
    obtain ⟨_, _, h3⟩ := drop_cons hl.symm
    refine Ev.step (ref_enter s _ p_ b_ t_ hl) (Ev.step (fun k => ?_) (ih h3.symm (by omega) (by omega)))
    rw [wickerref05_Lex.j1, if_pos (decide_eq_true hb), w64 (by omega) (by omega)]; rfl
  | @remark acc_ p_ b_ t_ R_ h35 k ih =>
    intro hl hp ha
    obtain ⟨h1, h2⟩ := bt_drop hl.symm
    obtain ⟨_, _, h3⟩ := drop_cons hl.symm
    have hlen := congrArg List.length h3
    rw [List.length_drop, data_length] at hlen
    have hcl := cnt_le 10 t_
    have hk := ih (by rw [← h3, List.drop_drop]; congr 1; omega) (by omega) (by omega)
    refine Ev.step (ref_enter s _ p_ b_ t_ hl) (Ev.step (f := fun k => wickerref05_Lex.l1 k s (acc_.map tokR) (p_ : Int)) (fun k => ?_) ?_)
    · rw [wickerref05_Lex.j1, if_neg (by simp; unfold blank; omega), if_pos (by omega)]
    · refine ref_l1 s hn _ _ (b_ :: t_) p_ hl hp ?_
      have e : cnt 10 (b_ :: t_) = cnt 10 t_ + 1 := by simp only [cnt]; rw [if_neg (by omega)]
      rw [e]; exact hk
  | @word acc_ p_ b_ t_ R_ h1 h2 w hw h0 m hm hm0 hml k ih =>
    intro hl hp ha
    obtain ⟨g1, g2⟩ := bt_drop hl.symm
    have hlen := congrArg List.length hl
    rw [List.length_drop, data_length, List.length_cons] at hlen
    have := ih (by rw [hl, List.drop_drop]) (by omega) (by rw [List.length_append]; simp; omega)
    refine Ev.step (ref_enter s _ p_ b_ t_ hl) ?_
    rw [decide_eq_false h1]
    refine ref_word s hn _ (by rw [List.length_map]; omega) _ p_ b_ t_ hl h2 w hw (fun _ => ?_) (fun h => absurd h0 h)
    rw [hm, show (p_ : Int) + (m : Int) = ((p_ + m : Nat) : Int) by omega]
    rw [List.map_append] at this
    exact this
  | @wrong acc_ p_ b_ t_ h1 h2 h0 =>
    intro hl hp ha
    refine Ev.step (ref_enter s _ p_ b_ t_ hl) ?_
    rw [decide_eq_false h1]
    obtain ⟨g1, g2⟩ := bt_drop hl.symm
    exact ref_word s hn _ (by rw [List.length_map]; omega) _ p_ b_ t_ hl h2 _ rfl (fun h => absurd h h0) (fun _ => rfl)
end Go.Proofs.YtghdnijdbmekjaaDoor.Pure
