/- What the two texts of 'Lex' answer: one relation between a text and its words. -/
import Derived.Test.YtghdnijdbmekjaaDoorUBase
import Derived.Test.YtghdnijdbmekjaaDoorUName
import Derived.Test.YtghdnijdbmekjaaDoorUUnq
import Derived.Test.YtghdnijdbmekjaaDoorUUnq2
import Derived.Test.YtghdnijdbmekjaaDoorGx11
import Derived.Test.YtghdnijdbmekjaaDoorGx16
set_option linter.unusedVariables false
set_option linter.unusedSimpArgs false
namespace Go.Proofs.YtghdnijdbmekjaaDoor.Pure
open Go.RowKit Go.Proofs.YtghdnijdbmekjaaDoorW.PrintWords Go.Proofs.YtghdnijdbmekjaaDoor.G

abbrev Tok := Int × ByteArray × Int
abbrev LexR := List Tok × Int × Int
def tokP (t : Tok) : S45 := ⟨t.1, t.2.1, t.2.2⟩
def tokR (t : Tok) : S41 := ⟨t.1, t.2.1, t.2.2⟩

/-- How many bytes stand ahead of the first c. -/
def cnt (c : Nat) : List UInt8 → Nat
  | [] => 0
  | b :: t => if b.toNat = c then 0 else cnt c t + 1
theorem cnt_le (c : Nat) (l : List UInt8) : cnt c l ≤ l.length := by
  induction l with
  | nil => simp [cnt]
  | cons b t ih => simp only [cnt, List.length_cons]; split <;> omega
theorem cnt_at (c : Nat) : ∀ (l : List UInt8) (h : cnt c l < l.length), (l[cnt c l]).toNat = c := by
  intro l
  induction l with
  | nil => intro h; simp at h
  | cons b t ih =>
    intro h
    simp only [cnt] at h ⊢
    by_cases hb : b.toNat = c
    · simp only [if_pos hb, List.getElem_cons_zero]; exact hb
    · simp only [if_neg hb, List.length_cons] at h ⊢
      simp only [List.getElem_cons_succ]
      exact ih (by omega)
theorem cnt_before (c : Nat) : ∀ (l : List UInt8) (i : Nat) (h : i < l.length), i < cnt c l → ¬ (l[i]).toNat = c := by
  intro l
  induction l with
  | nil => intro i h; simp at h
  | cons b t ih =>
    intro i h hi
    simp only [cnt] at hi
    by_cases hb : b.toNat = c
    · rw [if_pos hb] at hi; omega
    · rw [if_neg hb] at hi
      cases i with
      | zero => simpa using hb
      | succ i => simp only [List.getElem_cons_succ]; exact ih i (by simpa using h) (by omega)
theorem index_cnt (c : UInt8) (l : List UInt8) : Lib.indexByte l c = if cnt c.toNat l < l.length then (cnt c.toNat l : Int) else -1 := by
  induction l with
  | nil => simp [Lib.indexByte, cnt]
  | cons b t ih =>
    by_cases hb : b = c
    · subst hb
      have : cnt b.toNat (b :: t) = 0 := by simp [cnt]
      rw [this]; simp [Lib.indexByte]
    · have hb' : ¬ b.toNat = c.toNat := fun e => hb (UInt8.toNat_inj.1 e)
      have e : cnt c.toNat (b :: t) = cnt c.toNat t + 1 := by simp [cnt, hb']
      have hl : (b :: t).length = t.length + 1 := rfl
      have ei : Lib.indexByte (b :: t) c = if Lib.indexByte t c == -1 then -1 else Lib.indexByte t c + 1 := by
        simp only [Lib.indexByte]; rw [if_neg (by simpa using hb)]
      rw [e, hl, ei, ih]
      have := cnt_le c.toNat t
      by_cases h : cnt c.toNat t < t.length
      · rw [if_pos h, if_neg (by simp), if_pos (by omega)]; rfl
      · rw [if_neg h, if_neg (show ¬ cnt c.toNat t + 1 < t.length + 1 by omega)]; rfl

def blank (b : UInt8) : Prop := b.toNat = 32 ∨ b.toNat = 9 ∨ b.toNat = 10
instance (b : UInt8) : Decidable (blank b) := by unfold blank; infer_instance
/-- The word with which a text begins: kind, text, how many bytes, code. -/
def wordS (l : List UInt8) : Int × ByteArray × Int × Int :=
  match l with
  | [] => (0, E0, 0, 6)
  | b :: t =>
    if b.toNat = 60 then (if cnt 62 t < t.length then (if nameL (t.take (cnt 62 t)) = true then (0, ⟨(t.take (cnt 62 t)).toArray⟩, (cnt 62 t : Int) + 2, 0) else (0, E0, 0, 1)) else (0, E0, 0, 7))
    else if b.toNat = 34 then (1, (unquoteS l).1, (unquoteS l).2.1, (unquoteS l).2.2)
    else if l.take 3 = [58, 58, 61] then (2, E0, 3, 0)
    else if b.toNat = 124 then (3, E0, 1, 0)
    else if b.toNat = 59 then (4, E0, 1, 0)
    else (0, E0, 0, 6)
inductive Lexes : List Tok → Nat → List UInt8 → LexR → Prop where
  | done (acc : List Tok) (p : Nat) : Lexes acc p [] (acc ++ [(5, E0, (p : Int))], 0, 0)
  | blank {acc : List Tok} {p : Nat} {b t R} (h : blank b) (k : Lexes acc (p + 1) t R) : Lexes acc p (b :: t) R
  | remark {acc : List Tok} {p : Nat} {b t R} (h : b.toNat = 35) (k : Lexes acc (p + (cnt 10 t + 1)) (t.drop (cnt 10 t)) R) : Lexes acc p (b :: t) R
  | word {acc : List Tok} {p : Nat} {b t R} (h1 : ¬ blank b) (h2 : ¬ b.toNat = 35) (w : Int × ByteArray × Int × Int) (hw : wordS (b :: t) = w) (h0 : w.2.2.2 = 0) (m : Nat) (hm : w.2.2.1 = (m : Int)) (hm0 : 1 ≤ m) (hml : m ≤ t.length + 1)
      (k : Lexes (acc ++ [(w.1, w.2.1, (p : Int))]) (p + m) ((b :: t).drop m) R) : Lexes acc p (b :: t) R
  | wrong {acc : List Tok} {p : Nat} {b t} (h1 : ¬ blank b) (h2 : ¬ b.toNat = 35) (h0 : ¬ (wordS (b :: t)).2.2.2 = 0) : Lexes acc p (b :: t) ([], (p : Int), (wordS (b :: t)).2.2.2)

theorem unq_ok : ∀ (n : Nat) (acc : List UInt8) (p : Int) (l : List UInt8), (unq n acc p l).2.2 = 0 → p + 1 ≤ (unq n acc p l).2.1 ∧ (unq n acc p l).2.1 ≤ p + l.length := by
  intro n
  induction n with
  | zero => intro acc p l h; simp [unq] at h
  | succ n ih =>
    intro acc p l h
    cases l with
    | nil => simp [unq] at h
    | cons b t =>
      simp only [unq] at h ⊢
      simp only [List.length_cons]
      by_cases h34 : b.toNat = 34
      · rw [if_pos h34] at h ⊢
        by_cases hm : markL acc = true
        · rw [if_pos hm]; simp only []; omega
        · rw [if_neg hm] at h; simp at h
      rw [if_neg h34] at h ⊢
      by_cases h92 : b.toNat = 92
      · rw [if_pos h92] at h ⊢
        by_cases h0 : (escS t).2.2 = 0
        · rw [if_pos h0] at h ⊢
          have hok := escS_ok h0
          have := ih _ _ _ h
          rw [List.length_drop] at this
          omega
        · rw [if_neg h0] at h; exact absurd h h0
      rw [if_neg h92] at h ⊢
      by_cases hp : 32 ≤ b.toNat ∧ b.toNat < 127
      · rw [if_pos hp] at h ⊢
        have := ih _ _ _ h
        omega
      · rw [if_neg hp] at h; simp at h
theorem unquoteS_ok (l : List UInt8) (h : (unquoteS l).2.2 = 0) : 1 ≤ (unquoteS l).2.1 ∧ (unquoteS l).2.1 ≤ l.length := by
  cases l with
  | nil => simp [unquoteS] at h
  | cons b t =>
    simp only [unquoteS] at h ⊢
    by_cases h34 : b.toNat = 34
    · rw [if_pos h34] at h ⊢
      have := unq_ok _ _ _ _ h
      simp only [List.length_cons]; omega
    · rw [if_neg h34] at h; simp at h
theorem wordS_ok (b : UInt8) (t : List UInt8) (h : (wordS (b :: t)).2.2.2 = 0) : 1 ≤ (wordS (b :: t)).2.2.1 ∧ (wordS (b :: t)).2.2.1 ≤ (t.length : Int) + 1 := by
  simp only [wordS] at h ⊢
  by_cases h1 : b.toNat = 60
  · rw [if_pos h1] at h ⊢
    by_cases h2 : cnt 62 t < t.length
    · rw [if_pos h2] at h ⊢
      by_cases h3 : nameL (t.take (cnt 62 t)) = true
      · rw [if_pos h3]; simp only []; omega
      · rw [if_neg h3] at h; simp at h
    · rw [if_neg h2] at h; simp at h
  rw [if_neg h1] at h ⊢
  by_cases h2 : b.toNat = 34
  · rw [if_pos h2] at h ⊢
    have := unquoteS_ok (b :: t) h
    simpa using this
  rw [if_neg h2] at h ⊢
  by_cases h3 : (b :: t).take 3 = [58, 58, 61]
  · rw [if_pos h3]
    have := congrArg List.length h3
    simp only [List.length_take, List.length_cons, List.length_nil] at this
    simp only []; omega
  rw [if_neg h3] at h ⊢
  by_cases h4 : b.toNat = 124
  · rw [if_pos h4]; simp only []; omega
  rw [if_neg h4] at h ⊢
  by_cases h5 : b.toNat = 59
  · rw [if_pos h5]; simp only []; omega
  · rw [if_neg h5] at h; simp at h
theorem lexes_total : ∀ (n : Nat) (acc : List Tok) (p : Nat) (l : List UInt8), l.length < n → ∃ R, Lexes acc p l R := by
  intro n
  induction n with
  | zero => intro acc p l h; omega
  | succ n ih =>
    intro acc p l h
    cases l with
    | nil => exact ⟨_, .done acc p⟩
    | cons b t =>
      simp only [List.length_cons] at h
      by_cases hb : blank b
      · obtain ⟨R, hR⟩ := ih acc (p + 1) t (by omega)
        exact ⟨R, .blank hb hR⟩
      by_cases h35 : b.toNat = 35
      · obtain ⟨R, hR⟩ := ih acc (p + (cnt 10 t + 1)) (t.drop (cnt 10 t)) (by rw [List.length_drop]; omega)
        exact ⟨R, .remark h35 hR⟩
      by_cases h0 : (wordS (b :: t)).2.2.2 = 0
      · have hok := wordS_ok b t h0
        obtain ⟨m, hm⟩ := Int.eq_ofNat_of_zero_le (show 0 ≤ (wordS (b :: t)).2.2.1 by omega)
        obtain ⟨R, hR⟩ := ih (acc ++ [((wordS (b :: t)).1, (wordS (b :: t)).2.1, (p : Int))]) (p + m) ((b :: t).drop m) (by rw [List.length_drop, List.length_cons]; omega)
        exact ⟨R, .word hb h35 _ rfl h0 m hm (by omega) (by omega) hR⟩
      · exact ⟨_, .wrong hb h35 h0⟩
end Go.Proofs.YtghdnijdbmekjaaDoor.Pure
