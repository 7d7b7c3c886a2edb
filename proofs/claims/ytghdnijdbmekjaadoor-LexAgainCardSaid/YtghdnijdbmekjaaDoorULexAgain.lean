/- The pure statement of LexAgain: words rise by their places; written one behind the other, parted by blanks, they are the same words. -/
import Derived.Test.YtghdnijdbmekjaaDoorUAwake5
import Derived.Test.YtghdnijdbmekjaaDoorHx13
set_option linter.unusedVariables false
set_option linter.unusedSimpArgs false
namespace Go.Proofs.YtghdnijdbmekjaaDoor.Pure
open Go.RowKit Go.Proofs.YtghdnijdbmekjaaDoorW.PrintWords Go.Proofs.YtghdnijdbmekjaaDoor.H

/-- A word as a text. -/
def showL (k : Int) (x : List UInt8) : List UInt8 := if k = 0 then 60 :: (x ++ [62]) else if k = 1 then quoteL x else if k = 2 then [58, 58, 61] else if k = 3 then [124] else if k = 4 then [59] else []
/-- A word that is none of the end. -/
def Good (k : Int) (x : ByteArray) : Prop := (k = 0 ∧ nameL x.data.toList = true) ∨ (k = 1 ∧ markL x.data.toList = true) ∨ ((k = 2 ∨ k = 3 ∨ k = 4) ∧ x = E0)
theorem showL_le (k : Int) (x : List UInt8) : (showL k x).length ≤ 4 * x.length + 3 := by
  unfold showL
  split
  · simp; omega
  split
  · have := quoteL_le x; omega
  split
  · simp
  split
  · simp
  split <;> simp
theorem show_f (k : Int) (x : ByteArray) (a : Int) (hn : x.size ≤ 1000000) : wickerlaw05_show.f k x a = some ⟨(showL k x.data.toList).toArray⟩ := by
  unfold wickerlaw05_show.f showL
  by_cases h0 : k = 0
  · rw [if_pos h0, if_pos h0, if_pos (by omega), if_pos (by rw [ByteArray.size_append]; show 1 + x.size + 1 ≤ _; omega)]
    congr 1
  rw [if_neg h0, if_neg h0]
  by_cases h1 : k = 1
  · rw [if_pos h1, if_pos h1, quote_f x (by omega)]; rfl
  rw [if_neg h1, if_neg h1]
  by_cases h2 : k = 2
  · rw [if_pos h2, if_pos h2]
  rw [if_neg h2, if_neg h2]
  by_cases h3 : k = 3
  · rw [if_pos h3, if_pos h3]
  rw [if_neg h3, if_neg h3]
  by_cases h4 : k = 4
  · rw [if_pos h4, if_pos h4]
  rw [if_neg h4, if_neg h4]

theorem unq_good : ∀ (n : Nat) (acc : List UInt8) (p : Int) (l : List UInt8), (unq n acc p l).2.2 = 0 → markL (unq n acc p l).1.data.toList = true ∧ ((unq n acc p l).1.data.toList.length : Int) + p + 1 ≤ acc.length + (unq n acc p l).2.1 := by
  intro n
  induction n with
  | zero => intro acc p l h; simp [unq] at h
  | succ n ih =>
    intro acc p l h
    cases l with
    | nil => simp [unq] at h
    | cons b t =>
      simp only [unq] at h ⊢
      by_cases h34 : b.toNat = 34
      · rw [if_pos h34] at h ⊢
        by_cases hm : markL acc = true
        · rw [if_pos hm]; exact ⟨hm, by simp only [Array.length_toList, List.size_toArray]; omega⟩
        · rw [if_neg hm] at h; simp at h
      rw [if_neg h34] at h ⊢
      by_cases h92 : b.toNat = 92
      · rw [if_pos h92] at h ⊢
        by_cases h0 : (escS t).2.2 = 0
        · rw [if_pos h0] at h ⊢
          have hok := escS_ok h0
          have := ih _ _ _ h
          refine ⟨this.1, ?_⟩
          have := this.2
          rw [List.length_append, List.length_singleton] at this
          omega
        · rw [if_neg h0] at h; exact absurd h h0
      rw [if_neg h92] at h ⊢
      by_cases hp : 32 ≤ b.toNat ∧ b.toNat < 127
      · rw [if_pos hp] at h ⊢
        have := ih _ _ _ h
        refine ⟨this.1, ?_⟩
        have := this.2
        rw [List.length_append, List.length_singleton] at this
        omega
      · rw [if_neg hp] at h; simp at h
theorem unquoteS_good (l : List UInt8) (h : (unquoteS l).2.2 = 0) : markL (unquoteS l).1.data.toList = true ∧ ((unquoteS l).1.data.toList.length : Int) + 2 ≤ (unquoteS l).2.1 := by
  cases l with
  | nil => simp [unquoteS] at h
  | cons b t =>
    simp only [unquoteS] at h ⊢
    by_cases h34 : b.toNat = 34
    · rw [if_pos h34] at h ⊢
      have := unq_good _ _ _ _ h
      refine ⟨this.1, ?_⟩
      have := this.2
      simp only [List.length_nil] at this
      omega
    · rw [if_neg h34] at h; simp at h
theorem wordS_good (b : UInt8) (t : List UInt8) (h : (wordS (b :: t)).2.2.2 = 0) : Good (wordS (b :: t)).1 (wordS (b :: t)).2.1 ∧ ((showL (wordS (b :: t)).1 (wordS (b :: t)).2.1.data.toList).length : Int) + 1 ≤ 5 * (wordS (b :: t)).2.2.1 := by
  simp only [wordS] at h ⊢
  by_cases h1 : b.toNat = 60
  · rw [if_pos h1] at h ⊢
    by_cases h2 : cnt 62 t < t.length
    · rw [if_pos h2] at h ⊢
      by_cases h3 : nameL (t.take (cnt 62 t)) = true
      · rw [if_pos h3]
        refine ⟨Or.inl ⟨rfl, h3⟩, ?_⟩
        simp only [showL, if_true, List.length_cons, List.length_append, List.length_nil, List.length_take]
        omega
      · rw [if_neg h3] at h; simp at h
    · rw [if_neg h2] at h; simp at h
  rw [if_neg h1] at h ⊢
  by_cases h2 : b.toNat = 34
  · rw [if_pos h2] at h ⊢
    have := unquoteS_good (b :: t) h
    refine ⟨Or.inr (Or.inl ⟨rfl, this.1⟩), ?_⟩
    have := this.2
    simp only [showL]
    rw [if_neg (by omega), if_pos trivial]
    have := quoteL_le (unquoteS (b :: t)).1.data.toList
    omega
  rw [if_neg h2] at h ⊢
  by_cases h3 : (b :: t).take 3 = [58, 58, 61]
  · rw [if_pos h3]
    exact ⟨Or.inr (Or.inr ⟨Or.inl rfl, rfl⟩), by decide⟩
  rw [if_neg h3] at h ⊢
  by_cases h4 : b.toNat = 124
  · rw [if_pos h4]
    exact ⟨Or.inr (Or.inr ⟨Or.inr (Or.inl rfl), rfl⟩), by decide⟩
  rw [if_neg h4] at h ⊢
  by_cases h5 : b.toNat = 59
  · rw [if_pos h5]
    exact ⟨Or.inr (Or.inr ⟨Or.inr (Or.inr rfl), rfl⟩), by decide⟩
  · rw [if_neg h5] at h; simp at h
theorem cnt_app (c : Nat) (b : UInt8) (hb : b.toNat = c) (r : List UInt8) : ∀ x : List UInt8, (∀ d ∈ x, ¬ d.toNat = c) → cnt c (x ++ b :: r) = x.length := by
  intro x
  induction x with
  | nil => intro _; simp [cnt, hb]
  | cons d t ih =>
    intro h
    rw [List.cons_append, cnt, if_neg (h d (by simp)), ih (fun e he => h e (by simp [he]))]
    rfl
theorem name_no62 (x : List UInt8) (h : nameL x = true) : ∀ d ∈ x, ¬ d.toNat = 62 := by
  have key : ∀ d : UInt8, nameB d = true → ¬ d.toNat = 62 := by
    intro d hd e
    simp only [nameB, nameI, letterI, Bool.or_eq_true, decide_eq_true_eq] at hd
    omega
  intro d hd
  apply key
  cases x with
  | nil => simp at hd
  | cons a t =>
    simp only [nameL, Bool.and_eq_true, List.all_eq_true] at h
    rcases List.mem_cons.1 hd with rfl | hd
    · exact nameI_of_letter h.1.2
    · exact h.2 d hd
theorem show_word (k : Int) (x : ByteArray) (g : Good k x) (r : List UInt8) : wordS (showL k x.data.toList ++ r) = (k, x, ((showL k x.data.toList).length : Int), 0) := by
  rcases g with ⟨rfl, h⟩ | ⟨rfl, h⟩ | ⟨h, rfl⟩
  · have e : showL 0 x.data.toList = 60 :: (x.data.toList ++ [62]) := rfl
    have hc : cnt 62 ((x.data.toList ++ [62]) ++ r) = x.data.toList.length := by
      rw [List.append_assoc]
      exact cnt_app 62 62 rfl r _ (name_no62 _ h)
    rw [e, List.cons_append]
    simp only [wordS]
    rw [if_pos (by decide), hc, if_pos (by simp only [List.length_append, List.length_singleton]; omega), List.append_assoc, List.take_left, if_pos h]
    simp only [List.length_cons, List.length_append, List.length_nil]
    congr 3
  · have e : showL 1 x.data.toList = quoteL x.data.toList := rfl
    have hu := unquote_quote x.data.toList r
    rw [if_pos h] at hu
    rw [e]
    have e2 : quoteL x.data.toList ++ r = 34 :: ((x.data.toList.flatMap escB ++ [34]) ++ r) := rfl
    rw [e2] at hu ⊢
    simp only [wordS]
    rw [if_neg (by decide), if_pos (by decide), hu]
  · rcases h with rfl | rfl | rfl
    · show wordS (58 :: 58 :: 61 :: r) = _
      simp only [wordS]
      rw [if_neg (by decide), if_neg (by decide), if_pos (by simp)]
      rfl
    · show wordS (124 :: r) = _
      simp only [wordS]
      rw [if_neg (by decide), if_neg (by decide), if_neg (by intro e; rw [List.take_succ_cons] at e; injection e with e1 _; exact absurd e1 (by decide)), if_pos (by decide)]
      rfl
    · show wordS (59 :: r) = _
      simp only [wordS]
      rw [if_neg (by decide), if_neg (by decide), if_neg (by intro e; rw [List.take_succ_cons] at e; injection e with e1 _; exact absurd e1 (by decide)), if_neg (by decide), if_pos (by decide)]
      rfl
theorem show_head (k : Int) (x : ByteArray) (g : Good k x) : ∃ b t, showL k x.data.toList = b :: t ∧ ¬ blank b ∧ ¬ b.toNat = 35 := by
  rcases g with ⟨rfl, h⟩ | ⟨rfl, h⟩ | ⟨h, rfl⟩
  · exact ⟨60, _, rfl, by decide, by decide⟩
  · exact ⟨34, _, rfl, by decide, by decide⟩
  · rcases h with rfl | rfl | rfl
    · exact ⟨58, _, rfl, by decide, by decide⟩
    · exact ⟨124, _, rfl, by decide, by decide⟩
    · exact ⟨59, _, rfl, by decide, by decide⟩

/-- The words of a text, from one of its places to its end. -/
inductive Lok : Nat → List Tok → Nat → Prop where
  | fin {p q n : Nat} (h1 : p ≤ q) (h2 : q ≤ n) : Lok p [(5, E0, (q : Int))] n
  | tok {p q m n : Nat} {k : Int} {x : ByteArray} {L : List Tok} (h : p ≤ q) (hq : q + m ≤ n) (hm : 1 ≤ m) (g : Good k x) (hl : (showL k x.data.toList).length + 1 ≤ 5 * m) (r : Lok (q + m) L n) : Lok p ((k, x, (q : Int)) :: L) n
theorem Lok.less {p p' n : Nat} {L : List Tok} (h : Lok p L n) (hp : p' ≤ p) : Lok p' L n := by
  cases h with
  | fin h1 h2 => exact .fin (by omega) h2
  | tok h hq hm g hl r => exact .tok (by omega) hq hm g hl r
theorem lexes_lok {acc : List Tok} {p : Nat} {l : List UInt8} {R : LexR} (h : Lexes acc p l R) : R.2.2 = 0 → ∃ L, R.1 = acc ++ L ∧ Lok p L (p + l.length) := by
  induction h with
  | done acc p => intro _; exact ⟨_, rfl, .fin (Nat.le_refl _) (by omega)⟩
  | blank hb k ih =>
    intro h
    obtain ⟨L, e, hL⟩ := ih h
    refine ⟨L, e, ?_⟩
    rw [List.length_cons, ← Nat.add_assoc, Nat.add_right_comm]
    exact hL.less (by omega)
  | @remark acc_ p_ b_ t_ R_ h35 k ih =>
    intro h
    obtain ⟨L, e, hL⟩ := ih h
    refine ⟨L, e, ?_⟩
    have hc := cnt_le 10 t_
    rw [List.length_drop, show p_ + (cnt 10 t_ + 1) + (t_.length - cnt 10 t_) = p_ + (t_.length + 1) by omega] at hL
    exact hL.less (by omega)
  | @word acc_ p_ b_ t_ R_ h1 h2 w hw h0 m hm hm0 hml k ih =>
    intro h
    obtain ⟨L, e, hL⟩ := ih h
    have hg := wordS_good b_ t_ (by rw [hw]; exact h0)
    rw [hw] at hg
    refine ⟨(w.1, w.2.1, (p_ : Int)) :: L, by rw [e, List.append_assoc]; rfl, ?_⟩
    rw [List.length_drop, List.length_cons, show p_ + m + (t_.length + 1 - m) = p_ + (t_.length + 1) by omega] at hL
    exact .tok (Nat.le_refl _) (by rw [List.length_cons]; omega) hm0 hg.1 (by have := hg.2; omega) hL
  | wrong h1 h2 h0 => intro h; exact absurd h h0
theorem lexes_err {acc : List Tok} {p : Nat} {l : List UInt8} {R : LexR} (h : Lexes acc p l R) : ¬ R.2.2 = 0 → R.1 = [] := by
  induction h with
  | done acc p => intro h; exact absurd rfl h
  | blank hb k ih => exact ih
  | remark h35 k ih => exact ih
  | word h1 h2 w hw h0 m hm hm0 hml k ih => exact ih
  | wrong h1 h2 h0 => intro _; rfl

/-- Words, one behind the other, parted by blanks. -/
def relL (L : List Tok) : List UInt8 := L.flatMap fun t => showL t.1 t.2.1.data.toList ++ [32]
theorem relL_cons (t : Tok) (L : List Tok) : relL (t :: L) = showL t.1 t.2.1.data.toList ++ 32 :: relL L := by simp [relL]
theorem relL_len {p n : Nat} {L : List Tok} (h : Lok p L n) : (relL L).length + 5 * p ≤ 5 * n + 1 := by
  induction h with
  | fin h1 h2 => rw [relL_cons]; simp [showL, relL]; omega
  | tok h hq hm g hl r ih => rw [relL_cons, List.length_append, List.length_cons]; simp only [] at *; omega
def kx (t : Tok) : Int × ByteArray := (t.1, t.2.1)
theorem relex {p n : Nat} {L : List Tok} (h : Lok p L n) : ∀ (acc : List Tok) (q : Nat), ∃ L2, Lexes acc q (relL L) (acc ++ L2, 0, 0) ∧ L2.map kx = L.map kx := by
  induction h with
  | @fin p_ q_ n_ h1 h2 =>
    intro acc q
    exact ⟨[(5, E0, ((q + 1 : Nat) : Int))], .blank (Or.inl rfl) (.done acc (q + 1)), rfl⟩
  | @tok p_ q_ m_ n_ k_ x_ L_ h hq hm g hl r ih =>
    intro acc q
    obtain ⟨b, t, e, hb, h35⟩ := show_head k_ x_ g
    have hw := show_word k_ x_ g (32 :: relL L_)
    obtain ⟨L2, hL2, hmap⟩ := ih (acc ++ [(k_, x_, (q : Int))]) (q + (t.length + 1) + 1)
    refine ⟨(k_, x_, (q : Int)) :: L2, ?_, by rw [List.map_cons, List.map_cons, hmap]; rfl⟩
    rw [relL_cons]
    simp only []
    rw [e] at hw ⊢
    rw [List.cons_append] at hw ⊢
    rw [List.append_assoc] at hL2
    refine .word hb h35 _ hw rfl (t.length + 1) rfl (by omega) (by rw [List.length_append]; omega) ?_
    rw [← List.cons_append, show t.length + 1 = (b :: t).length from rfl, List.drop_left]
    exact .blank (Or.inl rfl) hL2

theorem rd_tokP (L : List Tok) (i : Nat) (h : i < L.length) : rd_T45 (L.map tokP) (i : Int) = tokP L[i] := by
  unfold rd_T45
  rw [Int.toNat_natCast, List.getD_eq_getElem?_getD, List.getElem?_map, List.getElem?_eq_getElem h]; rfl
theorem again_l1 (L L2 : List Tok) (hL : L.length ≤ 1000000) (hm : L2.map kx = L.map kx) : ∀ (d i : Nat), i + d = L.length → Ev (fun k => wickerlaw05_LexAgain.l1 k (L.map tokP) (L2.map tokP) ((L.map tokP).length : Int) (i : Int)) true := by
  have hlen : L2.length = L.length := by have := congrArg List.length hm; simpa using this
  intro d
  induction d with
  | zero =>
    intro i hi
    refine Ev.step (f := fun k => (wickerlaw05_Awake.f k).bind fun t => some t) (fun k => ?_) (Ev.bind awake5 (Ev.now _))
    rw [wickerlaw05_LexAgain.l1, if_neg (by rw [List.length_map]; omega)]
  | succ d ih =>
    intro i hi
    have he : kx (L2[i]'(by omega)) = kx (L[i]'(by omega)) := by
      have := congrArg (fun l => l[i]?) hm
      simp only [List.getElem?_map] at this
      rw [List.getElem?_eq_getElem (by omega), List.getElem?_eq_getElem (by omega)] at this
      simpa using this
    simp only [kx, Prod.mk.injEq] at he
    refine Ev.step (fun k => ?_) (ih (i + 1) (by omega))
    rw [wickerlaw05_LexAgain.l1, if_pos (by rw [List.length_map]; omega), if_pos (by omega), if_pos (by rw [List.length_map]; omega), if_pos (by rw [List.length_map]; omega), rd_tokP L i (by omega), rd_tokP L2 i (by omega)]
    rw [if_pos (by simp only [tokP]; exact he.1.symm), if_pos (by simp only [tokP]; rw [he.2]), w64 (by omega) (by omega)]
    rfl
theorem again_step (s : ByteArray) (hs : s.size ≤ 3000) (L : List Tok) (hL : L.length ≤ 1000000) (x6 : ByteArray) (h6 : x6.size ≤ 1000000) (i : Nat) (hi : i < L.length) (q : Nat) (hq : (L[i]).2.2 = (q : Int)) (hqs : q ≤ s.size) (hx : (L[i]).2.1.size ≤ 1000000)
    (hlast : ∀ j (hj : j < L.length), j + 1 = i → (L[j]).2.2 < (q : Int)) (k : Nat) :
    wickerlaw05_LexAgain.l0 (k + 1) s (L.map tokP) x6 (L.map tokP) ((L.map tokP).length : Int) (i : Int) = wickerlaw05_LexAgain.l0 k s (L.map tokP) (x6 ++ ((⟨(showL (L[i]).1 (L[i]).2.1.data.toList).toArray⟩ : ByteArray) ++ (⟨#[32]⟩ : ByteArray))) (L.map tokP) ((L.map tokP).length : Int) ((i + 1 : Nat) : Int) := by
  have hsz : (⟨(showL (L[i]).1 (L[i]).2.1.data.toList).toArray⟩ : ByteArray).size ≤ 5000000 := by
    show (showL (L[i]).1 (L[i]).2.1.data.toList).toArray.size ≤ _
    rw [List.size_toArray]
    have := showL_le (L[i]).1 (L[i]).2.1.data.toList
    rw [data_length] at this
    omega
  have h1 : (⟨#[32]⟩ : ByteArray).size = 1 := rfl
  have hrd : rd_T45 (L.map tokP) (i : Int) = ⟨(L[i]).1, (L[i]).2.1, (q : Int)⟩ := by
    rw [rd_tokP L i hi, ← hq]; rfl
  rw [wickerlaw05_LexAgain.l0, if_pos (by rw [List.length_map]; omega), if_pos (by omega), if_pos (by rw [List.length_map]; omega), hrd]
  dsimp only
  rw [w64 (i := (i : Int) + 1) (by omega) (by omega), show (i : Int) + 1 = ((i + 1 : Nat) : Int) by omega]
  by_cases h0 : i = 0
  · rw [if_neg (by omega), if_neg (by omega), if_neg (by omega), show_f _ _ _ hx, Option.bind_some, if_pos (by omega), if_pos (by rw [ByteArray.size_append]; omega)]
  · obtain ⟨j, rfl⟩ : ∃ j, i = j + 1 := ⟨i - 1, by omega⟩
    have hw : wrap64 (((j + 1 : Nat) : Int) - 1) = (j : Int) := by rw [w64 (by omega) (by omega)]; omega
    have hl := hlast j (by omega) rfl
    have hl2 : (rd_T45 (L.map tokP) (j : Int)).f2 < (q : Int) := by rw [rd_tokP L j (by omega)]; exact hl
    rw [if_pos (by omega), hw, if_pos (by omega), if_pos (by rw [List.length_map]; omega)]
    rw [if_neg (by omega), if_neg (by omega), if_neg (by omega), show_f _ _ _ hx, Option.bind_some, if_pos (by omega), if_pos (by rw [ByteArray.size_append]; omega)]
theorem good_size {k : Int} {x : ByteArray} (g : Good k x) : x.size ≤ 100 := by
  rcases g with ⟨_, h⟩ | ⟨_, h⟩ | ⟨_, rfl⟩
  · rw [← data_length]
    cases hx : x.data.toList with
    | nil => simp
    | cons a t =>
      rw [hx] at h
      simp only [nameL, Bool.and_eq_true, decide_eq_true_eq] at h
      simp only [List.length_cons]; omega
  · simp only [markL, decide_eq_true_eq] at h
    rw [← data_length]; omega
  · show 0 ≤ 100; omega
theorem again_l0 (s : ByteArray) (hs : s.size ≤ 3000) (All : List Tok) (hA : All.length ≤ 1000000) (hR : (relL All).length ≤ 1000000) (r : Bool)
    (hend : ∀ x6 : ByteArray, x6.data.toList = relL All → Ev (fun k => wickerlaw05_LexAgain.l0 k s (All.map tokP) x6 (All.map tokP) ((All.map tokP).length : Int) (All.length : Int)) r)
    {q n : Nat} {suf : List Tok} (h : Lok q suf n) : n = s.size → ∀ (pre : List Tok) (x6 : ByteArray), All = pre ++ suf → x6.data.toList = relL pre → (∀ j (hj : j < All.length), j + 1 = pre.length → (All[j]).2.2 < (q : Int)) →
    Ev (fun k => wickerlaw05_LexAgain.l0 k s (All.map tokP) x6 (All.map tokP) ((All.map tokP).length : Int) (pre.length : Int)) r := by
  have hrel : ∀ a b : List Tok, relL (a ++ b) = relL a ++ relL b := fun a b => by simp [relL]
  induction h with
  | @fin p_ q_ n_ h1 h2 =>
    intro hn pre x6 e h6 hlast
    have hlen : All.length = pre.length + 1 := by rw [e, List.length_append]; rfl
    have hat : All[pre.length]'(by omega) = (5, E0, (q_ : Int)) := by
      simp only [e, List.getElem_append_right (Nat.le_refl _), Nat.sub_self, List.getElem_cons_zero]
    have h6s : x6.size ≤ 1000000 := by rw [← data_length, h6]; rw [e, hrel, List.length_append] at hR; omega
    refine Ev.step (fun k => again_step s hs All hA x6 h6s pre.length (by omega) q_ (by rw [hat]) (by omega) (by rw [hat]; show 0 ≤ _; omega) (fun j hj e1 => by have := hlast j hj e1; omega) k) ?_
    rw [← hlen]
    refine hend _ ?_
    rw [hat, ByteArray.data_append, Array.toList_append, ByteArray.data_append, Array.toList_append, h6, e, hrel]
    rfl
  | @tok p_ q_ m_ n_ k_ x_ L_ h hq hm g hl r_ ih =>
    intro hn pre x6 e h6 hlast
    have hlen : All.length = pre.length + (L_.length + 1) := by rw [e, List.length_append]; rfl
    have hat : All[pre.length]'(by omega) = (k_, x_, (q_ : Int)) := by
      simp only [e, List.getElem_append_right (Nat.le_refl _), Nat.sub_self, List.getElem_cons_zero]
    have h6s : x6.size ≤ 1000000 := by rw [← data_length, h6]; rw [e, hrel, List.length_append] at hR; omega
    have hgs := good_size g
    refine Ev.step (fun k => again_step s hs All hA x6 h6s pre.length (by omega) q_ (by rw [hat]) (by omega) (by rw [hat]; show x_.size ≤ _; omega) (fun j hj e1 => by have := hlast j hj e1; omega) k) ?_
    have := ih hn (pre ++ [(k_, x_, (q_ : Int))]) (x6 ++ ((⟨(showL k_ x_.data.toList).toArray⟩ : ByteArray) ++ (⟨#[32]⟩ : ByteArray))) (by rw [e, List.append_assoc]; rfl) (by
      rw [ByteArray.data_append, Array.toList_append, ByteArray.data_append, Array.toList_append, h6, hrel, relL_cons]; rfl) (fun j hj e1 => by
      rw [List.length_append, List.length_singleton] at e1
      have ej : j = pre.length := by omega
      subst ej
      rw [hat]
      simp only []
      omega)
    rw [List.length_append, List.length_singleton] at this
    rw [hat]
    exact this
theorem LexAgain (s : ByteArray) : ∃ k, wickerlaw05_LexAgain.f k s = some true := by
  apply Ev.rounds
  unfold wickerlaw05_LexAgain.f
  by_cases h : (s.size : Int) > 3000
  · exact Ev.pos h (Ev.bind awake5 (Ev.now _))
  have hs : s.size ≤ 1000000 := by omega
  obtain ⟨R, hR⟩ := lexes_total (s.data.toList.length + 1) [] 0 s.data.toList (by omega)
  have hsh := lexes_short hR (by simp)
  rw [data_length] at hsh
  have hP := lex_of s hs hR (by simp) (by omega) (by simp)
  have hP2 : Ev (fun k => lex_Lex.f k s) (R.1.map tokP, R.2.1, R.2.2) := by
    unfold lex_Lex.f
    exact Ev.neg (by omega) hP
  refine Ev.neg h (Ev.bind hP2 ?_)
  by_cases h0 : R.2.2 = 0
  · refine Ev.pos h0 ?_
    obtain ⟨L, eL, hL⟩ := lexes_lok hR h0
    rw [List.nil_append] at eL
    rw [eL] at hsh ⊢
    simp only []
    have hlen := relL_len hL
    rw [data_length, Nat.zero_add] at hlen hL
    refine again_l0 s (by omega) L (by omega) (by omega) true ?_ hL rfl [] E0 rfl rfl (fun j hj e => by simp at e)
    intro x6 h6
    have h6s : x6.size ≤ 20000 := by rw [← data_length, h6]; omega
    obtain ⟨L2, hL2, hm⟩ := relex hL [] 0
    rw [List.nil_append, ← h6] at hL2
    have hlen2 : L2.length = L.length := by have := congrArg List.length hm; simpa using this
    have hQ := lex_of x6 (by omega) hL2 (by simp) (by omega) (by simp)
    have hQ2 : Ev (fun k => lex_Lex.f k x6) (L2.map tokP, 0, 0) := by
      unfold lex_Lex.f
      exact Ev.neg (by omega) hQ
    refine Ev.step (fun k => ?_) (Ev.bind hQ2 (f := fun k bt => if bt.2.2 = 0 then (wickerlaw05_LexAgain.j1 k (L.map tokP) bt.1 ((bt.1.length : Int) != ((L.map tokP).length : Int))) else (wickerlaw05_LexAgain.j1 k (L.map tokP) bt.1 true)) (Ev.pos rfl ?_))
    · rw [wickerlaw05_LexAgain.l0, if_neg (by rw [List.length_map]; omega)]
    · refine Ev.step (fun k => ?_) (again_l1 L L2 (by omega) hm L.length 0 (by omega))
      rw [wickerlaw05_LexAgain.j1, if_neg (by simp [hlen2])]
      rfl
  · refine Ev.neg h0 (Ev.bind awake5 (Ev.pos rfl (ev_now fun k => ?_)))
    rw [lexes_err hR h0]
    rfl
end Go.Proofs.YtghdnijdbmekjaaDoor.Pure
