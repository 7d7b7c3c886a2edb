/- What the two texts of 'Unquote' answer: one plain function. What the reference's 'Unquote' answers: the same plain function. -/
import Derived.Test.YtghdnijdbmekjaaDoorUNames0
import Derived.Lib.IndexBytes
import Derived.Lib.SmallJoins
import Derived.Test.YtghdnijdbmekjaaDoorHx9
import Derived.Test.YtghdnijdbmekjaaDoorHx15
set_option linter.unusedVariables false
set_option linter.unusedSimpArgs false
namespace Go.Proofs.YtghdnijdbmekjaaDoor.Pure
open Go.RowKit Go.Proofs.YtghdnijdbmekjaaDoorW.PrintWords Go.Proofs.YtghdnijdbmekjaaDoor.H

/-- The value of a digit; -1: it is none. -/
def hv (b : UInt8) : Int := if 48 ≤ b.toNat ∧ b.toNat ≤ 57 then b.toNat - 48 else if 97 ≤ b.toNat ∧ b.toNat ≤ 102 then b.toNat - 87 else -1
theorem hv_lt (b : UInt8) : -1 ≤ hv b ∧ hv b ≤ 15 := by unfold hv; split <;> (try split) <;> omega
/-- What stands behind a backslash: the byte, how many bytes that took, the error's number. -/
def escS : List UInt8 → Int × Int × Int
  | [] => (0, 0, 7)
  | c :: t => if c.toNat = 110 then (10, 1, 0) else if c.toNat = 116 then (9, 1, 0) else if c.toNat = 34 ∨ c.toNat = 92 then (c.toNat, 1, 0)
    else if c.toNat = 120 then (match t with
      | [] => (0, 0, 7)
      | d :: t1 => if hv d < 0 then (0, 0, 4) else (match t1 with
        | [] => (0, 0, 7)
        | d2 :: _ => if hv d2 < 0 then (0, 0, 4) else (16 * hv d + hv d2, 3, 0)))
    else (0, 0, 4)
abbrev E0 : ByteArray := ⟨#[]⟩
/-- The mark: what is read so far, at which place, what is left; n bounds what is left. -/
def unq : Nat → List UInt8 → Int → List UInt8 → ByteArray × Int × Int
  | 0, _, _, _ => (E0, 0, 7)
  | _ + 1, _, _, [] => (E0, 0, 7)
  | n + 1, acc, p, b :: t => if b.toNat = 34 then (if markL acc = true then (⟨acc.toArray⟩, p + 1, 0) else (E0, 0, 5))
    else if b.toNat = 92 then (if (escS t).2.2 = 0 then unq n (acc ++ [UInt8.ofNat (escS t).1.toNat]) (p + (escS t).2.1 + 1) (t.drop (escS t).2.1.toNat) else (E0, 0, (escS t).2.2))
    else if 32 ≤ b.toNat ∧ b.toNat < 127 then unq n (acc ++ [b]) (p + 1) t else (E0, 0, 4)
def unquoteS (l : List UInt8) : ByteArray × Int × Int := match l with
  | [] => (E0, 0, 6)
  | b :: t => if b.toNat = 34 then unq (t.length + 1) [] 1 t else (E0, 0, 6)

theorem index_hv (b : UInt8) : Lib.indexByte (⟨#[48, 49, 50, 51, 52, 53, 54, 55, 56, 57, 97, 98, 99, 100, 101, 102]⟩ : ByteArray).data.toList b = hv b := by
  have h : ∀ n : Fin 256, Lib.indexByte (⟨#[48, 49, 50, 51, 52, 53, 54, 55, 56, 57, 97, 98, 99, 100, 101, 102]⟩ : ByteArray).data.toList (UInt8.ofNat n.val) = hv (UInt8.ofNat n.val) := by decide +kernel
  have := h ⟨b.toNat, UInt8.toNat_lt b⟩
  simpa using this
theorem index_f (b : UInt8) : strings_IndexByte.f (⟨#[48, 49, 50, 51, 52, 53, 54, 55, 56, 57, 97, 98, 99, 100, 101, 102]⟩ : ByteArray) (b.toNat : Int) = some (hv b) := by
  unfold strings_IndexByte.f
  rw [show ((b.toNat : Int).toNat.toUInt8) = b by simp, index_hv]
theorem digit_f (b : UInt8) : Ev (fun k => wickerref01_digit.f k (b.toNat : Int)) (hv b) := by
  unfold wickerref01_digit.f
  have := UInt8.toNat_lt b
  by_cases h : (b.toNat : Int) ≥ 48
  · refine Ev.pos h (ev_nowS fun k => ?_)
    simp only [wickerref01_digit.j0]
    rw [w64 (i := (b.toNat : Int)) (by omega) (by omega)]
    by_cases h2 : (b.toNat : Int) ≤ 57
    · have e : hv b = b.toNat - 48 := by unfold hv; rw [if_pos (by omega)]
      rw [if_pos (decide_eq_true h2), w64 (by omega) (by omega), e]
    · rw [if_neg (by simp; omega)]
      by_cases h3 : (b.toNat : Int) ≥ 97
      · rw [if_pos h3]
        by_cases h4 : (b.toNat : Int) ≤ 102
        · have e : hv b = b.toNat - 87 := by unfold hv; rw [if_neg (by omega), if_pos (by omega)]
          rw [if_pos h4, w64 (by omega) (by omega), e]
        · have e : hv b = -1 := by unfold hv; rw [if_neg (by omega), if_neg (by omega)]
          rw [if_neg h4, e]
      · have e : hv b = -1 := by unfold hv; rw [if_neg (by omega), if_neg (by omega)]
        rw [if_neg h3, e]
  · have e : hv b = -1 := by unfold hv; rw [if_neg (by omega), if_neg (by omega)]
    refine Ev.neg h (ev_nowS fun k => ?_)
    simp only [wickerref01_digit.j0]
    rw [if_neg (by simp), if_neg (by omega), e]

theorem escS_cons (c : UInt8) (t : List UInt8) : escS (c :: t) = if c.toNat = 110 then ((10, 1, 0) : Int × Int × Int) else if c.toNat = 116 then (9, 1, 0) else if c.toNat = 34 ∨ c.toNat = 92 then (c.toNat, 1, 0)
    else if c.toNat = 120 then (match t with
      | [] => (0, 0, 7)
      | d :: t1 => if hv d < 0 then (0, 0, 4) else (match t1 with
        | [] => (0, 0, 7)
        | d2 :: _ => if hv d2 < 0 then (0, 0, 4) else (16 * hv d + hv d2, 3, 0)))
    else (0, 0, 4) := rfl
theorem escape_f (s : ByteArray) (hn : s.size ≤ 1000000000000) : Ev (fun k => names_escape.f k s) (escS s.data.toList) := by
  unfold names_escape.f
  have hlen := data_length s
  cases hl : s.data.toList with
  | nil =>
    rw [hl] at hlen
    exact Ev.pos ((ba_nil s).2 hlen.symm) (Ev.now _)
  | cons c t =>
    rw [hl] at hlen
    simp only [List.length_cons] at hlen
    have hc := bt_get s 0 (by rw [hl]; simp)
    simp only [hl, List.getElem_cons_zero] at hc
    have hc' : bt s 0 = (c.toNat : Int) := hc
    refine Ev.neg (fun h => by have := (ba_nil s).1 h; omega) (Ev.pos (by omega) ?_)
    rw [hc', escS_cons]
    by_cases h1 : c.toNat = 110
    · rw [if_pos h1]; exact Ev.pos (by omega) (Ev.now _)
    rw [if_neg h1]; refine Ev.neg (by omega) ?_
    by_cases h2 : c.toNat = 116
    · rw [if_pos h2]; exact Ev.pos (by omega) (Ev.now _)
    rw [if_neg h2]; refine Ev.neg (by omega) ?_
    by_cases h3 : c.toNat = 34 ∨ c.toNat = 92
    · rw [if_pos h3]
      by_cases h34 : c.toNat = 34
      · refine Ev.pos (by omega) (ev_nowS fun k => ?_)
        simp only [names_escape.j0]
        rw [if_pos (by simp [h34]), if_pos (by omega), hc']
      · refine Ev.neg (by omega) (ev_nowS fun k => ?_)
        simp only [names_escape.j0]
        rw [if_pos (by simp; omega), if_pos (by omega), hc']
    rw [if_neg h3]; refine Ev.neg (by omega) ?_
    by_cases h4 : c.toNat = 120
    · rw [if_pos h4]
      refine Ev.step (f := fun k => names_escape.l0 k s 0 1) (fun k => by simp only [names_escape.j0]; rw [if_neg (by simp; omega), if_pos (by omega)]) ?_
      cases t with
      | nil =>
        refine ev_nowS fun k => ?_
        simp only [names_escape.l0]
        rw [if_pos (by omega), if_pos (by simp at hlen; omega)]
      | cons d t1 =>
        simp only [List.length_cons] at hlen
        have hd : bt s 1 = (d.toNat : Int) := by have := bt_get s 1 (by rw [hl]; simp); simpa [hl] using this
        have hhd := hv_lt d
        simp only []
        by_cases h5 : hv d < 0
        · rw [if_pos h5]
          refine ev_nowS fun k => ?_
          simp only [names_escape.l0]
          rw [if_pos (by omega), if_neg (by omega), if_pos (by omega), if_pos (by omega), hd, index_f, Option.bind_some, if_pos h5]
        · rw [if_neg h5]
          refine Ev.step (f := fun k => names_escape.l0 k s (hv d) 2) (fun k => by
            simp only [names_escape.l0]
            rw [if_pos (by omega), if_neg (by omega), if_pos (by omega), if_pos (by omega), hd, index_f, Option.bind_some, if_neg h5, w64 (i := 16 * 0) (by omega) (by omega), w64 (i := 16 * 0 + hv d) (by omega) (by omega), w64 (i := 1 + 1) (by omega) (by omega)]
            congr 1; omega) ?_
          cases t1 with
          | nil =>
            refine ev_nowS fun k => ?_
            simp only [names_escape.l0]
            rw [if_pos (by omega), if_pos (by simp at hlen; omega)]
          | cons d2 t2 =>
            simp only [List.length_cons] at hlen
            have hd2 : bt s 2 = (d2.toNat : Int) := by have := bt_get s 2 (by rw [hl]; simp); simpa [hl] using this
            have hhd2 := hv_lt d2
            simp only []
            by_cases h6 : hv d2 < 0
            · rw [if_pos h6]
              refine ev_nowS fun k => ?_
              simp only [names_escape.l0]
              rw [if_pos (by omega), if_neg (by omega), if_pos (by omega), if_pos (by omega), hd2, index_f, Option.bind_some, if_pos h6]
            · rw [if_neg h6]
              refine Ev.step (f := fun k => names_escape.l0 k s (16 * hv d + hv d2) 3) (fun k => by
                simp only [names_escape.l0]
                rw [if_pos (by omega), if_neg (by omega), if_pos (by omega), if_pos (by omega), hd2, index_f, Option.bind_some, if_neg h6, w64 (i := 16 * hv d) (by omega) (by omega), w64 (i := 16 * hv d + hv d2) (by omega) (by omega), w64 (i := 2 + 1) (by omega) (by omega)]; rfl) ?_
              refine ev_nowS fun k => ?_
              simp only [names_escape.l0]
              rw [if_neg (by omega), show (16 * hv d + hv d2) % 256 = 16 * hv d + hv d2 by omega]
    · rw [if_neg h4]
      refine ev_nowS fun k => ?_
      simp only [names_escape.j0]
      rw [if_neg (by simp; omega), if_neg (by omega)]

theorem escS_ok {l : List UInt8} (h : (escS l).2.2 = 0) : 0 ≤ (escS l).1 ∧ (escS l).1 ≤ 255 ∧ 1 ≤ (escS l).2.1 ∧ (escS l).2.1 ≤ l.length := by
  cases l with
  | nil => simp [escS] at h
  | cons c t =>
    have := UInt8.toNat_lt c
    rw [escS_cons] at h ⊢
    by_cases h1 : c.toNat = 110
    · rw [if_pos h1]; simp; omega
    rw [if_neg h1] at h ⊢
    by_cases h2 : c.toNat = 116
    · rw [if_pos h2]; simp; omega
    rw [if_neg h2] at h ⊢
    by_cases h3 : c.toNat = 34 ∨ c.toNat = 92
    · rw [if_pos h3]; simp; omega
    rw [if_neg h3] at h ⊢
    by_cases h4 : c.toNat = 120
    · rw [if_pos h4] at h ⊢
      cases t with
      | nil => simp at h
      | cons d t1 =>
        have hd1 := hv_lt d
        simp only [] at h ⊢
        by_cases h5 : hv d < 0
        · rw [if_pos h5] at h; simp at h
        rw [if_neg h5] at h ⊢
        cases t1 with
        | nil => simp at h
        | cons d2 t2 =>
          have hd2 := hv_lt d2
          simp only [] at h ⊢
          by_cases h6 : hv d2 < 0
          · rw [if_pos h6] at h; simp at h
          rw [if_neg h6]
          simp only [List.length_cons]
          omega
    · rw [if_neg h4] at h; simp at h

theorem l0_names (s : ByteArray) (hn : s.size ≤ 1000000000000) : ∀ (n i : Nat) (acc : List UInt8), s.size < i + n → i ≤ s.size → acc.length ≤ i →
    Ev (fun k => names_Unquote.l0 k s (numsL acc) (i : Int)) (unq n acc (i : Int) (s.data.toList.drop i)) := by
  intro n
  induction n with
  | zero => intro i acc h1 h2; omega
  | succ n ih =>
    intro i acc h1 h2 ha
    by_cases hlt : i < s.size
    · have hl : i < s.data.toList.length := by rw [data_length]; omega
      have hb := bt_get s i hl
      have e1 : wrap64 ((i : Int) + 1) = ((i + 1 : Nat) : Int) := by rw [w64 (by omega) (by omega)]; omega
      rw [List.drop_eq_getElem_cons hl]
      generalize s.data.toList[i] = b at hb
      simp only [unq]
      have hb2 : b.toNat < 256 := UInt8.toNat_lt b
      by_cases h34 : b.toNat = 34
      · rw [if_pos h34]
        refine Ev.step (f := fun k => names_Unquote.j2 k s (numsL acc) (i : Int) (b.toNat : Int) 1 (!markL acc)) (fun k => ?_) (ev_nowS fun k => ?_)
        · simp only [names_Unquote.l0]
          rw [if_pos (by omega), if_pos (by omega), hb, if_pos (by omega), strOf_numsL, mark_f, Option.bind_some]
        · simp only [names_Unquote.j2]
          by_cases hm : markL acc = true
          · rw [hm, if_neg (by simp), if_pos (by omega), if_pos rfl, strOf_numsL, w64 (by omega) (by omega)]
          · rw [if_neg hm, if_pos (by simpa using hm)]
      rw [if_neg h34]
      have hj : ∀ k, names_Unquote.l0 (k + 1) s (numsL acc) (i : Int) = names_Unquote.j2 k s (numsL acc) (i : Int) (b.toNat : Int) 1 false := by
        intro k
        simp only [names_Unquote.l0]
        rw [if_pos (by omega), if_pos (by omega), hb, if_neg (by omega)]
      refine Ev.step hj ?_
      have hal : (numsL acc).length < 140737488355328 := by rw [numsL_length]; omega
      by_cases h92 : b.toNat = 92
      · rw [if_pos h92]
        have hex : (s.extract (i + 1) s.size).data.toList = s.data.toList.drop (i + 1) := Lib.extract_to_end s (i + 1)
        have hes := escape_f (s.extract (i + 1) s.size) (by rw [← data_length, hex, List.length_drop, data_length]; omega)
        rw [hex] at hes
        generalize hr : escS (s.data.toList.drop (i + 1)) = r at hes
        by_cases h0 : r.2.2 = 0
        · rw [if_pos h0]
          have hok := escS_ok (l := s.data.toList.drop (i + 1)) (by rw [hr]; exact h0)
          rw [hr, List.length_drop, data_length] at hok
          have e2 : numsL acc ++ [r.1] = numsL (acc ++ [UInt8.ofNat r.1.toNat]) := by
            simp only [numsL, List.map_append, List.map_cons, List.map_nil]
            congr 2
            rw [UInt8.toNat_ofNat_of_lt' (by show _ < 256; omega)]; omega
          have e3 : ((i : Int) + r.2.1 + 1) = ((i + r.2.1.toNat + 1 : Nat) : Int) := by omega
          refine Ev.step (fun k => ?_) (Ev.bind hes (f := fun k bt110 => if bt110.2.2 = 0 then (if (numsL acc).length < 140737488355328 then (names_Unquote.l0 k s (numsL acc ++ [bt110.1]) (wrap64 ((i : Int) + (wrap64 (bt110.2.1 + 1))))) else none) else some (E0, 0, bt110.2.2)) (Ev.pos h0 (Ev.pos hal ?_)))
          · simp only [names_Unquote.j2]
            rw [if_neg (by simp), if_neg (by omega), if_pos (by omega), e1, if_pos (by omega), if_pos (by omega)]
            rfl
          · rw [e2, w64 (i := r.2.1 + 1) (by omega) (by omega), w64 (i := (i : Int) + (r.2.1 + 1)) (by omega) (by omega), e3, show (i : Int) + (r.2.1 + 1) = ((i + r.2.1.toNat + 1 : Nat) : Int) by omega,
              List.drop_drop, show i + 1 + r.2.1.toNat = i + r.2.1.toNat + 1 by omega]
            exact ih (i + r.2.1.toNat + 1) _ (by omega) (by omega) (by simp; omega)
        · rw [if_neg h0]
          refine Ev.step (fun k => ?_) (Ev.bind hes (f := fun k bt110 => if bt110.2.2 = 0 then (if (numsL acc).length < 140737488355328 then (names_Unquote.l0 k s (numsL acc ++ [bt110.1]) (wrap64 ((i : Int) + (wrap64 (bt110.2.1 + 1))))) else none) else some (E0, 0, bt110.2.2)) (Ev.neg h0 (Ev.now _)))
          simp only [names_Unquote.j2]
          rw [if_neg (by simp), if_neg (by omega), if_pos (by omega), e1, if_pos (by omega), if_pos (by omega)]
          rfl
      rw [if_neg h92]
      have hpl : names_plain.f (b.toNat : Int) = some (decide (32 ≤ b.toNat ∧ b.toNat < 127)) := by
        unfold names_plain.f
        by_cases hp : (b.toNat : Int) ≥ 32
        · rw [if_pos hp]; exact congrArg some (by rw [decide_eq_decide]; omega)
        · rw [if_neg hp, decide_eq_false (by omega)]
      by_cases hp : 32 ≤ b.toNat ∧ b.toNat < 127
      · rw [if_pos hp]
        have hpl2 : names_plain.f (b.toNat : Int) = some true := by rw [hpl]; exact congrArg some (decide_eq_true hp)
        refine Ev.step (f := fun k => names_Unquote.l0 k s (numsL (acc ++ [b])) ((i + 1 : Nat) : Int)) (fun k => ?_) ?_
        · simp only [names_Unquote.j2]
          rw [if_neg (by simp), if_neg (by omega), if_neg (by omega), hpl2, Option.bind_some, if_pos rfl, if_pos hal, e1, show numsL acc ++ [(b.toNat : Int)] = numsL (acc ++ [b]) by rw [numsL_append]; rfl]
        · have := ih (i + 1) (acc ++ [b]) (by omega) (by omega) (by simp; omega)
          rw [show ((i : Int) + 1) = ((i + 1 : Nat) : Int) by omega]; exact this
      · rw [if_neg hp]
        refine ev_nowS fun k => ?_
        simp only [names_Unquote.j2]
        rw [if_neg (by simp), if_neg (by omega), if_neg (by omega), hpl, Option.bind_some, if_neg (by simpa using hp)]
    · rw [List.drop_eq_nil_of_le (by rw [data_length]; omega)]
      refine ev_nowS fun k => ?_
      simp only [names_Unquote.l0, unq]
      rw [if_neg (by omega)]

theorem unquote_f (s : ByteArray) (hn : s.size ≤ 1000000000000) : Ev (fun k => names_Unquote.f k s) (unquoteS s.data.toList) := by
  unfold names_Unquote.f
  have hlen := data_length s
  cases hl : s.data.toList with
  | nil =>
    rw [hl] at hlen
    exact Ev.pos ((ba_nil s).2 hlen.symm) (ev_nowS fun k => by simp only [names_Unquote.j0]; rfl)
  | cons b t =>
    rw [hl] at hlen
    simp only [List.length_cons] at hlen
    have hb := bt_get s 0 (by rw [hl]; simp)
    simp only [hl, List.getElem_cons_zero] at hb
    have hb' : bt s 0 = (b.toNat : Int) := hb
    refine Ev.neg (fun h => by have := (ba_nil s).1 h; omega) (Ev.pos (by omega) ?_)
    rw [hb']
    simp only [unquoteS]
    by_cases h34 : b.toNat = 34
    · rw [if_pos h34]
      have := l0_names s hn (t.length + 1) 1 [] (by omega) (by omega) (by simp)
      rw [hl, List.drop_one, List.tail_cons] at this
      refine Ev.step (f := fun k => names_Unquote.l0 k s (numsL []) ((1 : Nat) : Int)) (fun k => ?_) this
      simp only [names_Unquote.j0]
      rw [if_neg (by simp [h34])]; rfl
    · rw [if_neg h34]
      refine ev_nowS fun k => ?_
      simp only [names_Unquote.j0]
      rw [if_pos (by simp; omega)]

end Go.Proofs.YtghdnijdbmekjaaDoor.Pure

namespace Go.Proofs.YtghdnijdbmekjaaDoor.Pure
open Go.RowKit Go.Proofs.YtghdnijdbmekjaaDoorW.PrintWords Go.Proofs.YtghdnijdbmekjaaDoor.H

theorem unq_more : ∀ (n m : Nat) (acc : List UInt8) (p : Int) (l : List UInt8), l.length < n → n ≤ m → unq m acc p l = unq n acc p l := by
  intro n
  induction n with
  | zero => intro m acc p l h; omega
  | succ n ih =>
    intro m acc p l h hm
    obtain ⟨m, rfl⟩ : ∃ q, m = q + 1 := ⟨m - 1, by omega⟩
    cases l with
    | nil => rfl
    | cons b t =>
      simp only [List.length_cons] at h
      simp only [unq]
      rw [ih m _ _ _ (by rw [List.length_drop]; omega) (by omega), ih m _ _ t (by omega) (by omega)]

theorem l1_step (s : ByteArray) (acc : List Int) (i : Nat) (v j : Int) (d : UInt8) (hn : s.size ≤ 1000000000000) (hj : j < 2) (hi : i < s.size) (hd : bt s i = (d.toNat : Int)) (k : Nat) :
    wickerref01_Unquote.l1 (k + 1) s acc (i : Int) v j = (wickerref01_digit.f k (d.toNat : Int)).bind fun t => if t < 0 then some (E0, 0, 4) else wickerref01_Unquote.l1 k s acc ((i + 1 : Nat) : Int) (wrap64 (wrap64 (v * 16) + t)) (wrap64 (j + 1)) := by
  rw [wickerref01_Unquote.l1, if_pos hj, if_neg (by omega), if_pos (by omega), if_pos (by omega), hd, w64 (i := (i : Int) + 1) (by omega) (by omega)]
  rfl
theorem l1_end (s : ByteArray) (acc : List Int) (i : Nat) (v j : Int) (hj : j < 2) (hi : i = s.size) (k : Nat) :
    wickerref01_Unquote.l1 (k + 1) s acc (i : Int) v j = some (E0, 0, 7) := by
  rw [wickerref01_Unquote.l1, if_pos hj, if_pos (by omega)]
theorem l1_out (s : ByteArray) (acc : List Int) (i : Nat) (v j : Int) (hj : ¬ j < 2) (ha : acc.length < 140737488355328) (k : Nat) :
    wickerref01_Unquote.l1 (k + 1) s acc (i : Int) v j = wickerref01_Unquote.l0 k s (acc ++ [v % 256]) (i : Int) := by
  rw [wickerref01_Unquote.l1, if_neg hj, if_pos ha]
def hexR (F : Int → ByteArray × Int × Int) : List UInt8 → ByteArray × Int × Int
  | [] => (E0, 0, 7)
  | d :: t1 => if hv d < 0 then (E0, 0, 4) else match t1 with
    | [] => (E0, 0, 7)
    | d2 :: _ => if hv d2 < 0 then (E0, 0, 4) else F (16 * hv d + hv d2)
theorem esc_hex (n : Nat) (c : UInt8) (acc : List UInt8) (p : Int) (t : List UInt8) (h110 : ¬ c.toNat = 110) (h116 : ¬ c.toNat = 116) (hq : ¬ (c.toNat = 34 ∨ c.toNat = 92)) (h120 : c.toNat = 120) :
    (if (escS (c :: t)).2.2 = 0 then unq n (acc ++ [UInt8.ofNat (escS (c :: t)).1.toNat]) (p + (escS (c :: t)).2.1 + 1) ((c :: t).drop (escS (c :: t)).2.1.toNat) else (E0, 0, (escS (c :: t)).2.2))
      = hexR (fun x => unq n (acc ++ [UInt8.ofNat x.toNat]) (p + 3 + 1) (t.drop 2)) t := by
  rw [escS_cons, if_neg h110, if_neg h116, if_neg hq, if_pos h120]
  cases t with
  | nil => rfl
  | cons d t1 =>
    simp only [hexR]
    by_cases h5 : hv d < 0
    · simp only [if_pos h5]; rfl
    · simp only [if_neg h5]
      cases t1 with
      | nil => rfl
      | cons d2 t2 =>
        by_cases h6 : hv d2 < 0
        · simp only [if_pos h6]; rfl
        · simp only [if_neg h6]; rfl
theorem hex_path (s : ByteArray) (hn : s.size ≤ 1000000000000) (i : Nat) (acc : List UInt8) (F : Int → ByteArray × Int × Int) (hi : i ≤ s.size) (ha : acc.length ≤ 1000000000000)
    (cont : ∀ x : Int, 0 ≤ x → x ≤ 255 → i + 2 ≤ s.size → Ev (fun k => wickerref01_Unquote.l0 k s (numsL acc ++ [x]) ((i + 2 : Nat) : Int)) (F x)) :
    Ev (fun k => wickerref01_Unquote.l1 k s (numsL acc) (i : Int) 0 0) (hexR F (s.data.toList.drop i)) := by
  have hlen := data_length s
  by_cases he : i = s.size
  · have hnil : s.data.toList.drop i = [] := List.drop_eq_nil_of_le (by omega)
    rw [hnil]
    exact ev_nowS fun k => l1_end _ _ _ _ _ (by decide) he k
  have hi3 : i < s.size := by omega
  have hl3 : i < s.data.toList.length := by omega
  have hd := bt_get s i hl3
  rw [List.drop_eq_getElem_cons hl3]
  generalize s.data.toList[i] = d at hd
  have hhd := hv_lt d
  refine Ev.step (l1_step s (numsL acc) i 0 0 d hn (by decide) hi3 hd) (Ev.bind (digit_f d) ?_)
  simp only [hexR]
  by_cases h5 : hv d < 0
  · rw [if_pos h5]
    exact Ev.pos h5 (Ev.now _)
  rw [if_neg h5]
  refine Ev.neg h5 ?_
  rw [show wrap64 (wrap64 (0 * 16) + hv d) = hv d by rw [w64 (i := 0 * 16) (by omega) (by omega), w64 (by omega) (by omega)]; omega, show wrap64 (0 + 1) = 1 by rw [w64 (by omega) (by omega)]; omega]
  clear he hd
  by_cases he : i + 1 = s.size
  · have hnil : s.data.toList.drop (i + 1) = [] := List.drop_eq_nil_of_le (by omega)
    rw [hnil]
    exact ev_nowS fun k => l1_end _ _ _ _ _ (by decide) he k
  have hi4 : i + 1 < s.size := by omega
  have hl4 : i + 1 < s.data.toList.length := by omega
  have hd := bt_get s (i + 1) hl4
  rw [List.drop_eq_getElem_cons hl4]
  generalize s.data.toList[i + 1] = d2 at hd
  have hhd2 := hv_lt d2
  refine Ev.step (l1_step s (numsL acc) (i + 1) (hv d) 1 d2 hn (by decide) hi4 hd) (Ev.bind (digit_f d2) ?_)
  simp only []
  by_cases h6 : hv d2 < 0
  · rw [if_pos h6]
    exact Ev.pos h6 (Ev.now _)
  rw [if_neg h6]
  refine Ev.neg h6 ?_
  have e1 : wrap64 (wrap64 (hv d * 16) + hv d2) = 16 * hv d + hv d2 := by rw [w64 (i := hv d * 16) (by omega) (by omega), w64 (by omega) (by omega)]; omega
  have e2 : wrap64 (1 + 1) = 2 := by rw [w64 (by omega) (by omega)]; omega
  rw [e1, e2]
  refine Ev.step (fun k => ?_) (cont (16 * hv d + hv d2) (by omega) (by omega) (by omega))
  rw [l1_out _ _ _ _ _ (by decide) (by rw [numsL_length]; omega), show (16 * hv d + hv d2) % 256 = 16 * hv d + hv d2 by omega]
theorem l0_ref (s : ByteArray) (hn : s.size ≤ 1000000000000) : ∀ (n i : Nat) (acc : List UInt8), s.size < i + n → i ≤ s.size → acc.length ≤ i →
    Ev (fun k => wickerref01_Unquote.l0 k s (numsL acc) (i : Int)) (unq n acc (i : Int) (s.data.toList.drop i)) := by
  intro n
  induction n with
  | zero => intro i acc h1 h2; omega
  | succ n ih =>
    intro i acc h1 h2 ha
    by_cases hlt : i < s.size
    · have hl : i < s.data.toList.length := by rw [data_length]; omega
      have hb := bt_get s i hl
      have e1 : wrap64 ((i : Int) + 1) = ((i + 1 : Nat) : Int) := by rw [w64 (by omega) (by omega)]; omega
      have e2 : wrap64 (((i + 1 : Nat) : Int) + 1) = ((i + 2 : Nat) : Int) := by rw [w64 (by omega) (by omega)]; omega
      rw [List.drop_eq_getElem_cons hl]
      generalize s.data.toList[i] = b at hb
      simp only [unq]
      have hb2 : b.toNat < 256 := UInt8.toNat_lt b
      by_cases h34 : b.toNat = 34
      · rw [if_pos h34]
        refine ev_nowS fun k => ?_
        simp only [wickerref01_Unquote.l0]
        rw [if_pos (by omega), if_pos (by omega), hb, if_pos (by omega), strOf_numsL, ref_mark_f, Option.bind_some]
        by_cases hm : markL acc = true
        · rw [if_pos hm, if_pos hm, w64 (by omega) (by omega)]
        · rw [if_neg hm, if_neg hm]
      rw [if_neg h34]
      have hal : (numsL acc).length < 140737488355328 := by rw [numsL_length]; omega
      by_cases h92 : b.toNat = 92
      · rw [if_pos h92]
        by_cases hend : i + 1 = s.size
        · rw [List.drop_eq_nil_of_le (by rw [data_length]; omega)]
          refine ev_nowS fun k => ?_
          simp only [wickerref01_Unquote.l0]
          rw [if_pos (by omega), if_pos (by omega), hb, if_neg (by omega), if_pos (by omega), e1, if_pos (by omega)]
          rfl
        have hl2 : i + 1 < s.data.toList.length := by rw [data_length]; omega
        have hi2 : i + 1 < s.size := by omega
        clear hend
        have hc := bt_get s (i + 1) hl2
        rw [List.drop_eq_getElem_cons hl2]
        generalize s.data.toList[i + 1] = c at hc
        have hc2 : c.toNat < 256 := UInt8.toNat_lt c
        have hj : ∀ k, wickerref01_Unquote.l0 (k + 1) s (numsL acc) (i : Int) = wickerref01_Unquote.j2 k s (numsL acc) ((i + 2 : Nat) : Int) (c.toNat : Int) (c.toNat : Int) (decide (c.toNat = 34 ∨ c.toNat = 92)) := by
          intro k
          simp only [wickerref01_Unquote.l0]
          rw [if_pos (by omega), if_pos (by omega), hb, if_neg (by omega), if_pos (by omega), e1, if_neg (by omega), if_pos (by omega), if_pos (by omega), hc, e2]
          by_cases h : (c.toNat : Int) = 34
          · rw [if_pos h, decide_eq_true (Or.inl (by omega)), show ((c.toNat : Int) == 34) = true by simp [h]]
          · rw [if_neg h]
            congr 1
            by_cases h9 : (c.toNat : Int) = 92
            · rw [decide_eq_true (Or.inr (by omega)), h9]; rfl
            · rw [decide_eq_false (by omega)]; simp; omega
        refine Ev.step hj ?_
        -- one byte more, and on
        have go1 : ∀ (x : UInt8), escS (c :: s.data.toList.drop (i + 2)) = ((x.toNat : Int), 1, 0) →
            Ev (fun k => wickerref01_Unquote.l0 k s (numsL acc ++ [(x.toNat : Int)]) ((i + 2 : Nat) : Int)) (if (escS (c :: s.data.toList.drop (i + 2))).2.2 = 0 then unq n (acc ++ [UInt8.ofNat (escS (c :: s.data.toList.drop (i + 2))).1.toNat]) ((i : Int) + (escS (c :: s.data.toList.drop (i + 2))).2.1 + 1) ((c :: s.data.toList.drop (i + 2)).drop (escS (c :: s.data.toList.drop (i + 2))).2.1.toNat) else (E0, 0, (escS (c :: s.data.toList.drop (i + 2))).2.2)) := by
          intro x hx
          rw [hx]
          simp only [if_true]
          have := ih (i + 2) (acc ++ [x]) (by omega) (by omega) (by simp; omega)
          rw [numsL_append] at this
          have e4 : ((i : Int) + 1 + 1) = ((i + 2 : Nat) : Int) := by omega
          rw [e4]
          simpa [numsL] using this
        by_cases hq : c.toNat = 34 ∨ c.toNat = 92
        · refine Ev.step (fun k => ?_) (go1 c (by rw [escS_cons, if_neg (by omega), if_neg (by omega), if_pos hq]))
          simp only [wickerref01_Unquote.j2]
          rw [if_pos (decide_eq_true hq), if_pos hal]
        by_cases h110 : c.toNat = 110
        · refine Ev.step (fun k => ?_) (go1 10 (by rw [escS_cons, if_pos h110]; rfl))
          simp only [wickerref01_Unquote.j2]
          rw [if_neg (by simpa using hq), if_pos (by omega), if_pos hal]; rfl
        by_cases h116 : c.toNat = 116
        · refine Ev.step (fun k => ?_) (go1 9 (by rw [escS_cons, if_neg h110, if_pos h116]; rfl))
          simp only [wickerref01_Unquote.j2]
          rw [if_neg (by simpa using hq), if_neg (by omega), if_pos (by omega), if_pos hal]; rfl
        by_cases h120 : c.toNat = 120
        · have hj2 : ∀ k, wickerref01_Unquote.j2 (k + 1) s (numsL acc) ((i + 2 : Nat) : Int) (c.toNat : Int) (c.toNat : Int) (decide (c.toNat = 34 ∨ c.toNat = 92)) = wickerref01_Unquote.l1 k s (numsL acc) ((i + 2 : Nat) : Int) 0 0 := by
            intro k
            simp only [wickerref01_Unquote.j2]
            rw [if_neg (by simpa using hq), if_neg (by omega), if_neg (by omega), if_pos (by omega)]
          refine Ev.step hj2 ?_
          rw [esc_hex n c acc (i : Int) _ h110 h116 hq h120]
          clear hj2 go1 hj hq h110 h116 h34 h92 h120
          refine hex_path s hn (i + 2) acc (fun x => unq n (acc ++ [UInt8.ofNat x.toNat]) ((i : Int) + 3 + 1) ((s.data.toList.drop (i + 2)).drop 2)) (by omega) (by omega) fun x h0 h1 h2 => ?_
          have key := ih (i + 4) (acc ++ [UInt8.ofNat x.toNat]) (by omega) (by omega) (by simp; omega)
          rw [numsL_append, show numsL [UInt8.ofNat x.toNat] = [x] by
            simp only [numsL, List.map_cons, List.map_nil]
            congr 1
            rw [UInt8.toNat_ofNat_of_lt' (by show _ < 256; omega)]; omega] at key
          rw [List.drop_drop, show (i : Int) + 3 + 1 = ((i + 4 : Nat) : Int) by omega]
          exact key
        · rw [escS_cons, if_neg h110, if_neg h116, if_neg hq, if_neg h120]
          refine ev_nowS fun k => ?_
          simp only [wickerref01_Unquote.j2]
          rw [if_neg (by simpa using hq), if_neg (by omega), if_neg (by omega), if_neg (by omega)]; rfl
      rw [if_neg h92]
      by_cases hp : 32 ≤ b.toNat ∧ b.toNat < 127
      · rw [if_pos hp]
        have := ih (i + 1) (acc ++ [b]) (by omega) (by omega) (by simp; omega)
        rw [show ((i : Int) + 1) = ((i + 1 : Nat) : Int) by omega]
        refine Ev.step (fun k => ?_) this
        simp only [wickerref01_Unquote.l0]
        rw [if_pos (by omega), if_pos (by omega), hb, if_neg (by omega), if_neg (by omega), if_neg (by omega), if_neg (by omega), if_pos hal, e1, show numsL acc ++ [(b.toNat : Int)] = numsL (acc ++ [b]) by rw [numsL_append]; rfl]
      · rw [if_neg hp]
        refine ev_nowS fun k => ?_
        simp only [wickerref01_Unquote.l0]
        rw [if_pos (by omega), if_pos (by omega), hb, if_neg (by omega), if_neg (by omega)]
        by_cases h32 : (b.toNat : Int) < 32
        · rw [if_pos h32]
        · rw [if_neg h32, if_pos (by omega)]
    · rw [List.drop_eq_nil_of_le (by rw [data_length]; omega)]
      refine ev_nowS fun k => ?_
      simp only [wickerref01_Unquote.l0, unq]
      rw [if_neg (by omega)]

theorem ref_unquote_f (s : ByteArray) (hn : s.size ≤ 1000000000000) : Ev (fun k => wickerref01_Unquote.f k s) (unquoteS s.data.toList) := by
  unfold wickerref01_Unquote.f
  have hlen := data_length s
  cases hl : s.data.toList with
  | nil =>
    rw [hl] at hlen
    simp only [List.length_nil] at hlen
    exact Ev.pos (by omega) (ev_nowS fun k => by simp only [wickerref01_Unquote.j0]; rfl)
  | cons b t =>
    rw [hl] at hlen
    simp only [List.length_cons] at hlen
    have hb := bt_get s 0 (by rw [hl]; simp)
    simp only [hl, List.getElem_cons_zero] at hb
    have hb' : bt s 0 = (b.toNat : Int) := hb
    refine Ev.neg (by omega) (Ev.pos (by omega) ?_)
    rw [hb']
    simp only [unquoteS]
    by_cases h34 : b.toNat = 34
    · rw [if_pos h34]
      have := l0_ref s hn (t.length + 1) 1 [] (by omega) (by omega) (by simp)
      rw [hl, List.drop_one, List.tail_cons] at this
      refine Ev.step (f := fun k => wickerref01_Unquote.l0 k s (numsL []) ((1 : Nat) : Int)) (fun k => ?_) this
      simp only [wickerref01_Unquote.j0]
      rw [if_neg (by simp [h34])]; rfl
    · rw [if_neg h34]
      refine ev_nowS fun k => ?_
      simp only [wickerref01_Unquote.j0]
      rw [if_pos (by simp; omega)]
end Go.Proofs.YtghdnijdbmekjaaDoor.Pure

namespace Go.Proofs.YtghdnijdbmekjaaDoor.Pure
open Go.RowKit Go.Proofs.YtghdnijdbmekjaaDoorW.PrintWords Go.Proofs.YtghdnijdbmekjaaDoor.H
theorem ofNat_eq {b : UInt8} {n : Nat} (h : b.toNat = n) : UInt8.ofNat n = b := by rw [← h]; simp
theorem hv_hexd (n : Nat) (h : n < 16) : hv (hexd n) = n := by
  unfold hv
  rw [hexd_toNat n h]
  by_cases h10 : n < 10
  · rw [if_pos h10, if_pos (by omega)]; omega
  · rw [if_neg h10, if_neg (by omega), if_pos (by omega)]; omega
theorem unq_esc (n : Nat) (acc : List UInt8) (p : Int) (b : UInt8) (r : List UInt8) : unq (n + 1) acc p (escB b ++ r) = unq n (acc ++ [b]) (p + (escB b).length) r := by
  have hb := UInt8.toNat_lt b
  by_cases h10 : b.toNat = 10
  · have he : escB b = [92, 110] := by unfold escB; rw [if_pos h10]
    have := ofNat_eq h10
    rw [he]; subst this
    simp only [unq, List.cons_append, List.nil_append]
    rw [if_neg (by decide), if_pos (by decide)]
    rw [if_pos (by rfl)]
    show unq n (acc ++ [UInt8.ofNat 10]) (p + 1 + 1) r = unq n (acc ++ [UInt8.ofNat 10]) (p + 2) r
    rw [show p + 1 + 1 = p + 2 by omega]
  by_cases h9 : b.toNat = 9
  · have he : escB b = [92, 116] := by unfold escB; rw [if_neg h10, if_pos h9]
    have := ofNat_eq h9
    rw [he]; subst this
    simp only [unq, List.cons_append, List.nil_append]
    rw [if_neg (by decide), if_pos (by decide)]
    rw [if_pos (by rfl)]
    show unq n (acc ++ [UInt8.ofNat 9]) (p + 1 + 1) r = unq n (acc ++ [UInt8.ofNat 9]) (p + 2) r
    rw [show p + 1 + 1 = p + 2 by omega]
  by_cases hp : b.toNat < 32 ∨ 126 < b.toNat
  · have he : escB b = [92, 120, hexd (b.toNat / 16), hexd (b.toNat % 16)] := by unfold escB; rw [if_neg h10, if_neg h9, if_pos hp]
    have h1 := hv_hexd (b.toNat / 16) (by omega)
    have h2 := hv_hexd (b.toNat % 16) (by omega)
    have hes : escS (120 :: hexd (b.toNat / 16) :: hexd (b.toNat % 16) :: r) = ((b.toNat : Int), 3, 0) := by
      rw [escS_cons, if_neg (by decide), if_neg (by decide), if_neg (by decide), if_pos (by decide)]
      simp only []
      rw [h1, h2, if_neg (by omega), if_neg (by omega)]
      congr 1
      omega
    rw [he]
    simp only [unq, List.cons_append, List.nil_append]
    rw [if_neg (by decide), if_pos (by decide), hes]
    simp only [if_true]
    rw [show (b.toNat : Int).toNat = b.toNat by omega, show UInt8.ofNat b.toNat = b from ofNat_eq rfl]
    show unq n (acc ++ [b]) (p + 3 + 1) r = unq n (acc ++ [b]) (p + 4) r
    rw [show p + 3 + 1 = p + 4 by omega]
  by_cases hq : b.toNat = 34 ∨ b.toNat = 92
  · have he : escB b = [92, b] := by unfold escB; rw [if_neg h10, if_neg h9, if_neg hp, if_pos hq]
    have hes : escS (b :: r) = ((b.toNat : Int), 1, 0) := by
      rw [escS_cons, if_neg (by omega), if_neg (by omega), if_pos hq]
    rw [he]
    simp only [unq, List.cons_append, List.nil_append]
    rw [if_neg (by decide), if_pos (by decide), hes]
    simp only [if_true]
    rw [show (b.toNat : Int).toNat = b.toNat by omega, show UInt8.ofNat b.toNat = b from ofNat_eq rfl]
    show unq n (acc ++ [b]) (p + 1 + 1) r = unq n (acc ++ [b]) (p + 2) r
    rw [show p + 1 + 1 = p + 2 by omega]
  · have he : escB b = [b] := by unfold escB; rw [if_neg h10, if_neg h9, if_neg hp, if_neg hq]
    rw [he]
    simp only [unq, List.cons_append, List.nil_append]
    rw [if_neg (by omega), if_neg (by omega), if_pos (by omega)]
    rfl
theorem unq_back (rest : List UInt8) : ∀ (l acc : List UInt8) (p : Int) (n : Nat), l.length < n →
    unq n acc p (l.flatMap escB ++ 34 :: rest) = if markL (acc ++ l) = true then (⟨(acc ++ l).toArray⟩, p + (l.flatMap escB).length + 1, 0) else (E0, 0, 5) := by
  intro l
  induction l with
  | nil =>
    intro acc p n hn
    obtain ⟨n, rfl⟩ : ∃ m, n = m + 1 := ⟨n - 1, by omega⟩
    simp only [List.flatMap_nil, List.nil_append, unq, List.append_nil]
    rw [if_pos (by decide)]
    simp
  | cons b l ih =>
    intro acc p n hn
    simp only [List.length_cons] at hn
    obtain ⟨n, rfl⟩ : ∃ m, n = m + 1 := ⟨n - 1, by omega⟩
    rw [List.flatMap_cons, List.append_assoc, unq_esc, ih _ _ _ (by omega), List.append_assoc]
    simp only [List.cons_append, List.nil_append, List.length_append]
    have : p + ((escB b).length : Int) + ((l.flatMap escB).length : Int) + 1 = p + (((escB b).length + (l.flatMap escB).length : Nat) : Int) + 1 := by omega
    rw [this]
theorem unquote_quote (l behind : List UInt8) : unquoteS (quoteL l ++ behind) = if markL l = true then (⟨l.toArray⟩, ((quoteL l).length : Int), 0) else (E0, 0, 5) := by
  have e : quoteL l ++ behind = 34 :: (l.flatMap escB ++ 34 :: behind) := by simp [quoteL]
  have hle : l.length ≤ (l.flatMap escB).length := by
    induction l with
    | nil => simp
    | cons b l ih =>
      have : 1 ≤ (escB b).length := by unfold escB; split <;> (try split) <;> (try split) <;> (try split) <;> simp
      have ih := ih (by simp [quoteL])
      simp only [List.flatMap_cons, List.length_append, List.length_cons]; omega
  rw [e]
  simp only [unquoteS]
  rw [if_pos (by decide), unq_back behind l [] 1 _ (by simp only [List.length_append]; omega), List.nil_append]
  have : (1 : Int) + ((l.flatMap escB).length : Int) + 1 = ((quoteL l).length : Int) := by simp [quoteL]; omega
  rw [this]
theorem quoteL_le (l : List UInt8) : (quoteL l).length ≤ 4 * l.length + 2 := by
  have := escL_le l
  simp only [quoteL, List.length_cons, List.length_append, List.length_nil]; omega
end Go.Proofs.YtghdnijdbmekjaaDoor.Pure
