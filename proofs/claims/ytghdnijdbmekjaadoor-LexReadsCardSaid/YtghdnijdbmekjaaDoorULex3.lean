/- The program's word, and its text of words. -/
import Derived.Test.YtghdnijdbmekjaaDoorULex2
set_option linter.unusedVariables false
set_option linter.unusedSimpArgs false
namespace Go.Proofs.YtghdnijdbmekjaaDoor.Pure
open Go.RowKit Go.Proofs.YtghdnijdbmekjaaDoorW.PrintWords Go.Proofs.YtghdnijdbmekjaaDoor.G

theorem extract_list (s : ByteArray) (a b : Nat) : (s.extract a b).data.toList = (s.data.toList.drop a).take (b - a) := by
  rw [ByteArray.data_extract, Array.toList_extract]
  try rfl
theorem hasPrefix_f (s : ByteArray) (hn : s.size ≤ 1000000) : strings_HasPrefix.f s (⟨#[58, 58, 61]⟩ : ByteArray) = some (decide (s.data.toList.take 3 = [58, 58, 61])) := by
  unfold strings_HasPrefix.f stringslite_HasPrefix.f
  have h3 : (⟨#[58, 58, 61]⟩ : ByteArray).size = 3 := rfl
  rw [h3]
  have hl := data_length s
  by_cases h : 3 ≤ s.size
  · rw [if_pos (by omega), if_pos (by omega), if_pos (by omega), Option.bind_some, toList_data, toList_data, extract_list]
    show some ((s.data.toList.drop 0).take 3 == [58, 58, 61]) = _
    rw [List.drop_zero]
    congr 1
    rw [Bool.eq_iff_iff]; simp
  · rw [if_neg (by omega), Option.bind_some]
    rw [decide_eq_false]
    intro e
    have := congrArg List.length e
    simp only [List.length_take, List.length_cons, List.length_nil] at this
    omega
theorem name_word (s : ByteArray) (hn : s.size ≤ 1000000) (b : UInt8) (t : List UInt8) (h : s.data.toList = b :: t) (h60 : b.toNat = 60) :
    Ev (fun k => lex_name.f k s) (if cnt 62 t < t.length then (if nameL (t.take (cnt 62 t)) = true then (⟨(t.take (cnt 62 t)).toArray⟩, (cnt 62 t : Int) + 2, 0) else (E0, 0, 1)) else (E0, 0, 7)) := by
  unfold lex_name.f
  have hl := data_length s
  rw [h, List.length_cons] at hl
  have hcl := cnt_le 62 t
  have hidx : strings_IndexByte.f s 62 = some (if cnt 62 t < t.length then (cnt 62 t : Int) + 1 else -1) := by
    unfold strings_IndexByte.f
    rw [h, show ((62 : Int).toNat.toUInt8) = (62 : UInt8) from rfl, index_cnt]
    have e : cnt (62 : UInt8).toNat (b :: t) = cnt 62 t + 1 := by
      show cnt 62 (b :: t) = _
      simp only [cnt]; rw [if_neg (by omega)]
    rw [e]
    simp only [List.length_cons]
    by_cases hc : cnt 62 t < t.length
    · rw [if_pos (by omega), if_pos hc]; rfl
    · rw [if_neg (by omega), if_neg hc]
  by_cases hc : cnt 62 t < t.length
  · rw [if_pos hc] at hidx ⊢
    refine Ev.got hidx (Ev.neg (by omega) (Ev.pos (by omega) (Ev.pos (by omega) ?_)))
    have hex : (s.extract 1 ((cnt 62 t : Int) + 1).toNat) = ⟨(t.take (cnt 62 t)).toArray⟩ := by
      apply ba_ext
      rw [extract_list, h, List.drop_one, List.tail_cons, show ((cnt 62 t : Int) + 1).toNat - 1 = cnt 62 t by omega]
    rw [hex]
    have hnm := name_f ⟨(t.take (cnt 62 t)).toArray⟩ (by rw [← data_length]; show (t.take (cnt 62 t)).length ≤ _; rw [List.length_take]; omega)
    refine Ev.bind hnm ?_
    by_cases hm : nameL (t.take (cnt 62 t)) = true
    · refine Ev.pos hm ?_
      rw [if_pos hm]
      refine ev_now fun k => ?_
      rw [w64 (by omega) (by omega), show (cnt 62 t : Int) + 1 + 1 = (cnt 62 t : Int) + 2 by omega]
    · refine Ev.neg hm ?_
      rw [if_neg hm]
      exact Ev.now _
  · rw [if_neg hc] at hidx ⊢
    exact Ev.got hidx (Ev.pos (by omega) (Ev.now _))
theorem word_f (s : ByteArray) (hn : s.size ≤ 1000000) (b : UInt8) (t : List UInt8) (h : s.data.toList = b :: t) :
    Ev (fun k => lex_word.f k s) ((wordS (b :: t)).1, (wordS (b :: t)).2.1, 0, (wordS (b :: t)).2.2.1, (wordS (b :: t)).2.2.2) := by
  unfold lex_word.f
  have hl := data_length s
  rw [h, List.length_cons] at hl
  have hb : bt s 0 = (b.toNat : Int) := by
    have := bt_get s 0 (by rw [h]; simp)
    simp only [h, List.getElem_cons_zero] at this
    exact this
  refine Ev.pos (by omega) ?_
  rw [hb]
  simp only [wordS]
  by_cases h60 : b.toNat = 60
  · rw [if_pos h60]
    refine Ev.pos (by omega) (Ev.bind (name_word s hn b t h h60) ?_)
    by_cases hc : cnt 62 t < t.length
    · simp only [if_pos hc]
      by_cases hm : nameL (t.take (cnt 62 t)) = true
      · simp only [if_pos hm]; exact Ev.now _
      · simp only [if_neg hm]; exact Ev.now _
    · simp only [if_neg hc]; exact Ev.now _
  rw [if_neg h60]
  refine Ev.neg (by omega) ?_
  by_cases h34 : b.toNat = 34
  · rw [if_pos h34]
    have := unquote_f s (by omega)
    rw [h] at this
    exact Ev.pos (by omega) (Ev.bind this (Ev.now _))
  rw [if_neg h34]
  refine Ev.neg (by omega) ?_
  have hp := hasPrefix_f s hn
  rw [h] at hp
  by_cases h3 : (b :: t).take 3 = [58, 58, 61]
  · rw [if_pos h3]
    rw [decide_eq_true h3] at hp
    exact Ev.got hp (Ev.pos rfl (Ev.now _))
  rw [if_neg h3]
  rw [decide_eq_false h3] at hp
  refine Ev.got hp (Ev.neg (by simp) ?_)
  by_cases h4 : b.toNat = 124
  · rw [if_pos h4]; exact Ev.pos (by omega) (Ev.now _)
  rw [if_neg h4]
  refine Ev.neg (by omega) ?_
  by_cases h5 : b.toNat = 59
  · rw [if_pos h5]; exact Ev.pos (by omega) (Ev.now _)
  rw [if_neg h5]
  exact Ev.neg (by omega) (Ev.now _)

theorem lex_of (s : ByteArray) (hn : s.size ≤ 1000000) {acc : List Tok} {p : Nat} {l : List UInt8} {R : LexR} (h : Lexes acc p l R) : l = s.data.toList.drop p → p ≤ s.size → acc.length ≤ p →
    Ev (fun k => (lex_skip.f k s (p : Int)).bind fun t => lex_Lex.l0 k s (acc.map tokP) t) (R.1.map tokP, R.2.1, R.2.2) := by
  induction h with
  | done acc p =>
    intro hl hp ha
    refine Ev.bind (a := (p : Int)) (ev_nowS fun k => (skip_end s hn hl.symm hp k).1) (ev_nowS fun k => ?_)
    have := (skip_end s hn hl.symm hp 0).2
    rw [lex_Lex.l0, if_neg (by omega), if_pos (by rw [List.length_map]; omega)]
    simp only [List.map_append, List.map_cons, List.map_nil, tokP, this]
  | blank hb k ih =>
    intro hl hp ha
    obtain ⟨h1, h2⟩ := bt_drop hl.symm
    obtain ⟨_, _, h3⟩ := drop_cons hl.symm
    obtain ⟨a, e1, e2⟩ := Ev.unbind (lex_skip.mono _ _) (ih h3.symm (by omega) (by omega))
    exact Ev.bind (Ev.step (f := fun k => lex_skip.l0 k.succ s _) (fun k => rfl) (Ev.step (f := fun k => lex_skip.l0 k s _) (fun k => skip_blank s hn hl.symm hb k) e1)) e2
  | @remark acc_ p_ b_ t_ R_ h35 k ih =>
    intro hl hp ha
    obtain ⟨h1, h2⟩ := bt_drop hl.symm
    obtain ⟨_, _, h3⟩ := drop_cons hl.symm
    have hlen := congrArg List.length h3
    rw [List.length_drop, data_length] at hlen
    have hcl := cnt_le 10 (s.data.toList.drop (p_ + 1))
    obtain ⟨a, e1, e2⟩ := Ev.unbind (lex_skip.mono _ _) (ih (by rw [← h3, List.drop_drop]; congr 1; omega) (by rw [h3] at hcl; omega) (by omega))
    exact Ev.bind (skip_remark s hn hl.symm h35 e1) e2
  | @word acc_ p_ b_ t_ R_ h1 h2 w hw h0 m hm hm0 hml k ih =>
    intro hl hp ha
    obtain ⟨g1, g2⟩ := bt_drop hl.symm
    have hlen := congrArg List.length hl
    rw [List.length_drop, data_length, List.length_cons] at hlen
    refine Ev.bind (Ev.step (f := fun k => lex_skip.l0 k.succ s _) (fun k => rfl) (ev_nowS fun k => skip_stop s hn hl.symm h1 h2 k)) ?_
    have hex : (s.extract p_ s.size).data.toList = b_ :: t_ := by rw [Lib.extract_to_end, ← hl]
    have hwf := word_f (s.extract p_ s.size) (by rw [← data_length, hex, List.length_cons]; omega) b_ t_ hex
    rw [hw] at hwf
    refine Ev.step (fun k => ?_) (Ev.bind hwf (f := fun k bt135 => if bt135.2.2.2.2 = 0 then (if (acc_.map tokP).length < 4398046511104 then ((lex_skip.f k s (wrap64 ((p_ : Int) + bt135.2.2.2.1))).bind fun t144 => (lex_Lex.l0 k s (acc_.map tokP ++ [(⟨bt135.1, bt135.2.1, (p_ : Int)⟩ : S45)]) t144)) else none) else some (([] : List S45), (p_ : Int), bt135.2.2.2.2)) (Ev.pos h0 (Ev.pos (by rw [List.length_map]; omega) ?_)))
    · rw [lex_Lex.l0, if_pos (by omega), if_pos (by omega), if_pos (by omega)]; rfl
    · simp only [hm]
      rw [w64 (by omega) (by omega), show (p_ : Int) + (m : Int) = ((p_ + m : Nat) : Int) by omega]
      have := ih (by rw [hl, List.drop_drop]) (by omega) (by rw [List.length_append]; simp; omega)
      rw [List.map_append] at this
      exact this
  | @wrong acc_ p_ b_ t_ h1 h2 h0 =>
    intro hl hp ha
    obtain ⟨g1, g2⟩ := bt_drop hl.symm
    have hlen := congrArg List.length hl
    rw [List.length_drop, data_length, List.length_cons] at hlen
    refine Ev.bind (Ev.step (f := fun k => lex_skip.l0 k.succ s _) (fun k => rfl) (ev_nowS fun k => skip_stop s hn hl.symm h1 h2 k)) ?_
    have hex : (s.extract p_ s.size).data.toList = b_ :: t_ := by rw [Lib.extract_to_end, ← hl]
    have hwf := word_f (s.extract p_ s.size) (by rw [← data_length, hex, List.length_cons]; omega) b_ t_ hex
    refine Ev.step (fun k => ?_) (Ev.bind hwf (f := fun k bt135 => if bt135.2.2.2.2 = 0 then (if (acc_.map tokP).length < 4398046511104 then ((lex_skip.f k s (wrap64 ((p_ : Int) + bt135.2.2.2.1))).bind fun t144 => (lex_Lex.l0 k s (acc_.map tokP ++ [(⟨bt135.1, bt135.2.1, (p_ : Int)⟩ : S45)]) t144)) else none) else some (([] : List S45), (p_ : Int), bt135.2.2.2.2)) (Ev.neg h0 (Ev.now _)))
    rw [lex_Lex.l0, if_pos (by omega), if_pos (by omega), if_pos (by omega)]; rfl
end Go.Proofs.YtghdnijdbmekjaaDoor.Pure
