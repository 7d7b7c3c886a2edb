/- The reference's text of words. -/
import Derived.Test.YtghdnijdbmekjaaDoorULex3
set_option linter.unusedVariables false
set_option linter.unusedSimpArgs false
namespace Go.Proofs.YtghdnijdbmekjaaDoor.Pure
open Go.RowKit Go.Proofs.YtghdnijdbmekjaaDoorW.PrintWords Go.Proofs.YtghdnijdbmekjaaDoor.G

abbrev RR := List S41 × Int × Int
theorem ref_l1 (s : ByteArray) (hn : s.size ≤ 1000000) (A : List S41) (R : RR) : ∀ (l : List UInt8) (q : Nat), l = s.data.toList.drop q → q ≤ s.size → Ev (fun k => wickerref05_Lex.l0 k s A ((q + cnt 10 l : Nat) : Int)) R → Ev (fun k => wickerref05_Lex.l1 k s A (q : Int)) R := by
  intro l
  induction l with
  | nil =>
    intro q hl hq h
    have he := (skip_end s hn hl.symm hq 0).2
    refine Ev.step (fun k => ?_) h
    rw [wickerref05_Lex.l1, if_neg (by omega)]; rfl
  | cons b t ih =>
    intro q hl hq h
    obtain ⟨h1, h2⟩ := bt_drop hl.symm
    obtain ⟨_, _, h3⟩ := drop_cons hl.symm
    by_cases hb : b.toNat = 10
    · have e : cnt 10 (b :: t) = 0 := by simp [cnt, hb]
      rw [e] at h
      refine Ev.step (fun k => ?_) h
      rw [wickerref05_Lex.l1, if_pos (by omega), if_pos (by omega), h2, if_pos (by omega)]; rfl
    · have e : cnt 10 (b :: t) = cnt 10 t + 1 := by simp [cnt, hb]
      rw [e] at h
      refine Ev.step (fun k => ?_) (ih (q + 1) h3.symm (by omega) (by rw [show q + 1 + cnt 10 t = q + (cnt 10 t + 1) by omega]; exact h))
      rw [wickerref05_Lex.l1, if_pos (by omega), if_pos (by omega), h2, if_neg (by omega), w64 (by omega) (by omega)]; rfl
theorem ref_l2 (s : ByteArray) (hn : s.size ≤ 1000000) (A : List S41) (R : RR) (p a : Int) (c : ByteArray) (d : Int) : ∀ (l : List UInt8) (q : Nat), l = s.data.toList.drop q → q ≤ s.size → Ev (fun k => wickerref05_Lex.j4 k s A p ((q + cnt 62 l : Nat) : Int) a c d) R → Ev (fun k => wickerref05_Lex.l2 k s A p (q : Int) a c d) R := by
  intro l
  induction l with
  | nil =>
    intro q hl hq h
    have he := (skip_end s hn hl.symm hq 0).2
    refine Ev.step (fun k => ?_) h
    rw [wickerref05_Lex.l2, if_neg (by omega)]; rfl
  | cons b t ih =>
    intro q hl hq h
    obtain ⟨h1, h2⟩ := bt_drop hl.symm
    obtain ⟨_, _, h3⟩ := drop_cons hl.symm
    by_cases hb : b.toNat = 62
    · have e : cnt 62 (b :: t) = 0 := by simp [cnt, hb]
      rw [e] at h
      refine Ev.step (fun k => ?_) h
      rw [wickerref05_Lex.l2, if_pos (by omega), if_pos (by omega), h2, if_pos (by omega)]; rfl
    · have e : cnt 62 (b :: t) = cnt 62 t + 1 := by simp [cnt, hb]
      rw [e] at h
      refine Ev.step (fun k => ?_) (ih (q + 1) h3.symm (by omega) (by rw [show q + 1 + cnt 62 t = q + (cnt 62 t + 1) by omega]; exact h))
      rw [wickerref05_Lex.l2, if_pos (by omega), if_pos (by omega), h2, if_neg (by omega), w64 (by omega) (by omega)]; rfl
theorem ref_word (s : ByteArray) (hn : s.size ≤ 1000000) (A : List S41) (hA : A.length < 1000001) (R : RR) (p : Nat) (b : UInt8) (t : List UInt8) (hl : b :: t = s.data.toList.drop p) (h35 : ¬ b.toNat = 35)
    (w : Int × ByteArray × Int × Int) (hw : wordS (b :: t) = w)
    (h0 : w.2.2.2 = 0 → Ev (fun k => wickerref05_Lex.l0 k s (A ++ [tokR (w.1, w.2.1, (p : Int))]) ((p : Int) + w.2.2.1)) R) (h1 : ¬ w.2.2.2 = 0 → R = ([], (p : Int), w.2.2.2)) :
    Ev (fun k => wickerref05_Lex.j1 k s A (p : Int) (b.toNat : Int) false) R := by
  obtain ⟨g1, g2⟩ := bt_drop hl.symm
  obtain ⟨_, _, g3⟩ := drop_cons hl.symm
  have hlen := congrArg List.length hl
  rw [List.length_drop, data_length, List.length_cons] at hlen
  have hA2 : A.length < 4398046511104 := by omega
  have e1 : wrap64 ((p : Int) + 1) = ((p + 1 : Nat) : Int) := by rw [w64 (by omega) (by omega)]; omega
  have e2 : wrap64 ((p : Int) + 2) = ((p + 2 : Nat) : Int) := by rw [w64 (by omega) (by omega)]; omega
  simp only [wordS] at hw
  by_cases h60 : b.toNat = 60
  · rw [if_pos h60] at hw
    refine Ev.step (f := fun k => wickerref05_Lex.l2 k s A (p : Int) ((p + 1 : Nat) : Int) 0 E0 (p : Int)) (fun k => by rw [wickerref05_Lex.j1, if_neg (by simp), if_neg (by omega), if_pos (by omega), e1]) ?_
    refine ref_l2 s hn A R _ _ _ _ t (p + 1) g3.symm (by omega) ?_
    have hcl := cnt_le 62 t
    by_cases hc : cnt 62 t < t.length
    · rw [if_pos hc] at hw
      have hex : s.extract (p + 1) (p + 1 + cnt 62 t) = ⟨(t.take (cnt 62 t)).toArray⟩ := by
        apply ba_ext
        rw [extract_list, g3, show p + 1 + cnt 62 t - (p + 1) = cnt 62 t by omega]
      have hnm := ref_name_f ⟨(t.take (cnt 62 t)).toArray⟩ (by rw [← data_length]; show (t.take (cnt 62 t)).length ≤ _; rw [List.length_take]; omega)
      refine Ev.step (f := fun k => (wickerref01_Name.f k ⟨(t.take (cnt 62 t)).toArray⟩).bind fun t255 => if t255 = true then (wickerref05_Lex.l0 k s (A ++ [(⟨0, ⟨(t.take (cnt 62 t)).toArray⟩, (p : Int)⟩ : S41)]) (wrap64 (((p + 1 + cnt 62 t : Nat) : Int) + 1))) else some ([], (p : Int), 1)) (fun k => ?_) (Ev.bind hnm ?_)
      · rw [wickerref05_Lex.j4, if_neg (by omega), e1, if_pos (by omega), if_pos (by omega), if_pos (by omega)]
        simp only [Int.toNat_natCast, hex, if_pos hA2]
      · by_cases hm : nameL (t.take (cnt 62 t)) = true
        · rw [if_pos hm] at hw
          subst hw
          refine Ev.pos hm ?_
          have := h0 rfl
          rw [w64 (by omega) (by omega), show ((p + 1 + cnt 62 t : Nat) : Int) + 1 = (p : Int) + ((cnt 62 t : Int) + 2) by omega]
          exact this
        · rw [if_neg hm] at hw
          subst hw
          rw [h1 (by simp)]
          exact Ev.neg hm (Ev.now _)
    · rw [if_neg hc] at hw
      subst hw
      rw [h1 (by simp)]
      exact ev_nowS fun k => by rw [wickerref05_Lex.j4, if_pos (by omega)]
  rw [if_neg h60] at hw
  by_cases h34 : b.toNat = 34
  · rw [if_pos h34] at hw
    have hex : (s.extract p s.size).data.toList = b :: t := by rw [Lib.extract_to_end, ← hl]
    have hu := ref_unquote_f (s.extract p s.size) (by rw [← data_length, hex, List.length_cons]; omega)
    rw [hex] at hu
    subst hw
    refine Ev.step (f := fun k => (wickerref01_Unquote.f k (s.extract p s.size)).bind fun x => if x.2.2 = 0 then (wickerref05_Lex.l0 k s (A ++ [(⟨1, x.1, (p : Int)⟩ : S41)]) (wrap64 ((p : Int) + x.2.1))) else some ([], (p : Int), x.2.2)) (fun k => ?_) (Ev.bind hu ?_)
    · rw [wickerref05_Lex.j1, if_neg (by simp), if_neg (by omega), if_neg (by omega), if_pos (by omega), if_pos (by omega), if_pos (by omega)]
      simp only [Int.toNat_natCast, if_pos hA2]
    · by_cases hz : (unquoteS (b :: t)).2.2 = 0
      · have hok := unquoteS_ok _ hz
        simp only [List.length_cons] at hok
        refine Ev.pos hz ?_
        rw [w64 (by omega) (by omega)]
        exact h0 hz
      · rw [h1 hz]
        exact Ev.neg hz (Ev.now _)
  rw [if_neg h34] at hw
  have hstep : ∀ k, wickerref05_Lex.j1 (k + 1) s A (p : Int) (b.toNat : Int) false = (if (b.toNat : Int) = 58 then (if (wrap64 ((p : Int) + 2)) ≥ (s.size : Int) then (some (([] : List S41), (p : Int), 6)) else (if 0 ≤ (wrap64 ((p : Int) + 1)) then (if (wrap64 ((p : Int) + 1)) < (s.size : Int) then (if (bt s (wrap64 ((p : Int) + 1))) = 58 then (if 0 ≤ (wrap64 ((p : Int) + 2)) then (if (wrap64 ((p : Int) + 2)) < (s.size : Int) then (if (bt s (wrap64 ((p : Int) + 2))) = 61 then (if A.length < 4398046511104 then (wickerref05_Lex.l0 k s (A ++ [(⟨2, E0, (p : Int)⟩ : S41)]) (wrap64 ((p : Int) + 3))) else (none)) else (some (([] : List S41), (p : Int), 6))) else (none)) else (none)) else (some (([] : List S41), (p : Int), 6))) else (none)) else (none))) else (if (b.toNat : Int) = 124 then (if A.length < 4398046511104 then (wickerref05_Lex.l0 k s (A ++ [(⟨3, E0, (p : Int)⟩ : S41)]) (wrap64 ((p : Int) + 1))) else (none)) else (if (b.toNat : Int) = 59 then (if A.length < 4398046511104 then (wickerref05_Lex.l0 k s (A ++ [(⟨4, E0, (p : Int)⟩ : S41)]) (wrap64 ((p : Int) + 1))) else (none)) else (some (([] : List S41), (p : Int), 6))))) := by
    intro k
    rw [wickerref05_Lex.j1, if_neg (by simp), if_neg (by omega), if_neg (by omega), if_neg (by omega)]
  by_cases h3 : (b :: t).take 3 = [58, 58, 61]
  · rw [if_pos h3] at hw
    obtain ⟨c, d, r, rfl⟩ : ∃ c d r, t = c :: d :: r := by
      match t, h3 with
      | c :: d :: r, _ => exact ⟨c, d, r, rfl⟩
      | [], h => simp at h
      | [_], h => simp at h
    simp only [List.take_succ_cons, List.take_zero, List.cons.injEq, and_true] at h3
    obtain ⟨rfl, rfl, rfl⟩ := h3
    obtain ⟨q1, q2⟩ := bt_drop (p := p + 1) g3
    obtain ⟨_, _, g4⟩ := drop_cons g3
    obtain ⟨q3, q4⟩ := bt_drop (p := p + 1 + 1) g4
    subst hw
    have := h0 rfl
    refine Ev.step (fun k => ?_) this
    rw [hstep, if_pos (by decide), e1, e2, if_neg (by omega), if_pos (by omega), if_pos (by omega), q2, if_pos (by decide), if_pos (by omega), if_pos (by omega), q4, if_pos (by decide), if_pos hA2, w64 (by omega) (by omega)]
    rfl
  rw [if_neg h3] at hw
  by_cases h58 : b.toNat = 58
  · rw [if_neg (by omega), if_neg (by omega)] at hw
    subst hw
    rw [h1 (by simp)]
    refine ev_nowS fun k => ?_
    have hb58 : b = 58 := UInt8.toNat_inj.1 h58
    rw [hstep, if_pos (by omega), e1, e2]
    by_cases hs : ((p + 2 : Nat) : Int) ≥ (s.size : Int)
    · rw [if_pos hs]
    rw [if_neg hs, if_pos (by omega), if_pos (by omega)]
    obtain ⟨c, d, r, rfl⟩ : ∃ c d r, t = c :: d :: r := by
      match t, hlen with
      | c :: d :: r, _ => exact ⟨c, d, r, rfl⟩
      | [], h => simp at h; omega
      | [_], h => simp at h; omega
    obtain ⟨q1, q2⟩ := bt_drop (p := p + 1) g3
    obtain ⟨_, _, g4⟩ := drop_cons g3
    obtain ⟨q3, q4⟩ := bt_drop (p := p + 1 + 1) g4
    rw [q2]
    by_cases hc : (c.toNat : Int) = 58
    · rw [if_pos hc, if_pos (by omega), if_pos (by omega), q4, if_neg ?_]
      intro hd
      apply h3
      have hc2 : c = 58 := UInt8.toNat_inj.1 (by show c.toNat = 58; omega)
      have hd2 : d = 61 := UInt8.toNat_inj.1 (by show d.toNat = 61; omega)
      rw [hb58, hc2, hd2]; rfl
    · rw [if_neg hc]
  by_cases h4 : b.toNat = 124
  · rw [if_pos h4] at hw
    subst hw
    have := h0 rfl
    refine Ev.step (fun k => ?_) this
    rw [hstep, if_neg (by omega), if_pos (by omega), if_pos hA2, w64 (by omega) (by omega)]
    rfl
  rw [if_neg h4] at hw
  by_cases h5 : b.toNat = 59
  · rw [if_pos h5] at hw
    subst hw
    have := h0 rfl
    refine Ev.step (fun k => ?_) this
    rw [hstep, if_neg (by omega), if_neg (by omega), if_pos (by omega), if_pos hA2, w64 (by omega) (by omega)]
    rfl
  rw [if_neg h5] at hw
  subst hw
  rw [h1 (by simp)]
  refine ev_nowS fun k => ?_
  rw [hstep, if_neg (by omega), if_neg (by omega), if_neg (by omega)]

theorem ref_enter (s : ByteArray) (A : List S41) (p : Nat) (b : UInt8) (t : List UInt8) (hl : b :: t = s.data.toList.drop p) (k : Nat) : wickerref05_Lex.l0 (k + 1) s A (p : Int) = wickerref05_Lex.j1 k s A (p : Int) (b.toNat : Int) (decide (blank b)) := by
  obtain ⟨g1, g2⟩ := bt_drop hl.symm
  rw [wickerref05_Lex.l0, if_pos (by omega), if_pos (by omega), g2]
  by_cases h32 : (b.toNat : Int) = 32
  · rw [if_pos h32, decide_eq_true (show blank b from Or.inl (by omega))]
  rw [if_neg h32]
  by_cases h9 : (b.toNat : Int) = 9
  · rw [if_pos h9, decide_eq_true (show blank b from Or.inr (Or.inl (by omega)))]
  rw [if_neg h9]
  congr 1
  by_cases h10 : b.toNat = 10
  · rw [decide_eq_true (show blank b from Or.inr (Or.inr h10)), show (b.toNat : Int) = 10 by omega]; rfl
  · rw [decide_eq_false (by unfold blank; omega)]; simp; omega
theorem ref_lex_of (s : ByteArray) (hn : s.size ≤ 1000000) {acc : List Tok} {p : Nat} {l : List UInt8} {R : LexR} (h : Lexes acc p l R) : l = s.data.toList.drop p → p ≤ s.size → acc.length ≤ p →
    Ev (fun k => wickerref05_Lex.l0 k s (acc.map tokR) (p : Int)) (R.1.map tokR, R.2.1, R.2.2) := by
  induction h with
  | done acc p =>
    intro hl hp ha
    have := (skip_end s hn hl.symm hp 0).2
    refine ev_nowS fun k => ?_
    rw [wickerref05_Lex.l0, if_neg (by omega), if_pos (by rw [List.length_map]; omega)]
    simp only [List.map_append, List.map_cons, List.map_nil, tokR, this]
  | @blank acc_ p_ b_ t_ R_ hb k ih =>
    intro hl hp ha
    obtain ⟨h1, h2⟩ := bt_drop hl.symm
    obtain ⟨_, _, h3⟩ := drop_cons hl.symm
    refine Ev.step (ref_enter s _ p_ b_ t_ hl) (Ev.step (fun k => ?_) (ih h3.symm (by omega) (by omega)))
    rw [wickerref05_Lex.j1, if_pos (decide_eq_true hb), w64 (by omega) (by omega)]; rfl
  | @remark acc_ p_ b_ t_ R_ h35 k ih =>
    intro hl hp ha
    obtain ⟨h1, h2⟩ := bt_drop hl.symm
    obtain ⟨_, _, h3⟩ := drop_cons hl.symm
    have hlen := congrArg List.length h3
    rw [List.length_drop, data_length] at hlen
    have hcl := cnt_le 10 t_
    have hk := ih (by rw [← h3, List.drop_drop]; congr 1; omega) (by omega) (by omega)
    refine Ev.step (ref_enter s _ p_ b_ t_ hl) (Ev.step (f := fun k => wickerref05_Lex.l1 k s (acc_.map tokR) (p_ : Int)) (fun k => ?_) ?_)
    · rw [wickerref05_Lex.j1, if_neg (by simp; unfold blank; omega), if_pos (by omega)]
    · refine ref_l1 s hn _ _ (b_ :: t_) p_ hl hp ?_
      have e : cnt 10 (b_ :: t_) = cnt 10 t_ + 1 := by simp only [cnt]; rw [if_neg (by omega)]
      rw [e]; exact hk
  | @word acc_ p_ b_ t_ R_ h1 h2 w hw h0 m hm hm0 hml k ih =>
    intro hl hp ha
    obtain ⟨g1, g2⟩ := bt_drop hl.symm
    have hlen := congrArg List.length hl
    rw [List.length_drop, data_length, List.length_cons] at hlen
    have := ih (by rw [hl, List.drop_drop]) (by omega) (by rw [List.length_append]; simp; omega)
    refine Ev.step (ref_enter s _ p_ b_ t_ hl) ?_
    rw [decide_eq_false h1]
    refine ref_word s hn _ (by rw [List.length_map]; omega) _ p_ b_ t_ hl h2 w hw (fun _ => ?_) (fun h => absurd h0 h)
    rw [hm, show (p_ : Int) + (m : Int) = ((p_ + m : Nat) : Int) by omega]
    rw [List.map_append] at this
    exact this
  | @wrong acc_ p_ b_ t_ h1 h2 h0 =>
    intro hl hp ha
    refine Ev.step (ref_enter s _ p_ b_ t_ hl) ?_
    rw [decide_eq_false h1]
    obtain ⟨g1, g2⟩ := bt_drop hl.symm
    exact ref_word s hn _ (by rw [List.length_map]; omega) _ p_ b_ t_ hl h2 _ rfl (fun h => absurd h h0) (fun _ => rfl)
end Go.Proofs.YtghdnijdbmekjaaDoor.Pure
