/- The pure statement of NamesBack: a mark, quoted, whatever is behind, is unquoted as it was. -/
import Derived.Test.YtghdnijdbmekjaaDoorUBase
import Derived.Test.YtghdnijdbmekjaaDoorUUnq
import Derived.Test.YtghdnijdbmekjaaDoorUUnq2
import Derived.Test.YtghdnijdbmekjaaDoorUAwake1
import Derived.Test.YtghdnijdbmekjaaDoorGx15
import Derived.Lib.SmallJoins
set_option linter.unusedVariables false
set_option linter.unusedSimpArgs false
namespace Go.Proofs.YtghdnijdbmekjaaDoor.Pure
open Go.RowKit Go.Proofs.YtghdnijdbmekjaaDoorW.PrintWords Go.Proofs.YtghdnijdbmekjaaDoor.G

theorem ofNat_eq {b : UInt8} {n : Nat} (h : b.toNat = n) : UInt8.ofNat n = b := by rw [← h]; simp
theorem hv_hexd (n : Nat) (h : n < 16) : hv (hexd n) = n := by
  unfold hv
  rw [hexd_toNat n h]
  by_cases h10 : n < 10
  · rw [if_pos h10, if_pos (by omega)]; omega
  · rw [if_neg h10, if_neg (by omega), if_pos (by omega)]; omega
theorem unq_esc (n : Nat) (acc : List UInt8) (p : Int) (b : UInt8) (r : List UInt8) : unq (n + 1) acc p (escB b ++ r) = unq n (acc ++ [b]) (p + (escB b).length) r := by
  have hb := UInt8.toNat_lt b
  by_cases h10 : b.toNat = 10
  · have he : escB b = [92, 110] := by unfold escB; rw [if_pos h10]
    have := ofNat_eq h10
    rw [he]; subst this
    simp only [unq, List.cons_append, List.nil_append]
    rw [if_neg (by decide), if_pos (by decide)]
    rw [if_pos (by rfl)]
    show unq n (acc ++ [UInt8.ofNat 10]) (p + 1 + 1) r = unq n (acc ++ [UInt8.ofNat 10]) (p + 2) r
    rw [show p + 1 + 1 = p + 2 by omega]
  by_cases h9 : b.toNat = 9
  · have he : escB b = [92, 116] := by unfold escB; rw [if_neg h10, if_pos h9]
    have := ofNat_eq h9
    rw [he]; subst this
    simp only [unq, List.cons_append, List.nil_append]
    rw [if_neg (by decide), if_pos (by decide)]
    rw [if_pos (by rfl)]
    show unq n (acc ++ [UInt8.ofNat 9]) (p + 1 + 1) r = unq n (acc ++ [UInt8.ofNat 9]) (p + 2) r
    rw [show p + 1 + 1 = p + 2 by omega]
  by_cases hp : b.toNat < 32 ∨ 126 < b.toNat
  · have he : escB b = [92, 120, hexd (b.toNat / 16), hexd (b.toNat % 16)] := by unfold escB; rw [if_neg h10, if_neg h9, if_pos hp]
    have h1 := hv_hexd (b.toNat / 16) (by omega)
    have h2 := hv_hexd (b.toNat % 16) (by omega)
    have hes : escS (120 :: hexd (b.toNat / 16) :: hexd (b.toNat % 16) :: r) = ((b.toNat : Int), 3, 0) := by
      rw [escS_cons, if_neg (by decide), if_neg (by decide), if_neg (by decide), if_pos (by decide)]
      simp only []
      rw [h1, h2, if_neg (by omega), if_neg (by omega)]
      congr 1
      omega
    rw [he]
    simp only [unq, List.cons_append, List.nil_append]
    rw [if_neg (by decide), if_pos (by decide), hes]
    simp only [if_true]
    rw [show (b.toNat : Int).toNat = b.toNat by omega, show UInt8.ofNat b.toNat = b from ofNat_eq rfl]
    show unq n (acc ++ [b]) (p + 3 + 1) r = unq n (acc ++ [b]) (p + 4) r
    rw [show p + 3 + 1 = p + 4 by omega]
  by_cases hq : b.toNat = 34 ∨ b.toNat = 92
  · have he : escB b = [92, b] := by unfold escB; rw [if_neg h10, if_neg h9, if_neg hp, if_pos hq]
    have hes : escS (b :: r) = ((b.toNat : Int), 1, 0) := by
      rw [escS_cons, if_neg (by omega), if_neg (by omega), if_pos hq]
    rw [he]
    simp only [unq, List.cons_append, List.nil_append]
    rw [if_neg (by decide), if_pos (by decide), hes]
    simp only [if_true]
    rw [show (b.toNat : Int).toNat = b.toNat by omega, show UInt8.ofNat b.toNat = b from ofNat_eq rfl]
    show unq n (acc ++ [b]) (p + 1 + 1) r = unq n (acc ++ [b]) (p + 2) r
    rw [show p + 1 + 1 = p + 2 by omega]
  · have he : escB b = [b] := by unfold escB; rw [if_neg h10, if_neg h9, if_neg hp, if_neg hq]
    rw [he]
    simp only [unq, List.cons_append, List.nil_append]
    rw [if_neg (by omega), if_neg (by omega), if_pos (by omega)]
    rfl
theorem unq_back (rest : List UInt8) : ∀ (l acc : List UInt8) (p : Int) (n : Nat), l.length < n →
    unq n acc p (l.flatMap escB ++ 34 :: rest) = if markL (acc ++ l) = true then (⟨(acc ++ l).toArray⟩, p + (l.flatMap escB).length + 1, 0) else (E0, 0, 5) := by
  intro l
  induction l with
  | nil =>
    intro acc p n hn
    obtain ⟨n, rfl⟩ : ∃ m, n = m + 1 := ⟨n - 1, by omega⟩
    simp only [List.flatMap_nil, List.nil_append, unq, List.append_nil]
    rw [if_pos (by decide)]
    simp
  | cons b l ih =>
    intro acc p n hn
    simp only [List.length_cons] at hn
    obtain ⟨n, rfl⟩ : ∃ m, n = m + 1 := ⟨n - 1, by omega⟩
    rw [List.flatMap_cons, List.append_assoc, unq_esc, ih _ _ _ (by omega), List.append_assoc]
    simp only [List.cons_append, List.nil_append, List.length_append]
    have : p + ((escB b).length : Int) + ((l.flatMap escB).length : Int) + 1 = p + (((escB b).length + (l.flatMap escB).length : Nat) : Int) + 1 := by omega
    rw [this]
theorem unquote_quote (l behind : List UInt8) : unquoteS (quoteL l ++ behind) = if markL l = true then (⟨l.toArray⟩, ((quoteL l).length : Int), 0) else (E0, 0, 5) := by
  have e : quoteL l ++ behind = 34 :: (l.flatMap escB ++ 34 :: behind) := by simp [quoteL]
  have hle : l.length ≤ (l.flatMap escB).length := by
    induction l with
    | nil => simp
    | cons b l ih =>
      have : 1 ≤ (escB b).length := by unfold escB; split <;> (try split) <;> (try split) <;> (try split) <;> simp
      have ih := ih (by simp [quoteL])
      simp only [List.flatMap_cons, List.length_append, List.length_cons]; omega
  rw [e]
  simp only [unquoteS]
  rw [if_pos (by decide), unq_back behind l [] 1 _ (by simp only [List.length_append]; omega), List.nil_append]
  have : (1 : Int) + ((l.flatMap escB).length : Int) + 1 = ((quoteL l).length : Int) := by simp [quoteL]; omega
  rw [this]
theorem quoteL_le (l : List UInt8) : (quoteL l).length ≤ 4 * l.length + 2 := by
  have := escL_le l
  simp only [quoteL, List.length_cons, List.length_append, List.length_nil]; omega

theorem NamesBack (s b : ByteArray) : ∃ k, wickerlaw01_NamesBack.f k s b = some true := by
  apply Ev.rounds
  have aw : Ev (fun k => wickerlaw01_NamesBack.j0 k s b true) true := Ev.step (f := fun k => (wickerlaw01_Awake.f k).bind fun t => some t) (fun k => by simp only [wickerlaw01_NamesBack.j0]; rfl) (Ev.bind awake1 (Ev.now _))
  unfold wickerlaw01_NamesBack.f
  by_cases h : (s.size : Int) > 200
  · exact Ev.pos h aw
  refine Ev.neg h ?_
  by_cases h2 : (b.size : Int) > 100
  · rw [decide_eq_true h2]; exact aw
  rw [decide_eq_false h2]
  have hs : s.size ≤ 1000000000000 := by omega
  have hl := data_length s
  have hq := quoteL_le s.data.toList
  have hqs : (⟨(quoteL s.data.toList).toArray⟩ : ByteArray).size = (quoteL s.data.toList).length := by rw [← data_length]
  have hlist : ((⟨(quoteL s.data.toList).toArray⟩ : ByteArray) ++ b).data.toList = quoteL s.data.toList ++ b.data.toList := Joins.data_append _ _
  have hsz : ((⟨(quoteL s.data.toList).toArray⟩ : ByteArray) ++ b).size ≤ 1000000000000 := by
    rw [← data_length, hlist, List.length_append, data_length]; omega
  have hun := unquote_f _ hsz
  rw [hlist, unquote_quote] at hun
  refine Ev.step (f := fun k => _) (fun k => by rw [wickerlaw01_NamesBack.j0, if_neg (by simp)]) ?_
  refine Ev.got (quote_f s hs) (Ev.pos (by rw [hqs]; omega) (Ev.bind hun (Ev.got (mark_f s) ?_)))
  by_cases hm : markL s.data.toList = true
  · rw [hm]
    refine Ev.pos rfl (Ev.bind awake1 (Ev.pos rfl ?_))
    simp only [if_true]
    exact ev_now fun k => by rw [hqs]; simp
  · have hm' : markL s.data.toList = false := by simpa using hm
    rw [hm']
    refine Ev.neg (by simp) (Ev.bind awake1 (Ev.pos rfl ?_))
    exact Ev.pos rfl (Ev.pos ((ba_nil _).2 rfl) (ev_now fun k => rfl))
end Go.Proofs.YtghdnijdbmekjaaDoor.Pure
