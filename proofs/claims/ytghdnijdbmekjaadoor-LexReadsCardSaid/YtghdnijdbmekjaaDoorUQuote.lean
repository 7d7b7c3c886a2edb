/- What the two texts of 'Quote' answer: one plain function. -/
import Derived.Test.YtghdnijdbmekjaaDoorUBase
import Derived.Test.YtghdnijdbmekjaaDoorGx9
import Derived.Test.YtghdnijdbmekjaaDoorGx13
set_option linter.unusedVariables false
set_option linter.unusedSimpArgs false
namespace Go.Proofs.YtghdnijdbmekjaaDoor.Pure
open Go.RowKit Go.Proofs.YtghdnijdbmekjaaDoorW.PrintWords Go.Proofs.YtghdnijdbmekjaaDoor.G

def numsL (l : List UInt8) : List Int := l.map fun b => (b.toNat : Int)
theorem numsL_append (a b : List UInt8) : numsL (a ++ b) = numsL a ++ numsL b := by simp [numsL]
theorem numsL_length (a : List UInt8) : (numsL a).length = a.length := by simp [numsL]
theorem strOf_numsL (l : List UInt8) : strOfNums (numsL l) = ⟨l.toArray⟩ := by
  apply ba_ext
  rw [strOfNums_data, numsL, List.map_map]
  exact (List.map_congr_left (g := id) (fun b _ => by simp)).trans (List.map_id l)
theorem hexd_toNat (n : Nat) (h : n < 16) : (hexd n).toNat = if n < 10 then 48 + n else 87 + n := by
  unfold hexd
  split <;> simp <;> omega
theorem hex_f (n : Nat) (h : n < 16) : wickerref01_hex.f (n : Int) = some ((hexd n).toNat : Int) := by
  unfold wickerref01_hex.f
  rw [hexd_toNat n h]
  by_cases h10 : n < 10
  · rw [if_pos (by omega), if_pos h10, w64 (by omega) (by omega)]; congr 1; omega
  · rw [if_neg (by omega), if_neg h10, w64 (by omega) (by omega)]; congr 1; omega

theorem ref_quote_l0 (s : ByteArray) (hn : s.size ≤ 1000000000000) : ∀ (d i : Nat) (acc : List UInt8), i + d = s.size → acc.length ≤ 4 * i + 1 →
    Ev (fun k => wickerref01_Quote.l0 k s (numsL acc) (i : Int)) ⟨(acc ++ ((s.data.toList.drop i).flatMap escB ++ [34])).toArray⟩ := by
  intro d
  induction d with
  | zero =>
    intro i acc hi ha
    refine ev_nowS fun k => ?_
    simp only [wickerref01_Quote.l0]
    rw [if_neg (by omega), List.drop_eq_nil_of_le (by rw [data_length]; omega), if_pos (by rw [numsL_length]; omega)]
    have : numsL acc ++ [34] = numsL (acc ++ [34]) := by simp [numsL]
    rw [this, strOf_numsL]; rfl
  | succ d ih =>
    intro i acc hi ha
    have hl : i < s.data.toList.length := by rw [data_length]; omega
    have hb := bt_get s i hl
    have e1 : wrap64 ((i : Int) + 1) = ((i + 1 : Nat) : Int) := by rw [w64 (by omega) (by omega)]; omega
    rw [List.drop_eq_getElem_cons hl, List.flatMap_cons]
    generalize s.data.toList[i] = b at hb
    have hb2 : b.toNat < 256 := UInt8.toNat_lt b
    have hlen := escB_le b
    have key := ih (i + 1) (acc ++ escB b) (by omega) (by rw [List.length_append]; omega)
    have hal : (numsL acc).length + 4 < 140737488355328 := by rw [numsL_length]; omega
    refine Ev.eq (r := ⟨((acc ++ escB b) ++ ((s.data.toList.drop (i + 1)).flatMap escB ++ [34])).toArray⟩) ?_ (by simp)
    rw [numsL_append] at key
    by_cases h10 : b.toNat = 10
    · have he : escB b = [92, 110] := by unfold escB; rw [if_pos h10]
      refine Ev.step (fun k => ?_) key
      simp only [wickerref01_Quote.l0]
      rw [if_pos (by omega), if_pos (by omega), hb, if_pos (by omega), Option.bind_some, if_pos (by simp only [List.length_cons, List.length_nil]; omega), he, e1]; rfl
    by_cases h9 : b.toNat = 9
    · have he : escB b = [92, 116] := by unfold escB; rw [if_neg h10, if_pos h9]
      refine Ev.step (fun k => ?_) key
      simp only [wickerref01_Quote.l0]
      rw [if_pos (by omega), if_pos (by omega), hb, if_neg (by omega), if_pos (by omega), Option.bind_some, if_pos (by simp only [List.length_cons, List.length_nil]; omega), he, e1]; rfl
    by_cases hp : b.toNat < 32 ∨ 126 < b.toNat
    · have he : escB b = [92, 120, hexd (b.toNat / 16), hexd (b.toNat % 16)] := by unfold escB; rw [if_neg h10, if_neg h9, if_pos hp]
      refine Ev.step (f := fun k => wickerref01_Quote.j1 k s (numsL acc) (i : Int) (b.toNat : Int) true) (fun k => ?_) (Ev.step (fun k => ?_) key)
      · simp only [wickerref01_Quote.l0]
        rw [if_pos (by omega), if_pos (by omega), hb, if_neg (by omega), if_neg (by omega)]
        by_cases h32 : (b.toNat : Int) < 32
        · rw [if_pos h32]
        · rw [if_neg h32, decide_eq_true (by omega)]
      · simp only [wickerref01_Quote.j1]
        rw [if_pos trivial, w64 (i := (b.toNat : Int)) (by omega) (by omega), Int.tdiv_eq_ediv_of_nonneg (by omega), Int.tmod_eq_emod_of_nonneg (by omega), w64 (i := (b.toNat : Int) / 16) (by omega) (by omega),
          show (b.toNat : Int) / 16 = ((b.toNat / 16 : Nat) : Int) by omega, show (b.toNat : Int) % 16 = ((b.toNat % 16 : Nat) : Int) by omega, hex_f _ (by omega), Option.bind_some, hex_f _ (by omega), Option.bind_some, Option.bind_some, if_pos (by simp only [List.length_cons, List.length_nil]; omega), he, e1]; rfl
    have hj : ∀ k, wickerref01_Quote.l0 (k + 1) s (numsL acc) (i : Int) = wickerref01_Quote.j1 k s (numsL acc) (i : Int) (b.toNat : Int) false := by
      intro k
      simp only [wickerref01_Quote.l0]
      rw [if_pos (by omega), if_pos (by omega), hb, if_neg (by omega), if_neg (by omega), if_neg (by omega), decide_eq_false (by omega)]
    by_cases hq : b.toNat = 34 ∨ b.toNat = 92
    · have he : escB b = [92, b] := by unfold escB; rw [if_neg h10, if_neg h9, if_neg hp, if_pos hq]
      refine Ev.step hj (Ev.step (fun k => ?_) key)
      simp only [wickerref01_Quote.j1]
      rw [if_neg (by simp)]
      by_cases h34 : (b.toNat : Int) = 34
      · rw [if_pos h34, Option.bind_some, if_pos (by simp only [List.length_cons, List.length_nil]; omega), he, e1]; rfl
      · rw [if_neg h34, if_pos (by omega), Option.bind_some, if_pos (by simp only [List.length_cons, List.length_nil]; omega), he, e1]; rfl
    · have he : escB b = [b] := by unfold escB; rw [if_neg h10, if_neg h9, if_neg hp, if_neg hq]
      refine Ev.step hj (Ev.step (fun k => ?_) key)
      simp only [wickerref01_Quote.j1]
      rw [if_neg (by simp), if_neg (by omega), if_neg (by omega), if_pos (by omega), he, e1]; rfl

theorem ref_quote_f (s : ByteArray) (hn : s.size ≤ 1000000000000) : Ev (fun k => wickerref01_Quote.f k s) ⟨(quoteL s.data.toList).toArray⟩ := by
  have := ref_quote_l0 s hn s.size 0 [34] (by omega) (by simp)
  refine Ev.eq this ?_
  simp [quoteL]
theorem quote_f (s : ByteArray) (hn : s.size ≤ 1000000000000) : names_Quote.f s = some ⟨(quoteL s.data.toList).toArray⟩ := by
  unfold names_Quote.f; rw [if_pos (by omega)]
end Go.Proofs.YtghdnijdbmekjaaDoor.Pure
