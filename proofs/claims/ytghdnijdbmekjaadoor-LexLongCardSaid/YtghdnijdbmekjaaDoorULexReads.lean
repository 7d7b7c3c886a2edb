/- The pure statement of LexReads: the words of any text, or what is wrong and where, are the document's answer. -/
import Derived.Test.YtghdnijdbmekjaaDoorULexS
import Derived.Test.YtghdnijdbmekjaaDoorUNames0
import Derived.Test.YtghdnijdbmekjaaDoorGx17
set_option linter.unusedVariables false
set_option linter.unusedSimpArgs false
namespace Go.Proofs.YtghdnijdbmekjaaDoor.Pure
open Go.RowKit Go.Proofs.YtghdnijdbmekjaaDoorW.PrintWords Go.Proofs.YtghdnijdbmekjaaDoor.G

theorem awake5_at : wickerlaw05_Awake.f 60 = some true := by kernel_rfl
theorem awake5 : Ev wickerlaw05_Awake.f true := Ev.of wickerlaw05_Awake.mono awake5_at

theorem lexes_short {acc : List Tok} {p : Nat} {l : List UInt8} {R : LexR} (h : Lexes acc p l R) : acc.length ≤ p → R.1.length ≤ p + l.length + 1 := by
  induction h with
  | done acc p => intro h; simp; omega
  | blank hb k ih => intro h; have := ih (by omega); simp only [List.length_cons]; omega
  | @remark acc_ p_ b_ t_ R_ h35 k ih => intro h; have := ih (by omega); have := cnt_le 10 t_; simp only [List.length_cons, List.length_drop] at *; omega
  | word h1 h2 w hw h0 m hm hm0 hml k ih => intro h; have := ih (by simp; omega); simp only [List.length_cons, List.length_drop] at *; omega
  | wrong h1 h2 h0 => intro h; simp
theorem same_l0 (L : List Tok) (hL : L.length ≤ 1000000) : ∀ (d i : Nat), i + d = L.length → Ev (fun k => wickerlaw05_LexReads.l0 k (L.map tokP) (L.map tokR) ((L.map tokP).length : Int) (i : Int)) true := by
  intro d
  induction d with
  | zero =>
    intro i hi
    refine Ev.step (f := fun k => (wickerlaw05_Awake.f k).bind fun t => some t) (fun k => ?_) (Ev.bind awake5 (Ev.now _))
    rw [wickerlaw05_LexReads.l0, if_neg (by rw [List.length_map]; omega)]
  | succ d ih =>
    intro i hi
    have h1 : rd_T45 (L.map tokP) (i : Int) = tokP (L[i]'(by omega)) := by
      unfold rd_T45
      rw [Int.toNat_natCast, List.getD_eq_getElem?_getD, List.getElem?_map, List.getElem?_eq_getElem (by omega)]; rfl
    have h2 : rd_T41 (L.map tokR) (i : Int) = tokR (L[i]'(by omega)) := by
      unfold rd_T41
      rw [Int.toNat_natCast, List.getD_eq_getElem?_getD, List.getElem?_map, List.getElem?_eq_getElem (by omega)]; rfl
    refine Ev.step (fun k => ?_) (ih (i + 1) (by omega))
    rw [wickerlaw05_LexReads.l0, if_pos (by rw [List.length_map]; omega), if_pos (by omega), if_pos (by rw [List.length_map]; omega)]
    simp only [wickerlaw05_of.f, Option.bind_some]
    rw [if_pos (by rw [List.length_map]; omega), h1, h2, if_neg (by simp [tokP, tokR]), w64 (by omega) (by omega)]
    rfl
theorem LexReads (s : ByteArray) : ∃ k, wickerlaw05_LexReads.f k s = some true := by
  apply Ev.rounds
  unfold wickerlaw05_LexReads.f
  by_cases h : (s.size : Int) > 3000
  · exact Ev.pos h (Ev.bind awake5 (Ev.now _))
  have hs : s.size ≤ 1000000 := by omega
  obtain ⟨R, hR⟩ := lexes_total (s.data.toList.length + 1) [] 0 s.data.toList (by omega)
  have hsh := lexes_short hR (by simp)
  rw [data_length] at hsh
  have hP := lex_of s hs hR (by simp) (by omega) (by simp)
  have hQ := ref_lex_of s hs hR (by simp) (by omega) (by simp)
  have hP2 : Ev (fun k => lex_Lex.f k s) (R.1.map tokP, R.2.1, R.2.2) := by
    unfold lex_Lex.f
    exact Ev.neg (by omega) hP
  have hQ2 : Ev (fun k => wickerref05_Lex.f k s) (R.1.map tokR, R.2.1, R.2.2) := by
    unfold wickerref05_Lex.f
    exact Ev.neg (by omega) hQ
  refine Ev.neg h (Ev.bind hP2 (Ev.bind hQ2 (Ev.pos rfl (Ev.pos rfl ?_))))
  refine Ev.step (fun k => ?_) (same_l0 R.1 (by omega) R.1.length 0 (by omega))
  rw [wickerlaw05_LexReads.j0, if_neg (by simp)]
  rfl
end Go.Proofs.YtghdnijdbmekjaaDoor.Pure
