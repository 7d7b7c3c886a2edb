/- The pure statement of LexLong: a text of more than 65536 bytes is too long; one of as many isn't. -/
import Derived.Test.YtghdnijdbmekjaaDoorULexReads
import Derived.Test.YtghdnijdbmekjaaDoorGx18
set_option linter.unusedVariables false
set_option linter.unusedSimpArgs false
namespace Go.Proofs.YtghdnijdbmekjaaDoor.Pure
open Go.RowKit Go.Proofs.YtghdnijdbmekjaaDoorW.PrintWords Go.Proofs.YtghdnijdbmekjaaDoor.G

theorem fill_l0 (m : Int) (n : Nat) (hn : n ≤ 100000) (R : Bool) (h : Ev (fun k => wickerlaw05_LexLong.l0 k m (List.replicate n 32) (n : Int) (n : Int)) R) : ∀ (d i : Nat), i + d = n →
    Ev (fun k => wickerlaw05_LexLong.l0 k m (List.replicate i 32 ++ List.replicate d 0) (n : Int) (i : Int)) R := by
  intro d
  induction d with
  | zero =>
    intro i hi
    obtain rfl : i = n := by omega
    rw [List.replicate_zero, List.append_nil]; exact h
  | succ d ih =>
    intro i hi
    refine Ev.step (fun k => ?_) (ih (i + 1) (by omega))
    have hset : (List.replicate i (32 : Int) ++ List.replicate (d + 1) 0).set i 32 = List.replicate (i + 1) 32 ++ List.replicate d 0 := by
      rw [List.set_append, if_neg (by simp), List.length_replicate, Nat.sub_self, List.replicate_succ, List.set_cons_zero, List.replicate_succ', List.append_assoc]; rfl
    rw [wickerlaw05_LexLong.l0, if_pos (by omega), if_pos (by omega), if_pos (by simp; omega), Int.toNat_natCast, hset, w64 (by omega) (by omega)]
    rfl
theorem lexes_blanks : ∀ (n : Nat) (p : Nat), Lexes [] p (List.replicate n 32) ([(5, E0, ((p + n : Nat) : Int))], 0, 0) := by
  intro n
  induction n with
  | zero => intro p; exact Lexes.done [] p
  | succ n ih =>
    intro p
    rw [List.replicate_succ]
    have := ih (p + 1)
    rw [show p + 1 + n = p + (n + 1) by omega] at this
    exact .blank (Or.inl rfl) this
theorem LexLong (a : Int) (ha : (Lit.int .u8 a).wf = true) : ∃ k, wickerlaw05_LexLong.f k a = some true := by
  have hb : 0 ≤ a ∧ a ≤ 255 := by
    simp [Lit.wf, IntKind.min, IntKind.max, IntKind.signed, IntKind.bits] at ha
    omega
  apply Ev.rounds
  unfold wickerlaw05_LexLong.f
  obtain ⟨n, hn⟩ := Int.eq_ofNat_of_zero_le (show 0 ≤ 65500 + a % 80 by omega)
  have hm : wrap64 (65500 + wrap64 (Int.tmod a 80)) = (n : Int) := by
    rw [Int.tmod_eq_emod_of_nonneg hb.1, w64 (i := a % 80) (by omega) (by omega), w64 (by omega) (by omega), hn]
  rw [hm]
  refine Ev.pos (by omega) (Ev.pos (by omega) (Ev.got rfl ?_))
  rw [Int.toNat_natCast, List.length_replicate]
  have key := fill_l0 (n : Int) n (by omega) true ?_ n 0 (by omega)
  · rw [List.replicate_zero, List.nil_append] at key; exact key
  have hs : (strOfNums (List.replicate n 32)).data.toList = List.replicate n 32 := by
    rw [strOfNums_data, List.map_replicate]; rfl
  have hsz : (strOfNums (List.replicate n 32)).size = n := by rw [← data_length, hs, List.length_replicate]
  have hx : ∀ R : List S45 × Int × Int, Ev (fun k => lex_Lex.f k (strOfNums (List.replicate n 32))) R → R.2.1 = 0 → ((R.2.2 == 5) == decide ((n : Int) > 65536)) = true → ((((R.1.length : Int) == 1) == decide ((n : Int) ≤ 65536)) = true) →
      Ev (fun k => wickerlaw05_LexLong.l0 k (n : Int) (List.replicate n 32) (n : Int) (n : Int)) true := by
    intro R hR h1 h2 h3
    refine Ev.step (fun k => ?_) (Ev.bind hR (f := fun k x => (wickerlaw05_Awake.f k).bind fun t => if t = true then (if x.2.1 = 0 then (if ((x.2.2 == 5) == decide ((n : Int) > 65536)) = true then some (((x.1.length : Int) == 1) == (decide ((n : Int) ≤ 65536))) else some false) else some false) else some false) (Ev.bind awake5 (Ev.pos rfl (Ev.pos h1 (Ev.pos h2 (ev_now fun k => by rw [h3]))))))
    rw [wickerlaw05_LexLong.l0, if_neg (by omega)]
  by_cases hbig : (n : Int) > 65536
  · refine hx ([], 0, 5) ?_ rfl (by rw [decide_eq_true hbig]; rfl) (by rw [decide_eq_false (by omega)]; rfl)
    unfold lex_Lex.f
    exact Ev.pos (by rw [hsz]; exact hbig) (Ev.now _)
  · have hP := lex_of (strOfNums (List.replicate n 32)) (by omega) (lexes_blanks n 0) (by rw [List.drop_zero, hs]) (by omega) (by simp)
    refine hx ([(5, E0, ((0 + n : Nat) : Int))].map tokP, 0, 0) ?_ rfl ?_ ?_
    · unfold lex_Lex.f
      exact Ev.neg (by rw [hsz]; exact hbig) hP
    · rw [decide_eq_false hbig]; rfl
    · rw [decide_eq_true (by omega)]; rfl
end Go.Proofs.YtghdnijdbmekjaaDoor.Pure
