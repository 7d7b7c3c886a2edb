/- The document's example of the lexer; how many words there are. -/
import Derived.Test.YtghdnijdbmekjaaDoorULexS
import Derived.Test.YtghdnijdbmekjaaDoorHx12
set_option linter.unusedVariables false
set_option linter.unusedSimpArgs false
namespace Go.Proofs.YtghdnijdbmekjaaDoor.Pure
open Go.RowKit Go.Proofs.YtghdnijdbmekjaaDoorW.PrintWords Go.Proofs.YtghdnijdbmekjaaDoor.H
theorem awake5_at : wickerlaw05_Awake.f 60 = some true := by kernel_rfl
theorem awake5 : Ev wickerlaw05_Awake.f true := Ev.of wickerlaw05_Awake.mono awake5_at

theorem lexes_short {acc : List Tok} {p : Nat} {l : List UInt8} {R : LexR} (h : Lexes acc p l R) : acc.length ≤ p → R.1.length ≤ p + l.length + 1 := by
  induction h with
  | done acc p => intro h; simp; omega
  | blank hb k ih => intro h; have := ih (by omega); simp only [List.length_cons]; omega
  | @remark acc_ p_ b_ t_ R_ h35 k ih => intro h; have := ih (by omega); have := cnt_le 10 t_; simp only [List.length_cons, List.length_drop] at *; omega
  | word h1 h2 w hw h0 m hm hm0 hml k ih => intro h; have := ih (by simp; omega); simp only [List.length_cons, List.length_drop] at *; omega
  | wrong h1 h2 h0 => intro h; simp
end Go.Proofs.YtghdnijdbmekjaaDoor.Pure
