/- The two texts of 'Lex' answer what the relation tells. -/
import Derived.Test.YtghdnijdbmekjaaDoorULex
set_option linter.unusedVariables false
set_option linter.unusedSimpArgs false
namespace Go.Proofs.YtghdnijdbmekjaaDoor.Pure
open Go.RowKit Go.Proofs.YtghdnijdbmekjaaDoorW.PrintWords Go.Proofs.YtghdnijdbmekjaaDoor.G

theorem Ev.unbind {α β : Type} {g : Nat → Option α} {F : Nat → α → Option β} {R : β} (hg : ∀ k, LeO (g k) (g (k + 1))) (h : Ev (fun k => (g k).bind (F k)) R) : ∃ a, Ev g a ∧ Ev (fun k => F k a) R := by
  obtain ⟨K, h⟩ := h
  have h0 := h K (Nat.le_refl _)
  obtain ⟨a, ha, _⟩ := Option.bind_eq_some_iff.1 h0
  refine ⟨a, Ev.of hg ha, K, fun k hk => ?_⟩
  have h1 := h k hk
  have h2 := at_rounds hg hk ha
  simp only [h2, Option.bind_some] at h1
  exact h1
theorem Ev.uniq {α : Type} {g : Nat → Option α} {a b : α} (h : Ev g a) (k : Ev g b) : a = b := by
  obtain ⟨K, h⟩ := h
  obtain ⟨K', k⟩ := k
  have h1 := h (max K K') (by omega)
  have h2 := k (max K K') (by omega)
  rw [h1] at h2
  exact Option.some.inj h2
theorem Ev.back {α : Type} {g f : Nat → Option α} {r : α} (n : Nat) (h : ∀ k, g (k + n) = f k) (k : Ev g r) : Ev f r := by
  obtain ⟨K, k⟩ := k
  exact ⟨K, fun m hm => by rw [← h]; exact k (m + n) (by omega)⟩

theorem drop_cons {l : List UInt8} {p : Nat} {b : UInt8} {t : List UInt8} (h : l.drop p = b :: t) : p < l.length ∧ l[p]? = some b ∧ l.drop (p + 1) = t := by
  have hp : p < l.length := by
    rcases Nat.lt_or_ge p l.length with h' | h'
    · exact h'
    · rw [List.drop_eq_nil_of_le h'] at h; cases h
  rw [List.drop_eq_getElem_cons hp] at h
  injection h with h1 h2
  exact ⟨hp, by rw [List.getElem?_eq_getElem hp, h1], h2⟩
theorem bt_drop {s : ByteArray} {p : Nat} {b : UInt8} {t : List UInt8} (h : s.data.toList.drop p = b :: t) : p < s.size ∧ bt s (p : Int) = (b.toNat : Int) := by
  obtain ⟨h1, h2, _⟩ := drop_cons h
  refine ⟨by rwa [data_length] at h1, ?_⟩
  rw [bt_get s p h1]
  rw [List.getElem?_eq_getElem h1] at h2
  rw [Option.some.inj h2]
theorem wr1 (s : ByteArray) (hn : s.size ≤ 1000000) (p : Nat) (h : p ≤ s.size) (i : Nat) (hi : i ≤ 100) : wrap64 ((p : Int) + (i : Int)) = ((p + i : Nat) : Int) := by rw [w64 (by omega) (by omega)]; omega

theorem skip_blank (s : ByteArray) (hn : s.size ≤ 1000000) {p : Nat} {b : UInt8} {t : List UInt8} (h : s.data.toList.drop p = b :: t) (hb : blank b) (k : Nat) : lex_skip.l0 (k + 2) s (p : Int) = lex_skip.l0 k s ((p + 1 : Nat) : Int) := by
  obtain ⟨h1, h2⟩ := bt_drop h
  have e1 := wr1 s hn p (by omega) 1 (by omega)
  have hj : ∀ q, q = true → lex_skip.j1 (k + 1) s (p : Int) q = lex_skip.l0 k s ((p + 1 : Nat) : Int) := fun q hq => by
    rw [lex_skip.j1, if_pos hq, show (1 : Int) = ((1 : Nat) : Int) from rfl, e1]
  unfold blank at hb
  rw [show k + 2 = (k + 1) + 1 from rfl, lex_skip.l0, if_pos (by omega), if_pos (by omega), h2, if_neg (by omega)]
  by_cases h32 : (b.toNat : Int) = 32
  · rw [if_pos h32]; exact hj _ (by rw [h32]; rfl)
  rw [if_neg h32]
  by_cases h9 : (b.toNat : Int) = 9
  · rw [if_pos h9]; exact hj _ (by rw [h9]; rfl)
  rw [if_neg h9]
  exact hj _ (by rw [show (b.toNat : Int) = 10 by omega]; rfl)
theorem skip_stop (s : ByteArray) (hn : s.size ≤ 1000000) {p : Nat} {b : UInt8} {t : List UInt8} (h : s.data.toList.drop p = b :: t) (hb : ¬ blank b) (h35 : ¬ b.toNat = 35) (k : Nat) : lex_skip.l0 (k + 2) s (p : Int) = some (p : Int) := by
  obtain ⟨h1, h2⟩ := bt_drop h
  unfold blank at hb
  rw [show k + 2 = (k + 1) + 1 from rfl, lex_skip.l0, if_pos (by omega), if_pos (by omega), h2, if_neg (by omega), if_neg (by omega), if_neg (by omega), lex_skip.j1, if_neg (by simp; omega)]
theorem skip_end (s : ByteArray) (hn : s.size ≤ 1000000) {p : Nat} (h : s.data.toList.drop p = []) (hp : p ≤ s.size) (k : Nat) : lex_skip.l0 (k + 1) s (p : Int) = some (p : Int) ∧ p = s.size := by
  have hl : s.size ≤ p := by
    have := congrArg List.length h
    rw [List.length_drop, data_length, List.length_nil] at this
    omega
  exact ⟨by rw [lex_skip.l0, if_neg (by omega)], by omega⟩
theorem skip_remark (s : ByteArray) (hn : s.size ≤ 1000000) {p : Nat} {b : UInt8} {t : List UInt8} (h : s.data.toList.drop p = b :: t) (h35 : b.toNat = 35) {a : Int} (hk : Ev (fun k => lex_skip.l0 k s ((p + (cnt 10 t + 1) : Nat) : Int)) a) : Ev (fun k => lex_skip.l0 k s (p : Int)) a := by
  obtain ⟨h1, h2⟩ := bt_drop h
  obtain ⟨_, _, h3⟩ := drop_cons h
  have hex : (s.extract p s.size).data.toList = b :: t := by rw [Lib.extract_to_end, h]
  have hlen : t.length + 1 + p = s.size := by
    have := congrArg List.length h
    rw [List.length_drop, data_length, List.length_cons] at this
    omega
  have hidx : strings_IndexByte.f (s.extract p s.size) 10 = some (if cnt 10 t < t.length then (cnt 10 t : Int) + 1 else -1) := by
    unfold strings_IndexByte.f
    rw [hex, show ((10 : Int).toNat.toUInt8) = (10 : UInt8) from rfl, index_cnt]
    have e : cnt (10 : UInt8).toNat (b :: t) = cnt 10 t + 1 := by
      show cnt 10 (b :: t) = _
      simp only [cnt]; rw [if_neg (by omega)]
    rw [e]
    simp only [List.length_cons]
    by_cases hc : cnt 10 t < t.length
    · rw [if_pos (by omega), if_pos hc]; rfl
    · rw [if_neg (by omega), if_neg hc]
  have hcl := cnt_le 10 t
  by_cases hc : cnt 10 t < t.length
  · rw [if_pos hc] at hidx
    have hd : s.data.toList.drop (p + (cnt 10 t + 1)) = t[cnt 10 t] :: t.drop (cnt 10 t + 1) := by
      rw [← List.drop_eq_getElem_cons hc, ← h3, List.drop_drop]; congr 1; omega
    have hnl : blank t[cnt 10 t] := Or.inr (Or.inr (cnt_at 10 t hc))
    have hk2 := Ev.back (g := fun k => lex_skip.l0 k s ((p + (cnt 10 t + 1) : Nat) : Int)) 2 (fun k => skip_blank s hn hd hnl k) hk
    refine Ev.step (fun k => ?_) hk2
    rw [lex_skip.l0, if_pos (by omega), if_pos (by omega), h2, if_pos (by omega), if_pos (by omega), show ((p : Int)).toNat = p by omega, hidx, Option.bind_some, if_neg (by omega), w64 (i := (p : Int) + ((cnt 10 t : Int) + 1)) (by omega) (by omega), w64 (by omega) (by omega), show (p : Int) + ((cnt 10 t : Int) + 1) + 1 = ((p + (cnt 10 t + 1) + 1 : Nat) : Int) by omega]
  · rw [if_neg hc] at hidx
    have he : cnt 10 t = t.length := by omega
    have hd : s.data.toList.drop (p + (cnt 10 t + 1)) = [] := List.drop_eq_nil_of_le (by rw [data_length]; omega)
    have := Ev.uniq hk (ev_nowS fun k => (skip_end s hn hd (by omega) k).1)
    refine ev_nowS fun k => ?_
    rw [lex_skip.l0, if_pos (by omega), if_pos (by omega), h2, if_pos (by omega), if_pos (by omega), show ((p : Int)).toNat = p by omega, hidx, Option.bind_some, if_pos (by omega), this]
    rw [show p + (cnt 10 t + 1) = s.size by omega]
end Go.Proofs.YtghdnijdbmekjaaDoor.Pure
