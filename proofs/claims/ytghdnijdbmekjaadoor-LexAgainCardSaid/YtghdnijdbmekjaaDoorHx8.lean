-- Written for this claim by a program of this session over the kit's printer.
import Derived.Test.YtghdnijdbmekjaaDoorHx0
import Derived.Test.YtghdnijdbmekjaaDoorHx7
import Derived.Test.YtghdnijdbmekjaaDoorShelf
import Derived.BigCall
import Derived.Lib.Hide
namespace Go.Proofs.YtghdnijdbmekjaaDoor.H
open Go.RowKit Go.Proofs.YtghdnijdbmekjaaDoorW.PrintWords Go.Proofs.YtghdnijdbmekjaaDoorW.PrintLast Go.Proofs.YtghdnijdbmekjaaDoorW.PrintMore
attribute [local go_sem] max2_int min2_int max_two min_two max_three min_three max_four min_four   -- for this text's walks alone
attribute [local go_sem] Go.Proofs.YtghdnijdbmekjaaDoorOwn.isSome_setCell
set_option linter.unusedVariables false
set_option linter.unusedSimpArgs false

/-! ### names_Quote: function 17 (given by hand) -/
def hexd (n : Nat) : UInt8 := UInt8.ofNat (if n < 10 then 48 + n else 87 + n)
def escB (b : UInt8) : List UInt8 := if b.toNat = 10 then [92, 110] else if b.toNat = 9 then [92, 116] else if b.toNat < 32 ∨ 126 < b.toNat then [92, 120, hexd (b.toNat / 16), hexd (b.toNat % 16)] else if b.toNat = 34 ∨ b.toNat = 92 then [92, b] else [b]
def quoteL (l : List UInt8) : List UInt8 := 34 :: (l.flatMap escB ++ [34])
def names_Quote.f (a0 : ByteArray) : Option ByteArray := if a0.size ≤ 17592186044416 then some ⟨(quoteL a0.data.toList).toArray⟩ else none

theorem escB_le (b : UInt8) : (escB b).length ≤ 4 := by unfold escB; split <;> (try split) <;> (try split) <;> (try split) <;> simp
theorem escL_le (l : List UInt8) : (l.flatMap escB).length ≤ 4 * l.length := by
  induction l with
  | nil => simp
  | cons b l ih => have := escB_le b; simp only [List.flatMap_cons, List.length_append, List.length_cons]; omega
theorem take_snocB (s : ByteArray) (k : Nat) (h : k < s.size) : s.data.toList.take (k + 1) = s.data.toList.take k ++ [s[k]] := by
  rw [List.take_succ_eq_append_getElem (by simpa using h)]; rfl
/-- What stands when k bytes are written. -/
def quoteP (s : ByteArray) (k : Nat) : List UInt8 := 34 :: (s.data.toList.take k).flatMap escB
theorem quoteP_le (s : ByteArray) (k : Nat) (h : k ≤ s.size) : (quoteP s k).length ≤ 4 * k + 1 := by
  unfold quoteP
  have := escL_le (s.data.toList.take k)
  have h2 : (s.data.toList.take k).length ≤ k := List.length_take_le ..
  simp only [List.length_cons]; omega
theorem quoteP_succ (s : ByteArray) (k : Nat) (h : k < s.size) : quoteP s (k + 1) = quoteP s k ++ escB s[k] := by
  unfold quoteP; rw [take_snocB s k h]; simp
theorem digit_at : ∀ n : Fin 16, ((⟨#[48, 49, 50, 51, 52, 53, 54, 55, 56, 57, 97, 98, 99, 100, 101, 102]⟩ : ByteArray)[n.val]'n.isLt) = hexd n.val := by decide

/-- WriteByte, told of what is written so far. -/
theorem wb {l : List UInt8} {B : Nat} (c : UInt8) {W : World} (h : Hid (Lib.IsBuilderF 52 5 B B (Lib.byteCells l) W)) (hl : l.length ≤ 100000000000000) (hB : B ≤ W.heap.size) :
    Calls Tryd.prog 31 #[.pointer (some ⟨B, 0, none⟩), .int .u8 c.toNat] W fun e w' => e = .returned .nilIface ∧ (Hid (Lib.IsBuilderF 52 5 B B (Lib.byteCells (l ++ [c])) w') ∧ Below B W w') := by
  refine (Tryd.Builder_WriteByte_k B B (Lib.byteCells l) c.toNat W h.out (by rw [Lib.byteCells_length]; omega) hB).mono ?_
  rintro e w' ⟨rfl, h1, hb, _⟩
  refine ⟨rfl, Lib.hid ?_, hb⟩
  rw [Lib.byteCells_append]; exact Or.inr h1
theorem wbn {l : List UInt8} {B : Nat} (c : Int) (n : Nat) (hc : c = n) (hn : n < 256) {W : World} (h : Hid (Lib.IsBuilderF 52 5 B B (Lib.byteCells l) W)) (hl : l.length ≤ 100000000000000) (hB : B ≤ W.heap.size) :
    Calls Tryd.prog 31 #[.pointer (some ⟨B, 0, none⟩), .int .u8 c] W fun e w' => e = .returned .nilIface ∧ (Hid (Lib.IsBuilderF 52 5 B B (Lib.byteCells (l ++ [UInt8.ofNat n])) w') ∧ Below B W w') := by
  subst hc
  have := wb (UInt8.ofNat n) h hl hB
  rwa [show (UInt8.ofNat n).toNat = n from by simp; omega] at this
theorem ws {l : List UInt8} {B : Nat} (t : List UInt8) {W : World} (h : Hid (Lib.IsBuilderF 52 5 B B (Lib.byteCells l) W)) (hl : l.length + t.length ≤ 100000000000000) (hB : B ≤ W.heap.size) :
    Calls Tryd.prog 32 #[.pointer (some ⟨B, 0, none⟩), .string ⟨t.toArray⟩] W fun e w' => e = .returned (.tuple #[.int .i64 t.length, .nilIface]) ∧ (Hid (Lib.IsBuilderF 52 5 B B (Lib.byteCells (l ++ t)) w') ∧ Below B W w') := by
  refine (Tryd.Builder_WriteString_k B B (Lib.byteCells l) ⟨t.toArray⟩ W h.out (by rw [Lib.byteCells_length]; show l.length + t.length ≤ _; omega) hB).mono ?_
  rintro e w' ⟨rfl, h1, hb, _⟩
  refine ⟨rfl, Lib.hid ?_, hb⟩
  rw [Lib.byteCells_append]; exact Or.inr h1
theorem bs_ {l : List UInt8} {B : Nat} {W : World} (h : Hid (Lib.IsBuilderF 52 5 B B (Lib.byteCells l) W)) (hB : B ≤ W.heap.size) :
    Calls Tryd.prog 34 #[.pointer (some ⟨B, 0, none⟩)] W fun e w' => e = .returned (.string ⟨l.toArray⟩) ∧ Below B W w' := by
  refine (Tryd.Builder_String_any_k B B l W h.out hB).mono ?_
  rintro e w' ⟨rfl, _, hb, _⟩
  exact ⟨rfl, hb⟩
theorem below_drewN_ {B : Nat} (W : World) (n : Nat) : Below B W (W.drewN n) := pw_below_drewN (Below.refl _ _) n
theorem bnew (W : World) : Hid (Lib.IsBuilderF 52 5 W.heap.size W.heap.size (Lib.byteCells []) (W.alloc (.cells #[.pointer none, .slice none 0 0] 52))) := Lib.hid (Lib.IsBuilderF.of (Lib.fresh_isBuilder 52 5 W))

set_option maxHeartbeats 4000000 in
set_option maxRecDepth 100000 in
theorem names_Quote.calls (a0 : ByteArray) (r : ByteArray) (w : World) (h : names_Quote.f a0 = some r) :
    Calls Tryd.prog 17 #[.string a0] w fun e w' => e = .returned (.string r) ∧ Below w.heap.size w w' := by
  unfold names_Quote.f at h
  split at h
  · rename_i hs
    obtain rfl := Option.some.inj h
    clear h
    go_enter Tryd.func17, Tryd.ntmps17
    go_wp2_with (go_at_call 31; (with_reducible refine (wbn _ 34 (by omega) (by omega) (bnew w) (by simp) (by simp)).mono ?_); rintro e w1 ⟨rfl, h1, hb1⟩)
    have hb0 : Below w.heap.size w w1 := ((Below.refl _ w).alloc (Nat.le_refl _) _).trans hb1
    clear hb1
    go_loopw [9] (fun v wr => ∃ k : Nat, k ≤ a0.size ∧ v = .int .i64 k ∧ Hid (Lib.IsBuilderF 52 5 w.heap.size w.heap.size (Lib.byteCells (quoteP a0 k)) wr) ∧ Below w.heap.size w wr) (fun v _ => a0.size - (intOf v).toNat)
    case atStart => exact ⟨0, Nat.zero_le _, rfl, h1, hb0⟩
    case round =>
      obtain ⟨k, hk, rfl, hI, hB⟩ := hrel
      have hl := quoteP_le a0 k hk
      by_cases hlt : k < a0.size
      · obtain ⟨n, hn⟩ : ∃ n : Nat, (a0[k]).toNat = n := ⟨_, rfl⟩
        have hn2 : n < 256 := by rw [← hn]; exact UInt8.toNat_lt _
        have hc0 : a0[k] = UInt8.ofNat n := by rw [← hn]; simp
        have HS : Hid (quoteP a0 (k + 1) = quoteP a0 k ++ escB a0[k]) := Lib.hid (quoteP_succ a0 k hlt)
        have HC : Hid (a0[k] = UInt8.ofNat n) := Lib.hid hc0
        have HN : Hid (a0[k].toNat = n) := Lib.hid hn
        clear hc0
        have hBs := hB.size
        by_cases e10 : n = 10
        · have HE : Hid (escB a0[k] = [92, 110]) := Lib.hid (by unfold escB; rw [hn, if_pos e10])
          have e1 : ((n : Int) == 10) = true := by simp [e10]
          clear e10
          go_wp2_with (go_at_call 32; refine (ws [92, 110] hI (by simp; omega) hBs).mono ?_; rintro e w3 ⟨rfl, h3, hb3⟩)
          go_roundw
          case rel => exact ⟨k + 1, by omega, by go_num, Lib.hid (by rw [HS.out, HE.out]; exact h3.out), hB.trans hb3⟩
          case measure => simp [intOf]; omega
        have e1 : ((n : Int) == 10) = false := by simp; omega
        by_cases e9 : n = 9
        · have HE : Hid (escB a0[k] = [92, 116]) := Lib.hid (by unfold escB; rw [hn, if_neg e10, if_pos e9])
          have e2 : ((n : Int) == 9) = true := by simp [e9]
          clear e10 e9
          go_wp2_with (go_at_call 32; refine (ws [92, 116] hI (by simp; omega) hBs).mono ?_; rintro e w3 ⟨rfl, h3, hb3⟩)
          go_roundw
          case rel => exact ⟨k + 1, by omega, by go_num, Lib.hid (by rw [HS.out, HE.out]; exact h3.out), hB.trans hb3⟩
          case measure => simp [intOf]; omega
        have e2 : ((n : Int) == 9) = false := by simp; omega
        by_cases ep : n < 32 ∨ 126 < n
        · have HE : Hid (escB a0[k] = [92, 120, hexd (n / 16), hexd (n % 16)]) := Lib.hid (by unfold escB; rw [hn, if_neg e10, if_neg e9, if_pos ep])
          have hpl : Hid (names_plain.f n = some false) := Lib.hid (by unfold names_plain.f; split <;> simp <;> omega)
          clear e10 e9 ep
          go_wp2_with (first | (go_at_call 33; (with_reducible refine (names_plain.calls n false _ hpl.out).mono ?_); rintro e w2 ⟨rfl, ⟨nd, rfl⟩⟩; have hI2 : Hid (Lib.IsBuilderF 52 5 w.heap.size w.heap.size (Lib.byteCells (quoteP a0 k)) (wr.drewN nd)) := hI; have hBs2 : w.heap.size ≤ (wr.drewN nd).heap.size := hBs) | (go_at_call 32; refine (ws [92, 120] hI2 (by simp; omega) hBs2).mono ?_; rintro e w3 ⟨rfl, h3, hb3⟩))
          have hB3 : wr.heap.size ≤ w3.heap.size := hb3.size
          go_wp2_with (go_at_call 31; refine (wb _ h3 (by simp only [List.length_append, List.length_cons, List.length_nil]; omega) (by omega)).mono ?_; rintro e w4 ⟨rfl, h4, hb4⟩)
          have hB4 := hb4.size
          go_wp2_with (go_at_call 31; refine (wb _ h4 (by simp only [List.length_append, List.length_cons, List.length_nil]; omega) (by omega)).mono ?_; rintro e w5 ⟨rfl, h5, hb5⟩)
          go_roundw
          case rel => exact ⟨k + 1, by omega, by go_num, Lib.hid (by
            have hx := h5.out
            rw [HS.out, HE.out]
            rw [show ({ data := #[48, 49, 50, 51, 52, 53, 54, 55, 56, 57, 97, 98, 99, 100, 101, 102] } : ByteArray)[n / 16]'(by show n / 16 < 16; omega) = hexd (n / 16) from digit_at ⟨n / 16, by omega⟩, show ({ data := #[48, 49, 50, 51, 52, 53, 54, 55, 56, 57, 97, 98, 99, 100, 101, 102] } : ByteArray)[n % 16]'(by show n % 16 < 16; omega) = hexd (n % 16) from digit_at ⟨n % 16, by omega⟩] at hx
            simpa using hx), hB.trans (((below_drewN_ wr nd).trans hb3).trans (hb4.trans hb5))⟩
          case measure => simp [intOf]; omega
        have hpl : Hid (names_plain.f n = some true) := Lib.hid (by unfold names_plain.f; split <;> simp <;> omega)
        by_cases eq : n = 34 ∨ n = 92
        · have HE : Hid (escB a0[k] = [92, UInt8.ofNat n]) := Lib.hid (by unfold escB; rw [hn, if_neg e10, if_neg e9, if_neg ep, if_pos eq, HC.out])
          by_cases e34 : n = 34
          · have e3 : ((n : Int) == 34) = true := by simp [e34]
            clear e34 eq
            clear e10 e9 ep
            go_wp2_with (first | (go_at_call 33; (with_reducible refine (names_plain.calls n true _ hpl.out).mono ?_); rintro e w2 ⟨rfl, ⟨nd, rfl⟩⟩; have hI2 : Hid (Lib.IsBuilderF 52 5 w.heap.size w.heap.size (Lib.byteCells (quoteP a0 k)) (wr.drewN nd)) := hI; have hBs2 : w.heap.size ≤ (wr.drewN nd).heap.size := hBs) | (go_at_call 31; (with_reducible refine (wbn _ 92 (by omega) (by omega) hI2 (by omega) hBs2).mono ?_); rintro e w3 ⟨rfl, h3, hb3⟩))
            have hB3 : wr.heap.size ≤ w3.heap.size := hb3.size
            go_wp2_with (go_at_call 31; refine (wbn _ n rfl hn2 h3 (by simp only [List.length_append, List.length_cons, List.length_nil]; omega) (by omega)).mono ?_; rintro e w4 ⟨rfl, h4, hb4⟩)
            go_roundw
            case rel => exact ⟨k + 1, by omega, by go_num, Lib.hid (by have hx := h4.out; rw [HS.out, HE.out]; simpa using hx), hB.trans (((below_drewN_ wr nd).trans hb3).trans hb4)⟩
            case measure => simp [intOf]; omega
          · have e3 : ((n : Int) == 34) = false := by simp; omega
            have e4 : ((n : Int) == 92) = true := by simp; omega
            clear e34 eq
            clear e10 e9 ep
            go_wp2_with (first | (go_at_call 33; (with_reducible refine (names_plain.calls n true _ hpl.out).mono ?_); rintro e w2 ⟨rfl, ⟨nd, rfl⟩⟩; have hI2 : Hid (Lib.IsBuilderF 52 5 w.heap.size w.heap.size (Lib.byteCells (quoteP a0 k)) (wr.drewN nd)) := hI; have hBs2 : w.heap.size ≤ (wr.drewN nd).heap.size := hBs) | (go_at_call 31; (with_reducible refine (wbn _ 92 (by omega) (by omega) hI2 (by omega) hBs2).mono ?_); rintro e w3 ⟨rfl, h3, hb3⟩))
            have hB3 : wr.heap.size ≤ w3.heap.size := hb3.size
            go_wp2_with (go_at_call 31; refine (wbn _ n rfl hn2 h3 (by simp only [List.length_append, List.length_cons, List.length_nil]; omega) (by omega)).mono ?_; rintro e w4 ⟨rfl, h4, hb4⟩)
            go_roundw
            case rel => exact ⟨k + 1, by omega, by go_num, Lib.hid (by have hx := h4.out; rw [HS.out, HE.out]; simpa using hx), hB.trans (((below_drewN_ wr nd).trans hb3).trans hb4)⟩
            case measure => simp [intOf]; omega
        · have HE : Hid (escB a0[k] = [UInt8.ofNat n]) := Lib.hid (by unfold escB; rw [hn, if_neg e10, if_neg e9, if_neg ep, if_neg eq, HC.out])
          have e3 : ((n : Int) == 34) = false := by simp; omega
          have e4 : ((n : Int) == 92) = false := by simp; omega
          clear e10 e9 ep eq
          go_wp2_with (first | (go_at_call 33; (with_reducible refine (names_plain.calls n true _ hpl.out).mono ?_); rintro e w2 ⟨rfl, ⟨nd, rfl⟩⟩; have hI2 : Hid (Lib.IsBuilderF 52 5 w.heap.size w.heap.size (Lib.byteCells (quoteP a0 k)) (wr.drewN nd)) := hI; have hBs2 : w.heap.size ≤ (wr.drewN nd).heap.size := hBs) | (go_at_call 31; (with_reducible refine (wbn _ n rfl hn2 hI2 (by omega) hBs2).mono ?_); rintro e w3 ⟨rfl, h3, hb3⟩))
          go_roundw
          case rel => exact ⟨k + 1, by omega, by go_num, Lib.hid (by have hx := h3.out; rw [HS.out, HE.out]; simpa using hx), hB.trans ((below_drewN_ wr nd).trans hb3)⟩
          case measure => simp [intOf]; omega
      · obtain rfl : k = a0.size := by omega
        go_wp2_with (first | (go_at_call 31; (with_reducible refine (wbn _ 34 (by omega) (by omega) hI (by omega) hB.size).mono ?_); rintro e w2 ⟨rfl, h2, hb2⟩) | (go_at_call 34; refine (bs_ h2 (by have := hB.size; have := hb2.size; omega)).mono ?_; rintro e w3 ⟨rfl, hb3⟩))
        go_ret
        have hq : quoteL a0.data.toList = quoteP a0 a0.size ++ [34] := by unfold quoteL quoteP; rw [List.take_of_length_le (by simp)]; simp
        exact ⟨by rw [hq]; rfl, (hB.trans hb2).trans (hb3)⟩
  · cases h

end Go.Proofs.YtghdnijdbmekjaaDoor.H
