/- Plain words on lists of bytes and on rounds, of no program. -/
import Derived.Test.YtghdnijdbmekjaaDoorWMore
set_option linter.unusedVariables false
set_option linter.unusedSimpArgs false
namespace Go.Proofs.YtghdnijdbmekjaaDoor.Pure
open Go.RowKit Go.Proofs.YtghdnijdbmekjaaDoorW.PrintWords

theorem w64 {i : Int} (h0 : -9223372036854775808 ≤ i) (h1 : i ≤ 9223372036854775807) : wrap64 i = i := IntWalk.wrap64_in i ⟨h0, h1⟩
theorem toList_data (s : ByteArray) : s.toList = s.data.toList := ByteArray.toList_eq s
theorem data_length (s : ByteArray) : s.data.toList.length = s.size := by rw [Array.length_toList]; rfl
theorem bt_get (s : ByteArray) (i : Nat) (h : i < s.data.toList.length) : bt s i = ((s.data.toList[i]).toNat : Int) := by
  have h2 : i < s.size := by rwa [data_length] at h
  unfold bt
  rw [dif_pos (by simpa using h2)]
  rfl
theorem ba_ext {a b : ByteArray} (h : a.data.toList = b.data.toList) : a = b := by
  cases a; cases b; simp_all [Array.toList_inj]
theorem ba_beq (a b : ByteArray) : (a.toList == b.toList) = decide (a = b) := by
  rw [toList_data, toList_data, Bool.eq_iff_iff]
  simp only [beq_iff_eq, decide_eq_true_eq]
  exact ⟨ba_ext, fun h => by rw [h]⟩
theorem ba_list (a b : ByteArray) : (a.toList = b.toList) ↔ a = b := by
  rw [toList_data, toList_data]
  exact ⟨ba_ext, fun h => by rw [h]⟩
theorem ba_nil (a : ByteArray) : (a.toList = ([] : List UInt8)) ↔ a.size = 0 := by
  rw [toList_data, ← data_length]
  exact ⟨fun h => by rw [h]; rfl, fun h => List.eq_nil_of_length_eq_zero h⟩
theorem ev_now {α : Type} {g : Nat → Option α} {r : α} (h : ∀ k, g k = some r) : Ev g r := ⟨0, fun k _ => h k⟩
theorem ev_nowS {α : Type} {g : Nat → Option α} {r : α} (h : ∀ k, g (k + 1) = some r) : Ev g r := Ev.step (f := fun _ => some r) h (Ev.now r)
theorem Ev.eq {α : Type} {g : Nat → Option α} {r s : α} (h : Ev g r) (e : r = s) : Ev g s := e ▸ h
theorem Ev.pos {α : Type} {c : Prop} [Decidable c] {A B : Nat → Option α} {r : α} (h : c) (e : Ev A r) : Ev (fun k => if c then A k else B k) r := Ev.congr (fun k => if_pos h) e
theorem Ev.neg {α : Type} {c : Prop} [Decidable c] {A B : Nat → Option α} {r : α} (h : ¬ c) (e : Ev B r) : Ev (fun k => if c then A k else B k) r := Ev.congr (fun k => if_neg h) e
theorem Ev.got {α β : Type} {y : Option α} {a : α} {f : Nat → α → Option β} {r : β} (h : y = some a) (e : Ev (fun k => f k a) r) : Ev (fun k => y.bind (f k)) r := Ev.congr (fun k => by rw [h]; rfl) e
theorem Ev.out {α : Type} {g : Nat → Option α} {r : α} (h : Ev g r) : ∃ K, ∀ k, K ≤ k → g k = some r := h
end Go.Proofs.YtghdnijdbmekjaaDoor.Pure
