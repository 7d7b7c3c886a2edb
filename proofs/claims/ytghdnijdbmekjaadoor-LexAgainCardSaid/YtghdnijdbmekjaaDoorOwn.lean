/- Small words of this session's own that the printed walks lack. -/
import Derived.Test.YtghdnijdbmekjaaDoorWMore
set_option linter.unusedSimpArgs false
namespace Go.Proofs.YtghdnijdbmekjaaDoorOwn
open Go Go.RowKit

theorem isSome_set (c : Array Value) (i j : Nat) (v : Value) : (c.setIfInBounds i v)[j]?.isSome = c[j]?.isSome := by
  by_cases h : j < c.size
  · have h2 : j < (c.setIfInBounds i v).size := by simpa using h
    rw [Array.getElem?_eq_getElem h, Array.getElem?_eq_getElem h2]; rfl
  · have h2 : ¬ j < (c.setIfInBounds i v).size := by simpa using h
    rw [Array.getElem?_eq_none (Nat.le_of_not_lt h), Array.getElem?_eq_none (Nat.le_of_not_lt h2)]
/-- A store leaves no cell less. -/
theorem isSome_setCell (w : World) (a b : Addr) (v : Value) : ((w.setCell a v).cell? b).isSome = (w.cell? b).isSome := by
  simp only [World.setCell, World.cell?, Array.getElem?_modify]
  by_cases hb : a.block = b.block
  · simp only [hb, if_true]
    cases hh : w.heap[b.block]? with
    | none => simp
    | some x =>
      cases x with
      | cells c e f => cases hs : b.spot.isSome <;> cases ha : a.spot.isSome <;> simp [hs, ha, isSome_set]
      | _ => simp
  · simp [hb]
open Go.Proofs.YtghdnijdbmekjaaDoorW.PrintWords in
/-- A row of bytes as a string, some orders having been drawn. -/
theorem own_stringD {P : Program} {w : World} {base n : Nat} {e' src dst e : TypeId} {v : Value} {xs : List Int} (hs : P.underlying src = some (.slice e)) (he : P.underlying e = some (.int .u8)) (hd : P.underlying dst = some .string)
    (h : w.ownsRow base e' 1 v n (nums .u8 xs)) (m : Nat) : (convert src dst v).run P (w.drewN m) = .ok (.string (strOfNums xs)) (w.drewN m) := own_string (w := w.drewN m) hs he hd h
/-- The block of a cell that is there is none that is still to come. -/
theorem own_blkne {w : World} {a : Addr} {j : Nat} {v : Value} (h : w.cell? (a.add j) = some v) : a.block ≠ w.heap.size := by
  intro e
  have hn : w.heap[(a.add j).block]? = none := by rw [show (a.add j).block = a.block by unfold Addr.add; split <;> rfl, e]; exact Array.getElem?_eq_none (Nat.le_refl _)
  rw [World.cell?, hn] at h
  cases h
end Go.Proofs.YtghdnijdbmekjaaDoorOwn
