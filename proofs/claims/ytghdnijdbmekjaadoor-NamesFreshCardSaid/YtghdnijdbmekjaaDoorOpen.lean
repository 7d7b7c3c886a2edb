/- Arguments of the statements' rows, opened: what a datum reads as, in the words of the printed walks (kinds). -/
import Derived.Test.YtghdnijdbmekjaaDoorWMore
import Derived.Deep.Slices
import Derived.ChangeArms
import Derived.ChangeShapes
set_option linter.unusedVariables false
set_option linter.unusedSimpArgs false
namespace Go.Proofs.YtghdnijdbmekjaaDoorOpen
open Go Go.RowKit Go.Proofs.YtghdnijdbmekjaaDoorW.PrintWords

/-- Whatever cells read as a datum of type t hold a value of kind d, of which G holds. -/
def Opens {α : Type} (P : Program) (W : World) (t : TypeId) (d : Kd α) (G : α → Prop) : Prop :=
  ∀ (H : Type) (enc : TypeId × Value → H) (base : Nat) (sp : Nat → Bool) (held : Bool) (fuel : Nat) (cs : List Value) (x : DataW H × List MemPlace), DataW.trod enc P W base sp held fuel t cs = some x → ∃ y, d.K W y cs ∧ G y
section
variable {P : Program} {W : World} {t : TypeId}
theorem opens_string (ht : P.underlying t = some .string) : Opens P W t Kd.string (fun s => s.size ≤ maxLen) := by
  intro H enc base sp held fuel cs x h
  obtain ⟨s, rfl, _, hs⟩ := DataW.trod_string ht h
  exact ⟨s, rfl, hs⟩
theorem opens_int {k : IntKind} (ht : P.underlying t = some (.int k)) : Opens P W t (Kd.int k) (fun n => (Lit.int k n).wf = true) := by
  intro H enc base sp held fuel cs x h
  obtain ⟨n, rfl, _, hn⟩ := DataW.trod_int ht h
  exact ⟨n, rfl, hn⟩
theorem opens_bool (ht : P.underlying t = some .bool) : Opens P W t Kd.bool (fun _ => True) := by
  intro H enc base sp held fuel cs x h
  obtain ⟨b, rfl, _⟩ := DataW.trod_bool ht h
  exact ⟨b, rfl, trivial⟩
theorem opens_slice {α : Type} [Inhabited α] {e : TypeId} {d : Kd α} {G : α → Prop} (ht : P.underlying t = some (.slice e)) (hc : P.cellsOf e = d.sz) (he : Opens P W e d G) :
    Opens P W t (Kd.slice e d) (fun l => (∀ y ∈ l, G y) ∧ l.length ≤ maxLen) := by
  intro H enc base sp held fuel cs x h
  rcases Deep.open_slice ht h with ⟨rfl, _⟩ | ⟨a, len, cap, m, n, D, Pl, rfl, hb, hl, hm, hmm, _, hx⟩
  · exact ⟨[], ⟨none, 0, rfl, Nat.le_refl _, Kd.C_nil d W⟩, ⟨fun y hy => (List.not_mem_nil hy).elim, Nat.zero_le _⟩⟩
  have hlm : len ≤ m := by rw [hmm]; split <;> omega
  obtain ⟨Y, hY⟩ := Deep.choose_lt (α := α) (n := len) (p := fun i y => (∃ c, c.length = d.sz ∧ d.K W y c ∧ ∀ j u, c[j]? = some u → W.cell? (a.add (i * d.sz + j)) = some u) ∧ G y) (fun i hi => by
    obtain ⟨cs', h1, h2⟩ := hx i (by omega)
    rw [hc] at h1
    obtain ⟨_, hlen, hcell⟩ := World.cells?_some h1
    obtain ⟨y, hy, hg⟩ := he H enc base sp held n cs' _ h2
    refine ⟨y, ⟨cs', hlen, hy, fun j u hj => ?_⟩, hg⟩
    have hjl : j < d.sz := by rw [← hlen]; exact (List.getElem?_eq_some_iff.1 hj).1
    have := hcell j hjl
    rw [Deep.add_add] at this
    rw [this]; exact hj)
  have hl2 : ((List.range len).map Y).length = len := by simp
  refine ⟨(List.range len).map Y, ⟨some a, cap, by rw [hl2], by rw [hl2]; exact hl, ⟨rfl, ?_, fun _ => ⟨a, rfl, fun j p hj => ?_⟩⟩⟩, ⟨fun y hy => ?_, ?_⟩⟩
  · rw [hl2]; unfold maxLen at hm; omega
  · have hjl : j < len := by have := (List.getElem?_eq_some_iff.1 hj).1; simpa using this
    rw [List.getElem?_map, List.getElem?_range hjl] at hj
    obtain rfl := Option.some.inj hj
    exact (hY j hjl).1
  · obtain ⟨i, hi, rfl⟩ := List.mem_map.1 hy
    exact (hY i (List.mem_range.1 hi)).2
  · rw [hl2]; omega
/-- An argument that is a slice. -/
theorem open_row {α : Type} {H : Type} {enc : TypeId × Value → H} {base : Nat} {sp : Nat → Bool} {held : Bool} {e : TypeId} {d : Kd α} {G : List α → Prop} (ho : Opens P W t (Kd.slice e d) G) {A : Option Addr} {len cap : Nat} {D : DataW H} {p : List MemPlace}
    (h : DataW.Trod enc P W base sp held t (.slice A len cap) D p) : ∃ l : List α, len = l.length ∧ l.length ≤ cap ∧ d.C W A l.length l ∧ G l := by
  obtain ⟨fuel, hf⟩ := h
  obtain ⟨l, ⟨A', c, he, hc, hr⟩, hG⟩ := ho H enc base sp held fuel _ _ hf
  simp [Value.cells] at he
  obtain ⟨rfl, rfl, rfl⟩ := he
  exact ⟨l, rfl, hc, hr, hG⟩
theorem open_strs_kd {H : Type} {enc : TypeId × Value → H} {base : Nat} {sp : Nat → Bool} {held : Bool} {e : TypeId} (ht : P.underlying t = some (.slice e)) (he : P.underlying e = some .string) (hc : P.cellsOf e = 1) {A : Option Addr} {len cap : Nat} {D : DataW H} {p : List MemPlace}
    (h : DataW.Trod enc P W base sp held t (.slice A len cap) D p) : ∃ l : List ByteArray, len = l.length ∧ l.length ≤ cap ∧ Kd.string.C W A l.length l ∧ l.length ≤ maxLen := by
  obtain ⟨l, h1, h2, h3, h4⟩ := open_row (opens_slice ht hc (opens_string he)) h
  exact ⟨l, h1, h2, h3, h4.2⟩
end
end Go.Proofs.YtghdnijdbmekjaaDoorOpen
