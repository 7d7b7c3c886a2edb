/- TreeDerives of the law03, where what it reads is of bulk at most 1048576: answers true: the leftmost derivation by the rules that a fitting tree uses ends in the tree's yield: part 2 of 6 of its proof, packed by a program of this session out of the texts Own, G0, GramP, GramW, GSlices1, Shelf, Laid, GStrconvItoa, GNames1, GNamesQuote, GGram1, GramV, GramR, GRef011, UNameP, GramC, GGramCheck, GLaw011. -/
import Derived.Test.YtmdjmbdeeodehaaDoorZTD0
import Derived.Test.YtmdjmbdeeodehaaDoorProg
import Derived.Below
import Derived.Deep.Draws
import Derived.Deep.AppendLies
import Derived.Maps.AppendAt
import Derived.OwnWalk
import Derived.Laws.BytesArg
import Derived.Laws.MakeOwn
import Derived.Laws.OwnMore
import Derived.Deep.OwnRows
import Derived.Tactics
import Derived.Lib.ConvBytes
import Derived.Laws.Slices
import Derived.WalkKit
import Derived.KernelRfl
import Derived.RowKit3
import Derived.Deep.LoopGhost
import Derived.Deep.QuietTactic
import Derived.BigQuiet
import Derived.WideLaws
import Derived.Deep.DeepCutAuto
import Derived.Deep.CutBlock
import Derived.Deep.RegionHeld3
import Derived.Laws.Rows
import Derived.Lib.AppendStr
import Derived.ArgAppend
import Derived.Laws.IdiomCopy
import Derived.OrdersHeld
import Derived.Laws.BitsLemmas
import Derived.RowKit
import Derived.Lib.ItoaNum
import Derived.Maps.Own
import Derived.Maps.OwnOps
import Derived.Maps.Views
import Derived.StringKeys
import Derived.BigCall
import Derived.Lib.Hide
import Derived.Shelf.Strings.Builder1
import Derived.Shelf.Small.Strs
import Derived.Shelf.Strings.BuilderF
import Derived.Shelf.Strings.BuilderK
import Derived.Shelf.Strconv.Itoa0
import Derived.Shelf.Strconv.Itoa1
import Derived.Shelf.LaysM
import Derived.Shelf.Strconv.Itoa2
import Derived.Shelf.Strconv.Itoa3
import Derived.Shelf.Strings.Search1
import Derived.Shelf.Strings.Prefix
import Derived.Shelf.Strings.BuilderCap
import Derived.Shelf.Slices.Turned
import Derived.Lib.LaidTab
import Derived.Lib.AppendIntMem
import Derived.Lib.FrozenHead
import Derived.Lib.SmallJoins
section
set_option linter.unusedSimpArgs false
namespace Go.Proofs.YtmdjmbdeeodehaaDoorOwn
open Go Go.RowKit
theorem isSome_set (c : Array Value) (i j : Nat) (v : Value) : (c.setIfInBounds i v)[j]?.isSome = c[j]?.isSome := by
  by_cases h : j < c.size
  · have h2 : j < (c.setIfInBounds i v).size := by simpa using h
    rw [Array.getElem?_eq_getElem h, Array.getElem?_eq_getElem h2]; rfl
  · have h2 : ¬ j < (c.setIfInBounds i v).size := by simpa using h
    rw [Array.getElem?_eq_none (Nat.le_of_not_lt h), Array.getElem?_eq_none (Nat.le_of_not_lt h2)]
theorem isSome_setCell (w : World) (a b : Addr) (v : Value) : ((w.setCell a v).cell? b).isSome = (w.cell? b).isSome := by
  simp only [World.setCell, World.cell?, Array.getElem?_modify]
  by_cases hb : a.block = b.block
  · simp only [hb, if_true]
    cases hh : w.heap[b.block]? with
    | none => simp
    | some x =>
      cases x with
      | cells c e f => cases hs : b.spot.isSome <;> cases ha : a.spot.isSome <;> simp [hs, ha, isSome_set]
      | _ => simp
  · simp [hb]
end Go.Proofs.YtmdjmbdeeodehaaDoorOwn
end
section
namespace Go.Proofs.YtmdjmbdeeodehaaDoor.G
open Go.RowKit Go.Proofs.YtmdjmbdeeodehaaDoorW.PrintWords Go.Proofs.YtmdjmbdeeodehaaDoorW.PrintLast Go.Proofs.YtmdjmbdeeodehaaDoorW.PrintMore
attribute [local go_sem] max2_int min2_int max_two min_two max_three min_three max_four min_four
attribute [local go_sem] Go.Proofs.YtmdjmbdeeodehaaDoorOwn.isSome_setCell
set_option linter.unusedVariables false
set_option linter.unusedSimpArgs false
def errW : Option Int → Value
 | none => .nilIface
 | some c => .iface 0 (.int .i64 c)
theorem errW_none : errW none = .nilIface := rfl
theorem errW_some (c : Int) : errW (some c) = .iface 0 (.int .i64 c) := rfl
theorem info3 : (Tryd.prog.info? 3).map (fun i => (i.zero, i.size, i.bytes)) = some (some (.int .i64 0), 1, 8) := by kernel_rfl
theorem info52 : (Tryd.prog.info? 52).map (fun i => (i.zero, i.size, i.bytes)) = some (some (.int .i64 0), 1, 8) := by kernel_rfl
theorem info58 : (Tryd.prog.info? 58).map (fun i => (i.zero, i.size, i.bytes)) = some (some (.agg #[(.int .i64 0), (.int .i64 0), (.slice none 0 0)]), 3, 40) := by kernel_rfl
structure S32 where
 f0 : Int
 f1 : (List Int)
def z32 : S32 := ⟨(0 : Int), ([] : List Int)⟩
def k32 : Kd S32 := Kd.iso (Kd.pair (Kd.int .i64) (Kd.slice 52 (Kd.int .i64))) (fun x : S32 => (x.f0, x.f1))
theorem k32_open {w : World} {x : S32} {cs : List Value} (h : k32.K w x cs) : ∃ A1 c1, cs = [.int .i64 x.f0, .slice A1 x.f1.length c1] ∧ x.f1.length ≤ c1 ∧ (Kd.int .i64).C w A1 x.f1.length x.f1 := by
 obtain ⟨_, _, rfl, rfl, ⟨A1, c1, rfl, l1, g1⟩⟩ := h
 exact ⟨A1, c1, rfl, l1, g1⟩
theorem k32_mk (w : World) (x : S32) {A1 : Option Addr} {c1 : Nat} (l1 : x.f1.length ≤ c1) (g1 : (Kd.int .i64).C w A1 x.f1.length x.f1) : k32.K w x [.int .i64 x.f0, .slice A1 x.f1.length c1] := ⟨[.int .i64 x.f0], [.slice A1 x.f1.length c1], rfl, rfl, ⟨A1, c1, rfl, l1, g1⟩⟩
theorem k32_mkF (W : World) (ok : Nat → Prop) (x : S32) {A1 : Option Addr} {c1 : Nat} (l1 : x.f1.length ≤ c1) (g1 : Kd.F (Kd.int .i64) W ok A1 x.f1.length x.f1) : Kd.FK k32 W ok x [.int .i64 x.f0, .slice A1 x.f1.length c1] := fun W2 hW => k32_mk W2 x l1 (g1 W2 hW)
def rd_T32 (xs : List S32) (i : Int) : S32 := xs.getD i.toNat z32
theorem at_T32 {w : World} {A : Option Addr} {n : Nat} {xs : List S32} (h : Kd.C k32 w A n xs) (i : Int) (h0 : 0 ≤ i) (h1 : i < n) : ∃ ad A1 c1, A = some ad ∧ w.cell? (ad.add (i.toNat * 2)) = some (.int .i64 (rd_T32 xs i).f0) ∧ w.cell? ⟨(ad.add (i.toNat * 2)).block, (ad.add (i.toNat * 2)).off + 1, none⟩ = some (.slice A1 (rd_T32 xs i).f1.length c1) ∧ (rd_T32 xs i).f1.length ≤ c1 ∧ (Kd.int .i64).C w A1 (rd_T32 xs i).f1.length (rd_T32 xs i).f1 := by
 obtain ⟨ad, c, e, _, hK, hc0⟩ := Kd.C_get h z32 i h0 h1
 have hc : ∀ j u, c[j]? = some u → w.cell? (ad.add (i.toNat * 2 + j)) = some u := hc0
 obtain ⟨A1, c1, rfl, l1, g1⟩ := k32_open hK
 exact ⟨ad, A1, c1, e, hc 0 _ rfl, by rw [← add_field _ _ 1 (by omega)]; exact hc 1 _ rfl, l1, g1⟩
structure S55 where
 f0 : Int
 f1 : Int
 f2 : (List S55)
def z55 : S55 := ⟨(0 : Int), (0 : Int), ([] : List S55)⟩
def F55 (d : Kd S55) : Kd S55 := Kd.iso (Kd.pair (Kd.int .i64) (Kd.pair (Kd.int .i64) (Kd.slice 55 d))) (fun x : S55 => (x.f0, x.f1, x.f2))
theorem mono55 : Kd.Mono F55 := Kd.mono_iso _ (Kd.mono_pair (Kd.mono_const _) (Kd.mono_pair (Kd.mono_const _) (Kd.mono_slice 55 Kd.mono_id)))
theorem sub55 : Kd.Sub F55 [55] := Kd.sub_iso _ (Kd.sub_pair (Kd.sub_const _ (by decide)) (Kd.sub_pair (Kd.sub_const _ (by decide)) (Kd.sub_slice 55 (by decide) Kd.sub_id)))
theorem sz55 : ∀ n, (Kd.upto F55 3 [55] n).sz = 3 := Kd.upto_sz (fun _ => rfl)
def k55 : Kd S55 := Kd.fix F55 3 [55] sz55 (Kd.upto_E sub55)
theorem k55_open {w : World} {x : S55} {cs : List Value} (h : k55.K w x cs) : ∃ A2 c2, cs = [.int .i64 x.f0, .int .i64 x.f1, .slice A2 x.f2.length c2] ∧ x.f2.length ≤ c2 ∧ k55.C w A2 x.f2.length x.f2 := by
 obtain ⟨n, h⟩ := h
 cases n with
 | zero => exact h.elim
 | succ n =>
  obtain ⟨_, _, rfl, rfl, ⟨_, _, rfl, rfl, ⟨A2, c2, rfl, l2, g2⟩⟩⟩ := h
  exact ⟨A2, c2, rfl, l2, Kd.fix_C g2⟩
theorem k55_mk (w : World) (x : S55) {A2 : Option Addr} {c2 : Nat} (l2 : x.f2.length ≤ c2) (g2 : k55.C w A2 x.f2.length x.f2) : k55.K w x [.int .i64 x.f0, .int .i64 x.f1, .slice A2 x.f2.length c2] := by
 obtain ⟨n2, q2⟩ := Kd.fix_C_back mono55 g2
 have r2 := Kd.upto_C_le mono55 sz55 (show n2 ≤ n2 by omega) q2
 exact ⟨n2 + 1, ⟨[.int .i64 x.f0], [.int .i64 x.f1, .slice A2 x.f2.length c2], rfl, rfl, ⟨[.int .i64 x.f1], [.slice A2 x.f2.length c2], rfl, rfl, ⟨A2, c2, rfl, l2, r2⟩⟩⟩⟩
theorem k55_openF {W : World} {ok : Nat → Prop} {x : S55} {cs : List Value} (h : Kd.FK k55 W ok x cs) : ∃ A2 c2, cs = [.int .i64 x.f0, .int .i64 x.f1, .slice A2 x.f2.length c2] ∧ x.f2.length ≤ c2 ∧ Kd.F k55 W ok A2 x.f2.length x.f2 := by
 obtain ⟨A2, c2, rfl, l2, _⟩ := k55_open (Kd.FK_now h)
 exact ⟨A2, c2, rfl, l2, (fun W' hW => by obtain ⟨A2_, c2_, he, l2_, g2_⟩ := k55_open (h W' hW); injection (Option.some.inj (show some (Value.slice A2 x.f2.length c2) = some (Value.slice A2_ x.f2.length c2_) from congrArg (fun l => l[2]?) he)) with ha_ _ _; rw [ha_]; exact g2_)⟩
theorem k55_mkF (W : World) (ok : Nat → Prop) (x : S55) {A2 : Option Addr} {c2 : Nat} (l2 : x.f2.length ≤ c2) (g2 : Kd.F k55 W ok A2 x.f2.length x.f2) : Kd.FK k55 W ok x [.int .i64 x.f0, .int .i64 x.f1, .slice A2 x.f2.length c2] := fun W2 hW => k55_mk W2 x l2 (g2 W2 hW)
def rd_T55 (xs : List S55) (i : Int) : S55 := xs.getD i.toNat z55
theorem at_T55 {w : World} {A : Option Addr} {n : Nat} {xs : List S55} (h : Kd.C k55 w A n xs) (i : Int) (h0 : 0 ≤ i) (h1 : i < n) : ∃ ad A2 c2, A = some ad ∧ w.cell? (ad.add (i.toNat * 3)) = some (.int .i64 (rd_T55 xs i).f0) ∧ w.cell? ⟨(ad.add (i.toNat * 3)).block, (ad.add (i.toNat * 3)).off + 1, none⟩ = some (.int .i64 (rd_T55 xs i).f1) ∧ w.cell? ⟨(ad.add (i.toNat * 3)).block, (ad.add (i.toNat * 3)).off + 2, none⟩ = some (.slice A2 (rd_T55 xs i).f2.length c2) ∧ (rd_T55 xs i).f2.length ≤ c2 ∧ k55.C w A2 (rd_T55 xs i).f2.length (rd_T55 xs i).f2 := by
 obtain ⟨ad, c, e, _, hK, hc0⟩ := Kd.C_get h z55 i h0 h1
 have hc : ∀ j u, c[j]? = some u → w.cell? (ad.add (i.toNat * 3 + j)) = some u := hc0
 obtain ⟨A2, c2, rfl, l2, g2⟩ := k55_open hK
 exact ⟨ad, A2, c2, e, hc 0 _ rfl, by rw [← add_field _ _ 1 (by omega)]; exact hc 1 _ rfl, by rw [← add_field _ _ 2 (by omega)]; exact hc 2 _ rfl, l2, g2⟩
structure S87 where
 f0 : Int
 f1 : (List Int)
def z87 : S87 := ⟨(0 : Int), ([] : List Int)⟩
def k87 : Kd S87 := Kd.iso (Kd.pair (Kd.int .i64) (Kd.slice 3 (Kd.int .i64))) (fun x : S87 => (x.f0, x.f1))
theorem k87_open {w : World} {x : S87} {cs : List Value} (h : k87.K w x cs) : ∃ A1 c1, cs = [.int .i64 x.f0, .slice A1 x.f1.length c1] ∧ x.f1.length ≤ c1 ∧ (Kd.int .i64).C w A1 x.f1.length x.f1 := by
 obtain ⟨_, _, rfl, rfl, ⟨A1, c1, rfl, l1, g1⟩⟩ := h
 exact ⟨A1, c1, rfl, l1, g1⟩
theorem k87_mkM (w : World) (base : Nat) (ok : Nat → Prop) (x : S87) {v1 : Value} (g1 : (Kd.int .i64).R 3 w base ok v1 x.f1) : k87.M w base ok x [.int .i64 x.f0, v1] := ⟨[.int .i64 x.f0], [v1], rfl, rfl, ⟨v1, rfl, g1⟩⟩
def rd_T87 (xs : List S87) (i : Int) : S87 := xs.getD i.toNat z87
theorem at_T87 {w : World} {A : Option Addr} {n : Nat} {xs : List S87} (h : Kd.C k87 w A n xs) (i : Int) (h0 : 0 ≤ i) (h1 : i < n) : ∃ ad A1 c1, A = some ad ∧ w.cell? (ad.add (i.toNat * 2)) = some (.int .i64 (rd_T87 xs i).f0) ∧ w.cell? ⟨(ad.add (i.toNat * 2)).block, (ad.add (i.toNat * 2)).off + 1, none⟩ = some (.slice A1 (rd_T87 xs i).f1.length c1) ∧ (rd_T87 xs i).f1.length ≤ c1 ∧ (Kd.int .i64).C w A1 (rd_T87 xs i).f1.length (rd_T87 xs i).f1 := by
 obtain ⟨ad, c, e, _, hK, hc0⟩ := Kd.C_get h z87 i h0 h1
 have hc : ∀ j u, c[j]? = some u → w.cell? (ad.add (i.toNat * 2 + j)) = some u := hc0
 obtain ⟨A1, c1, rfl, l1, g1⟩ := k87_open hK
 exact ⟨ad, A1, c1, e, hc 0 _ rfl, by rw [← add_field _ _ 1 (by omega)]; exact hc 1 _ rfl, l1, g1⟩
structure S58 where
 f0 : Int
 f1 : Int
 f2 : (List S58)
def z58 : S58 := ⟨(0 : Int), (0 : Int), ([] : List S58)⟩
def F58 (d : Kd S58) : Kd S58 := Kd.iso (Kd.pair (Kd.int .i64) (Kd.pair (Kd.int .i64) (Kd.slice 58 d))) (fun x : S58 => (x.f0, x.f1, x.f2))
theorem mono58 : Kd.Mono F58 := Kd.mono_iso _ (Kd.mono_pair (Kd.mono_const _) (Kd.mono_pair (Kd.mono_const _) (Kd.mono_slice 58 Kd.mono_id)))
theorem sub58 : Kd.Sub F58 [58] := Kd.sub_iso _ (Kd.sub_pair (Kd.sub_const _ (by decide)) (Kd.sub_pair (Kd.sub_const _ (by decide)) (Kd.sub_slice 58 (by decide) Kd.sub_id)))
theorem sz58 : ∀ n, (Kd.upto F58 3 [58] n).sz = 3 := Kd.upto_sz (fun _ => rfl)
def k58 : Kd S58 := Kd.fix F58 3 [58] sz58 (Kd.upto_E sub58)
theorem k58_open {w : World} {x : S58} {cs : List Value} (h : k58.K w x cs) : ∃ A2 c2, cs = [.int .i64 x.f0, .int .i64 x.f1, .slice A2 x.f2.length c2] ∧ x.f2.length ≤ c2 ∧ k58.C w A2 x.f2.length x.f2 := by
 obtain ⟨n, h⟩ := h
 cases n with
 | zero => exact h.elim
 | succ n =>
  obtain ⟨_, _, rfl, rfl, ⟨_, _, rfl, rfl, ⟨A2, c2, rfl, l2, g2⟩⟩⟩ := h
  exact ⟨A2, c2, rfl, l2, Kd.fix_C g2⟩
theorem k58_mk (w : World) (x : S58) {A2 : Option Addr} {c2 : Nat} (l2 : x.f2.length ≤ c2) (g2 : k58.C w A2 x.f2.length x.f2) : k58.K w x [.int .i64 x.f0, .int .i64 x.f1, .slice A2 x.f2.length c2] := by
 obtain ⟨n2, q2⟩ := Kd.fix_C_back mono58 g2
 have r2 := Kd.upto_C_le mono58 sz58 (show n2 ≤ n2 by omega) q2
 exact ⟨n2 + 1, ⟨[.int .i64 x.f0], [.int .i64 x.f1, .slice A2 x.f2.length c2], rfl, rfl, ⟨[.int .i64 x.f1], [.slice A2 x.f2.length c2], rfl, rfl, ⟨A2, c2, rfl, l2, r2⟩⟩⟩⟩
theorem k58_mkM (w : World) (base : Nat) (ok : Nat → Prop) (x : S58) {v2 : Value} (g2 : k58.R 58 w base ok v2 x.f2) : k58.M w base ok x [.int .i64 x.f0, .int .i64 x.f1, v2] := by
 obtain ⟨n2, q2⟩ := Kd.fix_R_back mono58 g2
 have r2 := Kd.upto_R_le mono58 sz58 (show n2 ≤ n2 by omega) q2
 exact ⟨n2 + 1, ⟨[.int .i64 x.f0], [.int .i64 x.f1, v2], rfl, rfl, ⟨[.int .i64 x.f1], [v2], rfl, rfl, ⟨v2, rfl, r2⟩⟩⟩⟩
theorem k58_openF {W : World} {ok : Nat → Prop} {x : S58} {cs : List Value} (h : Kd.FK k58 W ok x cs) : ∃ A2 c2, cs = [.int .i64 x.f0, .int .i64 x.f1, .slice A2 x.f2.length c2] ∧ x.f2.length ≤ c2 ∧ Kd.F k58 W ok A2 x.f2.length x.f2 := by
 obtain ⟨A2, c2, rfl, l2, _⟩ := k58_open (Kd.FK_now h)
 exact ⟨A2, c2, rfl, l2, (fun W' hW => by obtain ⟨A2_, c2_, he, l2_, g2_⟩ := k58_open (h W' hW); injection (Option.some.inj (show some (Value.slice A2 x.f2.length c2) = some (Value.slice A2_ x.f2.length c2_) from congrArg (fun l => l[2]?) he)) with ha_ _ _; rw [ha_]; exact g2_)⟩
theorem k58_mkF (W : World) (ok : Nat → Prop) (x : S58) {A2 : Option Addr} {c2 : Nat} (l2 : x.f2.length ≤ c2) (g2 : Kd.F k58 W ok A2 x.f2.length x.f2) : Kd.FK k58 W ok x [.int .i64 x.f0, .int .i64 x.f1, .slice A2 x.f2.length c2] := fun W2 hW => k58_mk W2 x l2 (g2 W2 hW)
def rd_T58 (xs : List S58) (i : Int) : S58 := xs.getD i.toNat z58
theorem at_T58 {w : World} {A : Option Addr} {n : Nat} {xs : List S58} (h : Kd.C k58 w A n xs) (i : Int) (h0 : 0 ≤ i) (h1 : i < n) : ∃ ad A2 c2, A = some ad ∧ w.cell? (ad.add (i.toNat * 3)) = some (.int .i64 (rd_T58 xs i).f0) ∧ w.cell? ⟨(ad.add (i.toNat * 3)).block, (ad.add (i.toNat * 3)).off + 1, none⟩ = some (.int .i64 (rd_T58 xs i).f1) ∧ w.cell? ⟨(ad.add (i.toNat * 3)).block, (ad.add (i.toNat * 3)).off + 2, none⟩ = some (.slice A2 (rd_T58 xs i).f2.length c2) ∧ (rd_T58 xs i).f2.length ≤ c2 ∧ k58.C w A2 (rd_T58 xs i).f2.length (rd_T58 xs i).f2 := by
 obtain ⟨ad, c, e, _, hK, hc0⟩ := Kd.C_get h z58 i h0 h1
 have hc : ∀ j u, c[j]? = some u → w.cell? (ad.add (i.toNat * 3 + j)) = some u := hc0
 obtain ⟨A2, c2, rfl, l2, g2⟩ := k58_open hK
 exact ⟨ad, A2, c2, e, hc 0 _ rfl, by rw [← add_field _ _ 1 (by omega)]; exact hc 1 _ rfl, by rw [← add_field _ _ 2 (by omega)]; exact hc 2 _ rfl, l2, g2⟩
structure S157 where
 f0 : Int
 f1 : Int
 f2 : Int
def z157 : S157 := ⟨(0 : Int), (0 : Int), (0 : Int)⟩
def k157 : Kd S157 := Kd.iso (Kd.pair (Kd.int .i64) (Kd.pair (Kd.int .i64) (Kd.int .i64))) (fun x : S157 => (x.f0, x.f1, x.f2))
theorem k157_open {w : World} {x : S157} {cs : List Value} (h : k157.K w x cs) : cs = [.int .i64 x.f0, .int .i64 x.f1, .int .i64 x.f2] := by
 obtain ⟨_, _, rfl, rfl, ⟨_, _, rfl, rfl, rfl⟩⟩ := h
 exact rfl
theorem k157_mk (w : World) (x : S157)  : k157.K w x [.int .i64 x.f0, .int .i64 x.f1, .int .i64 x.f2] := ⟨[.int .i64 x.f0], [.int .i64 x.f1, .int .i64 x.f2], rfl, rfl, ⟨[.int .i64 x.f1], [.int .i64 x.f2], rfl, rfl, rfl⟩⟩
def rd_T157 (xs : List S157) (i : Int) : S157 := xs.getD i.toNat z157
theorem at_T157 {w : World} {A : Option Addr} {n : Nat} {xs : List S157} (h : Kd.C k157 w A n xs) (i : Int) (h0 : 0 ≤ i) (h1 : i < n) : ∃ ad , A = some ad ∧ w.cell? (ad.add (i.toNat * 3)) = some (.int .i64 (rd_T157 xs i).f0) ∧ w.cell? ⟨(ad.add (i.toNat * 3)).block, (ad.add (i.toNat * 3)).off + 1, none⟩ = some (.int .i64 (rd_T157 xs i).f1) ∧ w.cell? ⟨(ad.add (i.toNat * 3)).block, (ad.add (i.toNat * 3)).off + 2, none⟩ = some (.int .i64 (rd_T157 xs i).f2) := by
 obtain ⟨ad, c, e, _, hK, hc0⟩ := Kd.C_get h z157 i h0 h1
 have hc : ∀ j u, c[j]? = some u → w.cell? (ad.add (i.toNat * 3 + j)) = some u := hc0
 obtain rfl := k157_open hK
 exact ⟨ad, e, hc 0 _ rfl, by rw [← add_field _ _ 1 (by omega)]; exact hc 1 _ rfl, by rw [← add_field _ _ 2 (by omega)]; exact hc 2 _ rfl⟩
structure S164 where
 f0 : Int
 f1 : Int
 f2 : (List S164)
def z164 : S164 := ⟨(0 : Int), (0 : Int), ([] : List S164)⟩
end Go.Proofs.YtmdjmbdeeodehaaDoor.G
end
section
set_option linter.unusedVariables false
set_option linter.unusedSimpArgs false
namespace Go.Proofs.YtmdjmbdeeodehaaDoor.G
open Go Go.RowKit
abbrev GRule := S32
theorem digit_inj {a b : Nat} (ha : a < 10) (hb : b < 10) (h : UInt8.ofNat (48 + a) = UInt8.ofNat (48 + b)) : a = b := by
  have := congrArg UInt8.toNat h
  simp only [UInt8.toNat_ofNat'] at this
  omega
theorem decDigits_ne (u : Nat) : Lib.decDigits u ≠ [] := by
  intro h
  have := Lib.decDigits_length u
  have h2 := Lib.nDigits_pos u
  rw [h] at this
  simp at this; omega
theorem decDigits_inj : ∀ (u v : Nat), Lib.decDigits u = Lib.decDigits v → u = v := by
  intro u
  induction u using Nat.strongRecOn with
  | _ u ih =>
    intro v h
    by_cases hu : u < 10
    · by_cases hv : v < 10
      · rw [Lib.decDigits_one hu, Lib.decDigits_one hv] at h
        exact digit_inj hu hv (by simpa using h)
      · exfalso
        rw [Lib.decDigits_one hu, Lib.decDigits, dif_neg hv] at h
        have h1 := congrArg List.length h
        have h2 := List.length_pos_iff.2 (decDigits_ne (v / 10))
        rw [List.length_append, List.length_singleton, List.length_singleton] at h1; omega
    · by_cases hv : v < 10
      · exfalso
        rw [Lib.decDigits_one hv, Lib.decDigits, dif_neg hu] at h
        have h1 := congrArg List.length h
        have h2 := List.length_pos_iff.2 (decDigits_ne (u / 10))
        rw [List.length_append, List.length_singleton, List.length_singleton] at h1; omega
      · rw [Lib.decDigits, dif_neg hu] at h
        rw [show Lib.decDigits v = Lib.decDigits (v / 10) ++ [UInt8.ofNat (48 + v % 10)] by rw [Lib.decDigits, dif_neg hv]] at h
        obtain ⟨h1, h2⟩ := List.append_inj' h rfl
        have e1 := ih (u / 10) (by omega) _ h1
        have e2 := digit_inj (Nat.mod_lt u (by omega)) (Nat.mod_lt v (by omega)) (by simpa using h2)
        omega
theorem decDigits_byte : ∀ (u : Nat) (b : UInt8), b ∈ Lib.decDigits u → 48 ≤ b.toNat ∧ b.toNat ≤ 57 := by
  intro u
  induction u using Nat.strongRecOn with
  | _ u ih =>
    intro b hb
    by_cases hu : u < 10
    · rw [Lib.decDigits_one hu] at hb
      obtain rfl := List.mem_singleton.1 hb
      simp only [UInt8.toNat_ofNat']; omega
    · rw [Lib.decDigits, dif_neg hu] at hb
      rcases List.mem_append.1 hb with h | h
      · exact ih (u / 10) (by omega) b h
      · obtain rfl := List.mem_singleton.1 h
        simp only [UInt8.toNat_ofNat']; omega
theorem itoa_byte (n : Int) (b : UInt8) (h : b ∈ Lib.itoa n) : b ≠ 32 := by
  intro e
  subst e
  unfold Lib.itoa at h
  split at h
  · rcases List.mem_cons.1 h with h | h
    · exact absurd h (by decide)
    · have := (decDigits_byte _ _ h).1; revert this; decide
  · have := (decDigits_byte _ _ h).1; revert this; decide
theorem itoa_inj {a b : Int} (h : Lib.itoa a = Lib.itoa b) : a = b := by
  have head : ∀ (n : Nat), (Lib.decDigits n).head? ≠ some 45 := by
    intro n e
    have : (45 : UInt8) ∈ Lib.decDigits n := by
      cases hl : Lib.decDigits n with
      | nil => rw [hl] at e; cases e
      | cons x r => rw [hl] at e; simp at e; subst e; simp
    have := (decDigits_byte _ _ this).1; revert this; decide
  unfold Lib.itoa at h
  by_cases ha : a < 0 <;> by_cases hb : b < 0
  · rw [if_pos ha, if_pos hb] at h
    have := decDigits_inj _ _ (by simpa using h); omega
  · rw [if_pos ha, if_neg hb] at h
    exact absurd (by rw [← h]; rfl) (head b.toNat)
  · rw [if_neg ha, if_pos hb] at h
    exact absurd (by rw [h]; rfl) (head a.toNat)
  · rw [if_neg ha, if_neg hb] at h
    have := decDigits_inj _ _ h; omega
theorem itoa_len (n : Int) (h0 : -9223372036854775808 ≤ n) (h1 : n ≤ 9223372036854775807) : (Lib.itoa n).length ≤ 20 := by
  have hd : ∀ u : Nat, u ≤ 9223372036854775808 → (Lib.decDigits u).length ≤ 19 := by
    intro u hu
    rw [Lib.decDigits_length]
    rcases Nat.lt_or_ge 19 (Lib.nDigits u) with h | h
    · exfalso
      have key : ∀ (k u : Nat), k + 1 ≤ Lib.nDigits u → u ≠ 0 → 10 ^ k ≤ u := by
        intro k
        induction k with
        | zero => intro u _ h0; simp; omega
        | succ k ih =>
          intro u h h0
          by_cases hu : u < 10
          · rw [Lib.nDigits_small hu] at h; omega
          · rw [Lib.nDigits_big hu] at h
            have := ih (u / 10) (by omega) (by omega)
            rw [Nat.pow_succ]; omega
      by_cases hz : u = 0
      · subst hz; rw [Lib.nDigits_small (by omega)] at h; omega
      · have := key 19 u (by omega) hz
        omega
    · exact h
  unfold Lib.itoa
  split
  · have := hd n.natAbs (by omega); simp only [List.length_cons]; omega
  · have := hd n.toNat (by omega); omega
def keyW (l : List Int) : List UInt8 := l.flatMap fun s => 32 :: Lib.itoa s
def keyL (r : GRule) : List UInt8 := Lib.itoa r.f0 ++ keyW r.f1
theorem split32 {x y X Y : List UInt8} (hx : ∀ b ∈ x, b ≠ 32) (hy : ∀ b ∈ y, b ≠ 32) (hX : X = [] ∨ X.head? = some 32) (hY : Y = [] ∨ Y.head? = some 32) (h : x ++ X = y ++ Y) : x = y ∧ X = Y := by
  induction x generalizing y with
  | nil =>
    cases y with
    | nil => exact ⟨rfl, h⟩
    | cons b y =>
      exfalso
      rw [List.nil_append] at h
      rcases hX with e | e
      · rw [e] at h; cases h
      · rw [h] at e; simp at e; exact hy b (by simp) e
  | cons a x ih =>
    cases y with
    | nil =>
      exfalso
      rw [List.nil_append] at h
      rcases hY with e | e
      · rw [e] at h; cases h
      · rw [← h] at e; simp at e; exact hx a (by simp) e
    | cons b y =>
      injection h with h1 h2
      obtain ⟨e1, e2⟩ := ih (y := y) (fun b hb => hx b (List.mem_cons_of_mem _ hb)) (fun b hb => hy b (List.mem_cons_of_mem _ hb)) h2
      exact ⟨by rw [h1, e1], e2⟩
theorem keyW_head (l : List Int) : keyW l = [] ∨ (keyW l).head? = some 32 := by
  cases l with
  | nil => exact .inl rfl
  | cons a l => exact .inr rfl
theorem keyW_inj : ∀ {l m : List Int}, keyW l = keyW m → l = m := by
  intro l
  induction l with
  | nil => intro m h; cases m with
    | nil => rfl
    | cons a m => cases h
  | cons a l ih =>
    intro m h
    cases m with
    | nil => cases h
    | cons b m =>
      have h2 : Lib.itoa a ++ keyW l = Lib.itoa b ++ keyW m := by
        simp only [keyW, List.flatMap_cons, List.cons_append] at h
        injection h
      obtain ⟨e1, e2⟩ := split32 (itoa_byte a) (itoa_byte b) (keyW_head l) (keyW_head m) h2
      rw [itoa_inj e1, ih e2]
theorem keyL_inj {r s : GRule} (h : keyL r = keyL s) : r = s := by
  obtain ⟨e1, e2⟩ := split32 (itoa_byte _) (itoa_byte _) (keyW_head _) (keyW_head _) h
  cases r; cases s
  have h1 := itoa_inj e1
  have h2 := keyW_inj e2
  simp only at h1 h2
  rw [h1, h2]
theorem keyW_len (l : List Int) (h : ∀ s ∈ l, -9223372036854775808 ≤ s ∧ s ≤ 9223372036854775807) : (keyW l).length ≤ 21 * l.length := by
  induction l with
  | nil => simp [keyW]
  | cons a l ih =>
    have h1 := itoa_len a (h a (by simp)).1 (h a (by simp)).2
    have h2 := ih (fun s hs => h s (List.mem_cons_of_mem _ hs))
    simp only [keyW, List.flatMap_cons, List.length_append, List.length_cons] at h2 ⊢
    omega
def symOk (n : Int) : Bool := decide (-9223372036854775808 ≤ n ∧ n ≤ 9223372036854775807)
def ruleOk (r : GRule) : Bool := symOk r.f0 && decide (r.f1.length ≤ 1000000) && r.f1.all symOk
def gramOk (l0 l1 : List ByteArray) (a2 : Int) (l3 : List GRule) : Bool :=
  decide (l0.length ≤ 1000000) && decide (l1.length ≤ 1000000) && decide (l3.length ≤ 1000000) && l0.all (fun s => decide (s.size ≤ 1000000000)) && l1.all (fun s => decide (s.size ≤ 1000000000)) && symOk a2 && l3.all ruleOk
instance : DecidableEq GRule := fun a b =>
  if h : a.f0 = b.f0 ∧ a.f1 = b.f1 then isTrue (by cases a; cases b; obtain ⟨h1, h2⟩ := h; simp only at h1 h2; rw [h1, h2]) else isFalse (fun e => h (by rw [e]; exact ⟨rfl, rfl⟩))
def texC (may : ByteArray → Bool) (l : List ByteArray) : Int := if l.all may = true then (if l.Nodup then 0 else 2) else 1
def hasB (n m : Nat) (s : Int) : Bool := if s < 0 then decide (-1 - s < m) else decide (s < n)
def ruleC (n m : Nat) (r : GRule) : Int := if r.f0 < 0 ∨ (n : Int) ≤ r.f0 ∨ ¬ r.f1.all (hasB n m) = true then 3 else if 64 < r.f1.length then 5 else 0
def rulesC (n m : Nat) (l : List GRule) : Int := match l.find? (fun r => decide (ruleC n m r ≠ 0)) with
  | some r => ruleC n m r
  | none => if l.Nodup then 0 else 2
def checkC (nm mk : ByteArray → Bool) (l0 l1 : List ByteArray) (a2 : Int) (l3 : List GRule) : Int :=
  if l0.length = 0 ∨ 2048 < l0.length ∨ 2048 < l1.length ∨ 8192 < l3.length then 11
  else if texC nm l0 = 1 ∨ texC mk l1 = 1 then 1
  else if texC nm l0 = 2 ∨ texC mk l1 = 2 then 2
  else if a2 < 0 ∨ (l0.length : Int) ≤ a2 then 3
  else rulesC l0.length l1.length l3
def isIn (s : ByteArray) (l : List ByteArray) : Bool := l.any fun t => decide (t = s)
theorem isIn_iff (s : ByteArray) (l : List ByteArray) : isIn s l = true ↔ s ∈ l := by simp [isIn]
def texG (may : ByteArray → Bool) : List ByteArray → List ByteArray → Int → Int
  | [], _, t => t
  | s :: r, seen, t => if may s = true then texG may r (seen ++ [s]) (if isIn s seen = true then 2 else t) else 1
theorem texG_2 (may : ByteArray → Bool) : ∀ (l seen : List ByteArray), texG may l seen 2 = if l.all may = true then 2 else 1 := by
  intro l
  induction l with
  | nil => intro seen; simp [texG]
  | cons a l ih =>
    intro seen
    rw [texG]
    by_cases h : may a = true
    · rw [if_pos h, ite_self, ih]; simp [h]
    · rw [if_neg h, if_neg (by simp [h])]
theorem texG_0 (may : ByteArray → Bool) : ∀ (l seen : List ByteArray), seen.Nodup → texG may l seen 0 = if l.all may = true then (if (seen ++ l).Nodup then 0 else 2) else 1 := by
  intro l
  induction l with
  | nil => intro seen h; simp [texG, h]
  | cons a l ih =>
    intro seen h
    rw [texG]
    by_cases hm : may a = true
    · rw [if_pos hm]
      by_cases hs : a ∈ seen
      · rw [if_pos ((isIn_iff _ _).2 hs), texG_2]
        have : ¬ (seen ++ a :: l).Nodup := by
          intro hn
          exact (List.nodup_append.1 hn).2.2 a hs a (by simp) rfl
        rw [if_neg this]
        simp [hm]
      · rw [if_neg (fun h => hs ((isIn_iff _ _).1 h)), ih _ (by
          rw [List.nodup_append]
          exact ⟨h, by simp, fun x hx y hy e => hs (by simp at hy; rw [← hy, ← e]; exact hx)⟩)]
        simp [hm]
    · rw [if_neg hm, if_neg (by simp [hm])]
theorem texG_eq (may : ByteArray → Bool) (l : List ByteArray) : texG may l [] 0 = texC may l := by
  rw [texG_0 may l [] List.nodup_nil, texC]; rfl
def rulG (n m : Nat) : List GRule → List (List UInt8) → Int → Int
  | [], _, t => t
  | r :: l, seen, t => if ruleC n m r = 0 then rulG n m l (seen ++ [keyL r]) (if keyL r ∈ seen then 2 else t) else ruleC n m r
theorem rulG_2 (n m : Nat) : ∀ (l : List GRule) (seen : List (List UInt8)), rulG n m l seen 2 = match l.find? (fun r => decide (ruleC n m r ≠ 0)) with
  | some r => ruleC n m r
  | none => 2 := by
  intro l
  induction l with
  | nil => intro seen; rfl
  | cons a l ih =>
    intro seen
    rw [rulG, List.find?_cons]
    by_cases h : ruleC n m a = 0
    · rw [if_pos h, ite_self, ih]; simp [h]
    · rw [if_neg h]; simp [h]
theorem rulG_0 (n m : Nat) : ∀ (l : List GRule) (seen : List GRule), seen.Nodup → rulG n m l (seen.map keyL) 0 = match l.find? (fun r => decide (ruleC n m r ≠ 0)) with
  | some r => ruleC n m r
  | none => if (seen ++ l).Nodup then 0 else 2 := by
  intro l
  induction l with
  | nil => intro seen h; simp [rulG, h]
  | cons a l ih =>
    intro seen h
    rw [rulG, List.find?_cons]
    by_cases hm : ruleC n m a = 0
    · rw [if_pos hm]
      have hk : keyL a ∈ seen.map keyL ↔ a ∈ seen := by
        rw [List.mem_map]
        exact ⟨fun ⟨x, hx, e⟩ => by rw [← keyL_inj e]; exact hx, fun h => ⟨a, h, rfl⟩⟩
      by_cases hs : a ∈ seen
      · rw [if_pos (hk.2 hs), rulG_2]
        have : ¬ (seen ++ a :: l).Nodup := by
          intro hn
          exact (List.nodup_append.1 hn).2.2 a hs a (by simp) rfl
        simp only [hm, this, ne_eq, not_true, decide_false, if_false]
      · rw [if_neg (fun h => hs (hk.1 h))]
        have := ih (seen ++ [a]) (by
          rw [List.nodup_append]
          exact ⟨h, by simp, fun x hx y hy e => hs (by simp at hy; rw [← hy, ← e]; exact hx)⟩)
        rw [List.map_append] at this
        simp only [List.map_cons, List.map_nil] at this
        rw [this]
        simp [hm]
    · rw [if_neg hm]; simp [hm]
theorem rulG_eq (n m : Nat) (l : List GRule) : rulG n m l [] 0 = rulesC n m l := by
  have := rulG_0 n m l [] List.nodup_nil
  rw [List.map_nil] at this
  rw [this, rulesC]; rfl
end Go.Proofs.YtmdjmbdeeodehaaDoor.G
end
section
set_option linter.unusedVariables false
set_option linter.unusedSimpArgs false
namespace Go.Proofs.YtmdjmbdeeodehaaDoor.G
open Go Go.Proofs Go.RowKit Go.Maps Go.WideMaps Go.Proofs.YtmdjmbdeeodehaaDoorW.PrintWords
def cntS (s : ByteArray) (l : List ByteArray) : Nat := l.countP fun t => decide (t = s)
def textsF (may : ByteArray → Option Bool) : List ByteArray → List ByteArray → Int → Option Int
  | [], _, t => some t
  | s :: r, seen, t => if s.size ≤ maxLen then (may s).bind fun b => if b = true then textsF may r (seen ++ [s]) (if 0 < cntS s seen then 2 else t) else some 1 else none
abbrev D0 := DataW Unit
def Seen (D : D0) (l : List ByteArray) : Prop := IsMap D ∧ ∀ s : ByteArray, D.atKey (.string s.data.toList) (.lit (.int .i64 0)) = .lit (.int .i64 (cntS s l : Int))
theorem seen_nil : Seen (.map []) [] := ⟨isMap_empty, fun s => by rfl⟩
theorem seen_put {D : D0} {l : List ByteArray} (h : Seen D l) (s : ByteArray) : Seen (D.put (.string s.data.toList) (.lit (.int .i64 ((cntS s l : Int) + 1)))) (l ++ [s]) := by
  refine ⟨h.1.put _ _, fun t => ?_⟩
  by_cases e : t = s
  · subst e
    rw [atKey_put_same h.1 (by trivial), cntS, cntS, List.countP_append, List.countP_singleton]
    simp
  · rw [atKey_put_other (by intro e2; injection e2 with e3; exact e (by cases t; cases s; congr 1; exact Array.toList_inj.1 e3)), h.2 t, cntS, cntS, List.countP_append, List.countP_singleton]
    simp [Ne.symm e]
theorem blk_lt_ {w : World} {a : Addr} {v : Value} (h : w.cell? a = some v) : a.block < w.heap.size := by
  rcases Nat.lt_or_ge a.block w.heap.size with h' | h'
  · exact h'
  · rw [World.cell?, Array.getElem?_eq_none h'] at h
    cases h
theorem own_below {w w' : World} {P : Program} {k : TypeId} {R : Value → Option (DataW Unit × List MemPlace)} {b n : Nat} {D : D0} (h : Below w.heap.size w w') (m : w.ownsMap P k R b n D) : w'.ownsMap P k R b n D := by
  have hlt := m.lt
  obtain ⟨es, clock, hb, F, hs, hD⟩ := m
  exact ⟨es, clock, (h.block b hlt).trans hb, F, hs, hD⟩
theorem mapLaw : Keyed Tryd.prog 9 := string_keyed Tryd.underlying9
theorem zero3 (w : World) : (zeroValue 3).run Tryd.prog w = .ok (.int .i64 0) w := by kernel_rfl
set_option maxHeartbeats 4000000 in
set_option maxRecDepth 100000 in
theorem texts_calls (may : ByteArray → Option Bool) (m : Nat) (hcall : ∀ (s : ByteArray) (W : World), Sem.run Tryd.prog (callFunc m #[.string s]) W = .ok (.enter m #[.string s]) W) (hmay : ∀ s b W, may s = some b → Calls Tryd.prog m #[.string s] W fun e w' => e = .returned (.bool b) ∧ Below W.heap.size W w')
    (A0 : Option Addr) (c0 : Nat) (l0 : List ByteArray) (r : Int) (w : World) (hr0 : Kd.C Kd.string w A0 l0.length l0) (hc0 : l0.length ≤ c0) (hl0 : l0.length ≤ 1000000) (h : textsF may l0 [] 0 = some r) :
    Calls Tryd.prog 92 #[.slice A0 l0.length c0, .func (.func m) #[] #[]] w fun e w' => e = .returned (.int .i64 r) ∧ Below w.heap.size w w' := by
  have hmm := @run_makeMap Tryd.prog
  go_enter Tryd.func92, Tryd.ntmps92
  go_wp2
  go_loopw [6, 12] (fun t i wr => ∃ (k : Nat) (tw : Int) (D : D0), k ≤ l0.length ∧ i = .int .i64 k ∧ t = .int .i64 tw ∧ Hid (textsF may (l0.drop k) (l0.take k) tw = some r) ∧ Hid (wr.ownsMap Tryd.prog 9 (plainElem Tryd.prog 3) w.heap.size k D) ∧ Hid (Seen D (l0.take k)) ∧ Below w.heap.size w wr) (fun _ i _ => l0.length - (intOf i).toNat)
  case atStart => exact ⟨0, 0, .map [], Nat.zero_le _, rfl, rfl, Lib.hid (by simpa using h), Lib.hid (World.ownsMap_made _ _ _ _), Lib.hid (by simpa using seen_nil), (Below.refl _ _).alloc (Nat.le_refl _) _⟩
  case round =>
    obtain ⟨k, tw, D, hk, rfl, rfl, hT, hM, hS, hB⟩ := hrel
    by_cases hlt : k < l0.length
    · obtain ⟨ad, e0, hx⟩ := Kd.at_string hr0 (k : Int) (by omega) (by omega)
      subst e0
      obtain ⟨s, hs⟩ : ∃ s, s = l0[k] := ⟨_, rfl⟩
      have hrd : rdOf ByteArray.empty l0 (k : Int) = s := by rw [hs, rdOf, Int.toNat_natCast, List.getD_eq_getElem?_getD, List.getElem?_eq_getElem hlt]; rfl
      rw [hrd, Int.toNat_natCast] at hx
      have ht := hT.out
      rw [List.drop_eq_getElem_cons hlt, ← hs] at ht
      simp only [textsF] at ht
      split at ht
      · rename_i hsz
        obtain ⟨b, hb, ht⟩ := Option.bind_eq_some_iff.1 ht
        have hx2 : wr.cell? (ad.add k) = some (.string s) := (hB.cell (blk_lt_ hx)).trans hx
        have hsk : Hid (l0[k] = s) := Lib.hid hs.symm
        clear hT hmm hs hrd
        have hcs := hcall s
        cases b with
        | false =>
          rw [if_neg (by simp)] at ht
          obtain rfl := Option.some.inj ht
          go_wp2_with ((with_reducible refine (hmay s false _ hb).mono ?_); rintro e w2 ⟨rfl, hb2⟩)
          go_ret
          exact ⟨rfl, hB.trans (hb2.mono hB.size)⟩
        | true =>
          rw [if_pos rfl] at ht
          go_wp2_with ((with_reducible refine (hmay s true _ hb).mono ?_); rintro e w2 ⟨rfl, hb2⟩)
          have hBw : w.heap.size ≤ wr.heap.size := hB.size
          have hM2 : w2.ownsMap Tryd.prog 9 (plainElem Tryd.prog 3) w.heap.size k D := own_below hb2 hM.out
          have hB2 : Below w.heap.size w w2 := hB.trans (hb2.mono hBw)
          have hkey : keyOf Tryd.prog 9 (.string s) = some (.string s.data.toList) := keyOf_string_mk Tryd.underlying9 hsz
          obtain ⟨c, hrun, hat, _⟩ := hM2.lookup_int mapLaw Tryd.underlying144 Tryd.underlying3 (zero3 _) hkey
          have hc : c = (cntS s (l0.take k) : Int) := by rw [hS.out.2 s] at hat; injection hat with e1; injection e1 with _ e2; exact e2.symm
          have hcl : cntS s (l0.take k) ≤ k := Nat.le_trans (List.countP_le_length ..) (by rw [List.length_take]; omega)
          obtain ⟨n, hn⟩ : ∃ n : Nat, cntS s (l0.take k) = n := ⟨_, rfl⟩
          have hHn : Hid (cntS s (l0.take k) = n) := Lib.hid hn
          rw [hn] at hc hcl
          subst hc
          have hHt : Hid (textsF may (l0.drop (k + 1)) (l0.take k ++ [s]) (if 0 < n then 2 else tw) = some r) := Lib.hid (by rw [← hn]; exact ht)
          clear ht hat hn hb2 hB hM hcall hcs hx2 hx
          have hw : wrap64 ((n : Int) + 1) = ((n + 1 : Nat) : Int) := by rw [IntWalk.wrap64_in _ (by omega)]; omega
          have hwf : (Lit.int .i64 ((n + 1 : Nat) : Int)).wf = true := by rw [← hw]; exact wrap64_wf _
          have hkm : k < maxLen := Nat.lt_of_lt_of_le (Nat.lt_of_lt_of_le hlt hl0) (by decide)
          rw [hrun]
          go_wp2_with (at_mapUpdate; refine wpList_mapUpdate_own _ rfl _ _ _ 144 rfl 9 3 mapLaw Tryd.underlying144 _ w.heap.size k _ rfl hM2 hkm _ _ _ rfl rfl hkey _ [] (plainElem_int Tryd.underlying3 hwf) ?_; intro w3 hM3 hg3)
          have hB3 : Below w.heap.size w w3 := hB2.grown hg3 hB2.size (fun j hj => by cases hj; exact Nat.le_refl _)
          obtain ⟨c2, hrun2, hat2, _⟩ := hM3.lookup_int mapLaw Tryd.underlying144 Tryd.underlying3 (zero3 _) hkey
          have hc2 : c2 = ((n + 1 : Nat) : Int) := by
            have h5 := (atKey_put_same hS.out.1 (k := .string s.data.toList) trivial _ _).symm.trans hat2
            simp only [DataW.lit.injEq, Lit.int.injEq, true_and] at h5
            exact h5.symm
          subst hc2
          have htake : l0.take (k + 1) = l0.take k ++ [s] := by rw [List.take_succ_eq_append_getElem hlt, hsk.out]
          have hS3 : Hid (Seen (D.put (.string s.data.toList) (.lit (.int .i64 ((n + 1 : Nat) : Int)))) (l0.take (k + 1))) := Lib.hid (by
            have := seen_put hS.out s
            rw [hHn.out] at this
            rw [htake]; exact this)
          rw [← htake] at hHt
          have hM3' := Lib.hid hM3
          clear hM3 hat2 hM2 hS hrun htake
          rw [hrun2]
          by_cases hp : 0 < n
          · have e1 : decide ((1 : Int) < (n : Int) + 1) = true := decide_eq_true (by omega)
            rw [if_pos hp] at hHt
            go_wp2
            go_roundw
            case rel => exact ⟨k + 1, 2, _, by omega, by go_num, rfl, hHt, hM3', hS3, hB3⟩
            case measure => simp [intOf]; omega
          · have e1 : decide ((1 : Int) < (n : Int) + 1) = false := decide_eq_false (by omega)
            rw [if_neg hp] at hHt
            go_wp2
            go_roundw
            case rel => exact ⟨k + 1, tw, _, by omega, by go_num, rfl, hHt, hM3', hS3, hB3⟩
            case measure => simp [intOf]; omega
      · cases ht
    · have : k = l0.length := by omega
      subst this
      have ht := hT.out
      rw [List.drop_length] at ht
      simp only [textsF] at ht
      obtain rfl := Option.some.inj ht
      go_wp2
      go_ret
      exact ⟨rfl, hB⟩
def idxL (p : Int → Bool) : List Int → Int → Int
  | [], _ => -1
  | x :: r, i => if p x = true then i else idxL p r (i + 1)
set_option maxHeartbeats 4000000 in
set_option maxRecDepth 100000 in
theorem index_calls (p : Int → Bool) (m : Nat) (cap : Array Value) (I : World → Prop) (hI : ∀ W W', I W → Below W.heap.size W W' → I W')
    (hcall : ∀ (x : Int) (W : World), Sem.run Tryd.prog (callFunc m (#[.int .i64 x] ++ cap)) W = .ok (.enter m (#[.int .i64 x] ++ cap)) W)
    (A0 : Option Addr) (c0 : Nat) (l0 : List Int) (hp : ∀ x ∈ l0, ∀ W, I W → Calls Tryd.prog m (#[.int .i64 x] ++ cap) W fun e w' => e = .returned (.bool (p x)) ∧ Below W.heap.size W w')
    (w : World) (hw : I w) (hr0 : Kd.C (Kd.int .i64) w A0 l0.length l0) (hc0 : l0.length ≤ c0) (hl0 : l0.length ≤ 1000000) :
    Calls Tryd.prog 162 #[.slice A0 l0.length c0, .func (.func m) #[] cap] w fun e w' => e = .returned (.int .i64 (idxL p l0 0)) ∧ Below w.heap.size w w' := by
  go_enter Tryd.func162, Tryd.ntmps162
  go_wp2
  go_loopw [8] (fun i wr => ∃ (k : Nat), k ≤ l0.length ∧ i = .int .i64 k ∧ Hid (idxL p l0 0 = idxL p (l0.drop k) k) ∧ I wr ∧ Below w.heap.size w wr) (fun i _ => l0.length - (intOf i).toNat)
  case atStart => exact ⟨0, Nat.zero_le _, rfl, Lib.hid rfl, hw, Below.refl _ _⟩
  case round =>
    obtain ⟨k, hk, rfl, hT, hIw, hB⟩ := hrel
    by_cases hlt : k < l0.length
    · obtain ⟨ad, e0, hx⟩ := Kd.at_int hr0 (k : Int) (by omega) (by omega)
      subst e0
      obtain ⟨s, hs⟩ : ∃ s, s = l0[k] := ⟨_, rfl⟩
      have hrd : Go.Proofs.YtmdjmbdeeodehaaDoorW.PrintWords.rd l0 (k : Int) = s := by rw [hs, Go.Proofs.YtmdjmbdeeodehaaDoorW.PrintWords.rd, Int.toNat_natCast, List.getD_eq_getElem?_getD, List.getElem?_eq_getElem hlt]; rfl
      rw [hrd, Int.toNat_natCast] at hx
      have hx2 : wr.cell? (ad.add k) = some (.int .i64 s) := (hB.cell (blk_lt_ hx)).trans hx
      have hT2 : Hid (idxL p l0 0 = if p s = true then (k : Int) else idxL p (l0.drop (k + 1)) ((k + 1 : Nat) : Int)) := Lib.hid (by
        rw [hT.out, List.drop_eq_getElem_cons hlt, ← hs]; simp only [idxL]; rfl)
      have hmem : s ∈ l0 := by rw [hs]; exact List.getElem_mem _
      have Hmem := Lib.hid hmem
      clear hT hs hrd hmem
      have hcs := hcall s
      cases hb : p s with
      | true =>
        rw [if_pos hb] at hT2
        go_wp2_with ((with_reducible refine (hp s Hmem.out _ hIw).mono ?_); rintro e w2 ⟨rfl, hb2⟩; rw [hb])
        go_ret
        exact ⟨by rw [hT2.out]; rfl, hB.trans (hb2.mono hB.size)⟩
      | false =>
        rw [if_neg (by rw [hb]; simp)] at hT2
        go_wp2_with ((with_reducible refine (hp s Hmem.out _ hIw).mono ?_); rintro e w2 ⟨rfl, hb2⟩; rw [hb])
        go_roundw
        case rel => exact ⟨k + 1, by omega, by go_num, hT2, hI _ _ hIw hb2, hB.trans (hb2.mono hB.size)⟩
        case measure => simp [intOf]; omega
    · have : k = l0.length := by omega
      subst this
      have ht := hT.out
      rw [List.drop_length] at ht
      simp only [idxL] at ht
      go_wp2
      go_ret
      exact ⟨by rw [ht]; rfl, hB⟩
end Go.Proofs.YtmdjmbdeeodehaaDoor.G
end
section
namespace Go.Proofs.YtmdjmbdeeodehaaDoor.G
open Go.RowKit Go.Proofs.YtmdjmbdeeodehaaDoorW.PrintWords Go.Proofs.YtmdjmbdeeodehaaDoorW.PrintLast Go.Proofs.YtmdjmbdeeodehaaDoorW.PrintMore
attribute [local go_sem] max2_int min2_int max_two min_two max_three min_three max_four min_four
attribute [local go_sem] Go.Proofs.YtmdjmbdeeodehaaDoorOwn.isSome_setCell
set_option linter.unusedVariables false
set_option linter.unusedSimpArgs false
def slices_Index_string_string.l0 : Nat → List ByteArray → ByteArray → Int → Int → Option (Int)
 | 0, _, _, _, _ => none
 | k + 1, x0, x1, x7, x8 => if x8 < x7 then (if 0 ≤ x8 then (if x8 < (x0.length : Int) then (if x1.toList = (rdOf ByteArray.empty x0 x8).toList then (some x8) else (slices_Index_string_string.l0 k x0 x1 x7 (wrap64 (x8 + 1)))) else (none)) else (none)) else (some (-1))
def slices_Index_string_string.f (k : Nat) (l0 : List ByteArray) (a1 : ByteArray) : Option (Int) := slices_Index_string_string.l0 k l0 a1 (l0.length : Int) 0
set_option maxHeartbeats 8000000 in
set_option maxRecDepth 100000 in
theorem slices_Index_string_string.calls (k : Nat) (A0 : Option Addr) (c0 : Nat) (l0 : List ByteArray) (a1 : ByteArray) (r : Int) (w : World) (hr0 : Kd.C Kd.string w A0 l0.length l0) (hc0 : l0.length ≤ c0) (h : slices_Index_string_string.f k l0 a1 = some r) :
  Calls Tryd.prog 163 #[.slice A0 l0.length c0, .string a1] w fun e w' => e = .returned (.int .i64 r) ∧ Drawn0 w w' := by
 have HR0 := Aside0.mk hr0
 have HC0 := Aside0.mk hc0
 clear hr0 hc0
 have H : (slices_Index_string_string.l0 k l0 a1 (l0.length : Int) 0) = some r := h
 clear h
 have H' := Aside0.mk H
 clear H
 go_enter Tryd.func163, Tryd.ntmps163
 go_wp2
 go_loopg [8] k (fun kq v8 w' => ∃ (x8_1 : Int), v8 = .int .i64 x8_1 ∧ Aside0 (slices_Index_string_string.l0 kq l0 a1 (l0.length : Int) x8_1 = some r) ∧ Aside0 (kq ≤ k) ∧ Drawn0 w w')
 case atStart => exact ⟨(0), (by first | rfl | (simp; done) | (simp [*]; done)), H', ⟨Nat.le_refl _⟩, by repeat (first | exact Drawn0.refl _ | apply Drawn0.step)⟩
 case round =>
  clear H'
  try clear c1
  try clear p2
  obtain ⟨x8_1, rfl, HA, HK1, ⟨m1, rfl⟩⟩ := hrel
  cases gk with
  | zero => exact absurd HA.out (by simp [slices_Index_string_string.l0])
  | succ k1 =>
   have H := HA.out
   clear HA
   simp only [slices_Index_string_string.l0] at H
   by_cases c3 : x8_1 < (l0.length : Int)
   ·rw [if_pos c3] at H
    have c3b0 : decide (x8_1 < (l0.length : Int)) = true := decide_eq_true c3
    clear c3
    by_cases c4 : 0 ≤ x8_1
    ·rw [if_pos c4] at H
     have c4b0 : decide (0 ≤ x8_1) = true := decide_eq_true c4
     clear c4
     by_cases c5 : x8_1 < (l0.length : Int)
     ·rw [if_pos c5] at H
      have c5b0 : decide (x8_1 < (l0.length : Int)) = true := decide_eq_true c5
      clear c5
      by_cases c6 : a1.toList = (rdOf ByteArray.empty l0 x8_1).toList
      ·rw [if_pos c6] at H
       have c6b0 : (a1.toList == (rdOf ByteArray.empty l0 x8_1).toList) = true := beq_iff_eq.mpr c6
       have c6b1 : (a1.toList != (rdOf ByteArray.empty l0 x8_1).toList) = false := bne_eq_false_iff_eq.mpr c6
       clear c6
       obtain rfl := Option.some.inj H
       have p101 : 0 ≤ (x8_1 : Int) := of_decide_eq_true (by first | (with_reducible assumption) | assumption)
       have q101 : x8_1 < (l0.length : Int) := of_decide_eq_true (by first | (with_reducible assumption) | assumption)
       obtain ⟨ad101, e101, hx101_0⟩ := Kd.at_string HR0.out x8_1 p101 q101
       cases e101
       replace p101 := eq_true p101
       replace q101 := eq_true q101
       go_wp2
       go_ret
       exact ⟨by first | rfl | (simp; done) | (simp [*]; done) | (exfalso; simp only [beq_iff_eq] at *; omega), by repeat (first | exact Drawn0.refl _ | apply Drawn0.step)⟩
      ·rw [if_neg c6] at H
       have c6b0 : (a1.toList == (rdOf ByteArray.empty l0 x8_1).toList) = false := beq_eq_false_iff_ne.mpr c6
       have c6b1 : (a1.toList != (rdOf ByteArray.empty l0 x8_1).toList) = true := bne_iff_ne.mpr c6
       have H' := Aside0.mk H
       clear H
       have p101 : 0 ≤ (x8_1 : Int) := of_decide_eq_true (by first | (with_reducible assumption) | assumption)
       have q101 : x8_1 < (l0.length : Int) := of_decide_eq_true (by first | (with_reducible assumption) | assumption)
       obtain ⟨ad101, e101, hx101_0⟩ := Kd.at_string HR0.out x8_1 p101 q101
       cases e101
       replace p101 := eq_true p101
       replace q101 := eq_true q101
       go_wp2
       go_roundg k1
       case measure => have := HK1.out; omega
       case rel => exact ⟨(wrap64 (x8_1 + 1)), (by first | rfl | (simp; done) | (simp [*]; done)), H', ⟨by have := HK1.out; omega⟩, by repeat (first | exact Drawn0.refl _ | apply Drawn0.step)⟩
     ·rw [if_neg c5] at H
      exact absurd H (by simp)
    ·rw [if_neg c4] at H
     exact absurd H (by simp)
   ·rw [if_neg c3] at H
    have c3b0 : decide (x8_1 < (l0.length : Int)) = false := decide_eq_false c3
    clear c3
    obtain rfl := Option.some.inj H
    go_wp2
    go_ret
    exact ⟨by first | rfl | (simp; done) | (simp [*]; done) | (exfalso; simp only [beq_iff_eq] at *; omega), by repeat (first | exact Drawn0.refl _ | apply Drawn0.step)⟩
def slices_Contains_string_string.f (k : Nat) (l0 : List ByteArray) (a1 : ByteArray) : Option (Bool) := (slices_Index_string_string.f k l0 a1).bind fun t101 => (some (decide (t101 ≥ 0)))
set_option maxHeartbeats 8000000 in
set_option maxRecDepth 100000 in
theorem slices_Contains_string_string.calls (k : Nat) (A0 : Option Addr) (c0 : Nat) (l0 : List ByteArray) (a1 : ByteArray) (r : Bool) (w : World) (hr0 : Kd.C Kd.string w A0 l0.length l0) (hc0 : l0.length ≤ c0) (h : slices_Contains_string_string.f k l0 a1 = some r) :
  Calls Tryd.prog 147 #[.slice A0 l0.length c0, .string a1] w fun e w' => e = .returned (.bool r) ∧ Drawn0 w w' := by
 have HR0 := Aside0.mk hr0
 have HC0 := Aside0.mk hc0
 clear hr0 hc0
 have H : ((slices_Index_string_string.f k l0 a1).bind fun t101 => (some (decide (t101 ≥ 0)))) = some r := h
 clear h
 replace H := Option.bind_eq_some_iff.mp H
 obtain ⟨t101, A30, H⟩ := H
 replace H : (some (decide (t101 ≥ 0))) = some r := H
 have A3 := Aside0.mk A30
 clear A30
 obtain rfl := Option.some.inj H
 go_enter Tryd.func147, Tryd.ntmps147
 go_wp2_with (first | ((with_reducible refine gate_callee (f := 163) rfl ?_); refine goesL_ (some 7) rfl rfl Tryd.func163 (by kernel_rfl) rfl #[.slice A0 l0.length c0, .string a1] rfl (by (try simp only [List.map_toArray, List.map_cons, List.map_nil]); first | done | rfl | (simp only [List.length_drop, List.length_take]; rfl)) ?_; (with_reducible refine (slices_Index_string_string.calls k _ _ l0 a1 t101 _ ?side1 ?side2 A3.out).mono ?_); (case side1 => repeat (first | exact HR0.out | (with_reducible refine Kd.C_alloc ?_ _) | (with_reducible refine Kd.C_drewN ?_ _) | (with_reducible refine Kd.C_drew ?_))); (case side2 => exact HC0.out); rintro e w' ⟨rfl, ⟨nd, rfl⟩⟩; refine ⟨_, rfl, ?_⟩))
 go_ret
 exact ⟨by first | rfl | (simp; done) | (simp [*]; done) | (exfalso; simp only [beq_iff_eq] at *; omega), by repeat (first | exact Drawn0.refl _ | apply Drawn0.step)⟩
end Go.Proofs.YtmdjmbdeeodehaaDoor.G
end
section
namespace Go.Proofs
open Go.Shelf
def Tryd.lays169_ren : Go.Shelf.Ren := ⟨fun | 169 => 118 | n => n, fun | 70 => 171 | 9 => 9 | 0 => 0 | 72 => 174 | 37 => 172 | 127 => 208 | 3 => 3 | 5 => 5 | n => n, fun | n => n⟩
theorem Tryd.lays169 : Go.Proofs.Lays.n169 Tryd.prog Tryd.lays169_ren := {
  mixed := by kernel_rfl
  f169 := Tryd.func118.trans (congrArg some (by kernel_rfl))
  t0 := Tryd.underlying0
  a0 := Tryd.isAgg0
  z0 := Tryd.sizeOf0
  v0 := Tryd.zeroValue0
  t3 := Tryd.underlying3
  a3 := Tryd.isAgg3
  z3 := Tryd.sizeOf3
  v3 := Tryd.zeroValue3
  t9 := Tryd.underlying9
  a9 := Tryd.isAgg9
  z9 := Tryd.sizeOf9
  v9 := Tryd.zeroValue9
  t37 := Tryd.underlying172
  a37 := Tryd.isAgg172
  z37 := Tryd.sizeOf172
  v37 := Tryd.zeroValue172
  t70 := Tryd.underlying171
  a70 := Tryd.isAgg171
  z70 := Tryd.sizeOf171
  v70 := Tryd.zeroValue171
  t72 := Tryd.underlying174
  a72 := Tryd.isAgg174
  z72 := Tryd.sizeOf174
  v72 := Tryd.zeroValue174
  t127 := Tryd.underlying208
  a127 := Tryd.isAgg208
  z127 := Tryd.sizeOf208
  v127 := Tryd.zeroValue208 }
theorem Tryd.Builder_Extra_169 : Builder.Extra Tryd.prog Tryd.lays169_ren := {
  sizeBuilder := by kernel_rfl
  liesBuilder := by kernel_rfl
  t5 := Tryd.underlying5
  a5 := Tryd.isAgg5
  z5 := Tryd.sizeOf5
  v5 := Tryd.zeroValue5
  infoByte := by kernel_rfl
  cellsByte := by kernel_rfl
  sizeByte := by kernel_rfl
  neB5 := by decide }
open Go.RowKit in
theorem Tryd.Builder_String_any_k (B b : Nat) (l : List UInt8) (w : World) (h : Lib.IsBuilderF 174 5 B b (Lib.byteCells l) w) (hBw : B ≤ w.heap.size) :
    Calls Tryd.prog 118 #[.pointer (some ⟨b, 0, none⟩)] w fun e w' => e = .returned (.string ⟨l.toArray⟩) ∧ (Lib.IsBuilderF 174 5 B b (Lib.byteCells l) w' ∧ Below B w w' ∧ Lib.OthersKept 5 (some b) w w') := Any.Builder_String_any_k Tryd.lays169 Tryd.Builder_Extra_169 B b l w h hBw
def Tryd.laysM171_ren : Go.Shelf.Ren := ⟨fun | 171 => 139 | 243 => 161 | 246 => 176 | 283 => 187 | 284 => 188 | 285 => 189 | 286 => 190 | 129 => 195 | 317 => 194 | 318 => 196 | 319 => 197 | 320 => 198 | 337 => 200 | 338 => 201 | n => n, fun | 3 => 3 | 9 => 9 | 2 => 2 | 4 => 4 | 171 => 257 | 0 => 0 | 53 => 258 | 37 => 172 | 5 => 5 | 173 => 261 | 212 => 267 | 51 => 268 | 20 => 20 | 213 => 269 | 46 => 233 | 232 => 273 | 233 => 274 | n => n, fun | 17 => 0 | 18 => 2 | 19 => 3 | n => n⟩
theorem Tryd.laysM171 : Go.Proofs.LaysM.n171 Tryd.prog Tryd.laysM171_ren := {
  mixed := by kernel_rfl
  f129 := Tryd.func195.trans (congrArg some (by kernel_rfl))
  f171 := Tryd.func139.trans (congrArg some (by kernel_rfl))
  f243 := Tryd.func161.trans (congrArg some (by kernel_rfl))
  f246 := Tryd.func176.trans (congrArg some (by kernel_rfl))
  f283 := Tryd.func187.trans (congrArg some (by kernel_rfl))
  f284 := Tryd.func188.trans (congrArg some (by kernel_rfl))
  f285 := Tryd.func189.trans (congrArg some (by kernel_rfl))
  f286 := Tryd.func190.trans (congrArg some (by kernel_rfl))
  f317 := Tryd.func194.trans (congrArg some (by kernel_rfl))
  f318 := Tryd.func196.trans (congrArg some (by kernel_rfl))
  f319 := Tryd.func197.trans (congrArg some (by kernel_rfl))
  f320 := Tryd.func198.trans (congrArg some (by kernel_rfl))
  f337 := Tryd.func200.trans (congrArg some (by kernel_rfl))
  f338 := Tryd.func201.trans (congrArg some (by kernel_rfl))
  t0 := Tryd.underlying0
  a0 := Tryd.isAgg0
  z0 := Tryd.sizeOf0
  v0 := Tryd.zeroValue0
  t2 := Tryd.underlying2
  a2 := Tryd.isAgg2
  z2 := Tryd.sizeOf2
  v2 := Tryd.zeroValue2
  t3 := Tryd.underlying3
  a3 := Tryd.isAgg3
  z3 := Tryd.sizeOf3
  v3 := Tryd.zeroValue3
  t4 := Tryd.underlying4
  a4 := Tryd.isAgg4
  z4 := Tryd.sizeOf4
  v4 := Tryd.zeroValue4
  t5 := Tryd.underlying5
  a5 := Tryd.isAgg5
  z5 := Tryd.sizeOf5
  v5 := Tryd.zeroValue5
  t9 := Tryd.underlying9
  a9 := Tryd.isAgg9
  z9 := Tryd.sizeOf9
  v9 := Tryd.zeroValue9
  t20 := Tryd.underlying20
  a20 := Tryd.isAgg20
  z20 := Tryd.sizeOf20
  v20 := Tryd.zeroValue20
  t37 := Tryd.underlying172
  a37 := Tryd.isAgg172
  z37 := Tryd.sizeOf172
  v37 := Tryd.zeroValue172
  t46 := Tryd.underlying233
  a46 := Tryd.isAgg233
  z46 := Tryd.sizeOf233
  v46 := Tryd.zeroValue233
  t51 := Tryd.underlying268
  a51 := Tryd.isAgg268
  z51 := Tryd.sizeOf268
  v51 := Tryd.zeroValue268
  t53 := Tryd.underlying258
  a53 := Tryd.isAgg258
  z53 := Tryd.sizeOf258
  v53 := Tryd.zeroValue258
  t171 := Tryd.underlying257
  a171 := Tryd.isAgg257
  z171 := Tryd.sizeOf257
  v171 := Tryd.zeroValue257
  t173 := Tryd.underlying261
  a173 := Tryd.isAgg261
  z173 := Tryd.sizeOf261
  v173 := Tryd.zeroValue261
  t212 := Tryd.underlying267
  a212 := Tryd.isAgg267
  z212 := Tryd.sizeOf267
  v212 := Tryd.zeroValue267
  t213 := Tryd.underlying269
  a213 := Tryd.isAgg269
  z213 := Tryd.sizeOf269
  t232 := Tryd.underlying273
  a232 := Tryd.isAgg273
  z232 := Tryd.sizeOf273
  v232 := Tryd.zeroValue273
  t233 := Tryd.underlying274
  a233 := Tryd.isAgg274
  z233 := Tryd.sizeOf274
  v233 := Tryd.zeroValue274
  g17 := by kernel_rfl
  g18 := by kernel_rfl
  g19 := by kernel_rfl
  i0 := by kernel_rfl
  i2 := by kernel_rfl
  i3 := by kernel_rfl
  i4 := by kernel_rfl
  i5 := by kernel_rfl
  i9 := by kernel_rfl
  i20 := by kernel_rfl
  i37 := by kernel_rfl
  i46 := by kernel_rfl
  i51 := by kernel_rfl
  i53 := by kernel_rfl
  i171 := by kernel_rfl
  i173 := by kernel_rfl
  i212 := by kernel_rfl
  i232 := by kernel_rfl
  i233 := by kernel_rfl
  m17 := by kernel_rfl
  m18 := by kernel_rfl
  m19 := by kernel_rfl }
open Go.RowKit Go.Sort Go.Lib in
theorem Tryd.strconv_Itoa (n : Int) (h0 : -9223372036854775808 ≤ n) (h1 : n ≤ 9223372036854775807) (w : World) (htab : Lib.TabIs Tryd.prog w "internal/strconv.uint64pow10" .u64 Lib.pow10Tab) :
    Calls Tryd.prog 139 #[.int .i64 n] w fun e w' => e = .returned (.string ⟨(Lib.itoa n).toArray⟩) ∧ ∃ k os, w' = grow (w.drewN k) os := Any.strconv_Itoa Tryd.laysM171 n h0 h1 w htab
def Tryd.lays167_ren : Go.Shelf.Ren := ⟨fun | 167 => 165 | 240 => 149 | 276 => 164 | n => n, fun | 0 => 0 | 4 => 4 | 5 => 5 | 9 => 9 | 20 => 20 | 37 => 172 | 70 => 171 | 72 => 174 | 75 => 176 | 80 => 180 | 164 => 230 | n => n, fun | n => n⟩
theorem Tryd.lays167 : Go.Proofs.Lays.n167 Tryd.prog Tryd.lays167_ren := {
  mixed := by kernel_rfl
  f167 := Tryd.func165.trans (congrArg some (by kernel_rfl))
  f240 := Tryd.func149.trans (congrArg some (by kernel_rfl))
  f276 := Tryd.func164.trans (congrArg some (by kernel_rfl))
  t0 := Tryd.underlying0
  a0 := Tryd.isAgg0
  z0 := Tryd.sizeOf0
  v0 := Tryd.zeroValue0
  t4 := Tryd.underlying4
  a4 := Tryd.isAgg4
  z4 := Tryd.sizeOf4
  v4 := Tryd.zeroValue4
  t5 := Tryd.underlying5
  a5 := Tryd.isAgg5
  z5 := Tryd.sizeOf5
  v5 := Tryd.zeroValue5
  t9 := Tryd.underlying9
  a9 := Tryd.isAgg9
  z9 := Tryd.sizeOf9
  v9 := Tryd.zeroValue9
  t20 := Tryd.underlying20
  a20 := Tryd.isAgg20
  z20 := Tryd.sizeOf20
  v20 := Tryd.zeroValue20
  t37 := Tryd.underlying172
  a37 := Tryd.isAgg172
  z37 := Tryd.sizeOf172
  v37 := Tryd.zeroValue172
  t70 := Tryd.underlying171
  a70 := Tryd.isAgg171
  z70 := Tryd.sizeOf171
  v70 := Tryd.zeroValue171
  t72 := Tryd.underlying174
  a72 := Tryd.isAgg174
  z72 := Tryd.sizeOf174
  v72 := Tryd.zeroValue174
  t75 := Tryd.underlying176
  a75 := Tryd.isAgg176
  z75 := Tryd.sizeOf176
  v75 := Tryd.zeroValue176
  t164 := Tryd.underlying230
  a164 := Tryd.isAgg230
  z164 := Tryd.sizeOf230
  v164 := Tryd.zeroValue230 }
theorem Tryd.Builder_Extra_167 : Builder.Extra Tryd.prog Tryd.lays167_ren := {
  sizeBuilder := by kernel_rfl
  liesBuilder := by kernel_rfl
  t5 := Tryd.underlying5
  a5 := Tryd.isAgg5
  z5 := Tryd.sizeOf5
  v5 := Tryd.zeroValue5
  infoByte := by kernel_rfl
  cellsByte := by kernel_rfl
  sizeByte := by kernel_rfl
  neB5 := by decide }
open Go.RowKit in
theorem Tryd.Builder_WriteByte_k (B b : Nat) (bs : List Value) (c : Int) (w : World) (h : Lib.IsBuilderF 174 5 B b bs w) (hlen : bs.length + 1 ≤ 140737488355328) (hBw : B ≤ w.heap.size) :
    Calls Tryd.prog 165 #[.pointer (some ⟨b, 0, none⟩), .int .u8 c] w fun e w' => e = .returned .nilIface ∧ (Lib.BuilderAtF 174 5 B b (.pointer (some ⟨b, 0, none⟩)) (bs ++ [.int .u8 c]) w' ∧ Below B w w' ∧ Lib.OthersKept 5 (some b) w w') := Any.Builder_WriteByte_k Tryd.lays167 Tryd.Builder_Extra_167 B b bs c w h hlen hBw
def Tryd.lays166_ren : Go.Shelf.Ren := ⟨fun | 166 => 116 | 240 => 149 | 276 => 164 | n => n, fun | 0 => 0 | 3 => 3 | 4 => 4 | 5 => 5 | 9 => 9 | 20 => 20 | 37 => 172 | 70 => 171 | 72 => 174 | 75 => 176 | 80 => 180 | 164 => 230 | n => n, fun | n => n⟩
theorem Tryd.lays166 : Go.Proofs.Lays.n166 Tryd.prog Tryd.lays166_ren := {
  mixed := by kernel_rfl
  f166 := Tryd.func116.trans (congrArg some (by kernel_rfl))
  f240 := Tryd.func149.trans (congrArg some (by kernel_rfl))
  f276 := Tryd.func164.trans (congrArg some (by kernel_rfl))
  t0 := Tryd.underlying0
  a0 := Tryd.isAgg0
  z0 := Tryd.sizeOf0
  v0 := Tryd.zeroValue0
  t3 := Tryd.underlying3
  a3 := Tryd.isAgg3
  z3 := Tryd.sizeOf3
  v3 := Tryd.zeroValue3
  t4 := Tryd.underlying4
  a4 := Tryd.isAgg4
  z4 := Tryd.sizeOf4
  v4 := Tryd.zeroValue4
  t9 := Tryd.underlying9
  a9 := Tryd.isAgg9
  z9 := Tryd.sizeOf9
  v9 := Tryd.zeroValue9
  t20 := Tryd.underlying20
  a20 := Tryd.isAgg20
  z20 := Tryd.sizeOf20
  v20 := Tryd.zeroValue20
  t37 := Tryd.underlying172
  a37 := Tryd.isAgg172
  z37 := Tryd.sizeOf172
  v37 := Tryd.zeroValue172
  t70 := Tryd.underlying171
  a70 := Tryd.isAgg171
  z70 := Tryd.sizeOf171
  v70 := Tryd.zeroValue171
  t72 := Tryd.underlying174
  a72 := Tryd.isAgg174
  z72 := Tryd.sizeOf174
  v72 := Tryd.zeroValue174
  t75 := Tryd.underlying176
  a75 := Tryd.isAgg176
  z75 := Tryd.sizeOf176
  v75 := Tryd.zeroValue176
  t164 := Tryd.underlying230
  a164 := Tryd.isAgg230
  z164 := Tryd.sizeOf230
  v164 := Tryd.zeroValue230 }
theorem Tryd.Builder_Extra_166 : Builder.Extra Tryd.prog Tryd.lays166_ren := {
  sizeBuilder := by kernel_rfl
  liesBuilder := by kernel_rfl
  t5 := Tryd.underlying5
  a5 := Tryd.isAgg5
  z5 := Tryd.sizeOf5
  v5 := Tryd.zeroValue5
  infoByte := by kernel_rfl
  cellsByte := by kernel_rfl
  sizeByte := by kernel_rfl
  neB5 := by decide }
open Go.RowKit in
theorem Tryd.Builder_WriteString_k (B b : Nat) (bs : List Value) (s : ByteArray) (w : World) (h : Lib.IsBuilderF 174 5 B b bs w) (hlen : bs.length + s.size ≤ 140737488355328) (hBw : B ≤ w.heap.size) :
    Calls Tryd.prog 116 #[.pointer (some ⟨b, 0, none⟩), .string s] w fun e w' => e = .returned (.tuple #[.int .i64 s.size, .nilIface]) ∧ (Lib.BuilderAtF 174 5 B b (.pointer (some ⟨b, 0, none⟩)) (bs ++ Lib.strCells s) w' ∧ Below B w w' ∧ Lib.OthersKept 5 (some b) w w') := Any.Builder_WriteString_k Tryd.lays166 Tryd.Builder_Extra_166 B b bs s w h hlen hBw
end Go.Proofs
end
section
set_option linter.unusedVariables false
namespace Go.Proofs.YtmdjmbdeeodehaaDoor
open Go Go.RowKit
def Laid (w : World) : Prop := Lib.TabIs Tryd.prog w "internal/strconv.uint64pow10" .u64 Lib.pow10Tab
theorem Laid.below {w w' : World} (h : Laid w) (hb : Below w.heap.size w w') : Laid w' := Lib.tabBelow_of_tabIs h w' hb
theorem laid_gT : Tryd.prog.globalNamed "internal/strconv.uint64pow10" = some 0 := by kernel_rfl
theorem laid_vars : ∀ {ns : List (String × DataW Unit)} {W : World} {ps : List MemPlace}, ("internal/strconv.uint64pow10", Lib.tabData .u64 Lib.pow10Tab) ∈ ns → DataW.LaidVars Tryd.prog W ns ps → Laid W := by
  intro ns
  induction ns with
  | nil => intro W ps h; cases h
  | cons x r ih =>
    intro W ps h hl
    obtain ⟨n, y⟩ := x
    obtain ⟨g', t', cs, fuel, p, q, hg', ht', hvar, hd, hr, he⟩ := hl
    rcases List.mem_cons.1 h with e | e
    · cases e
      obtain rfl := Option.some.inj (laid_gT.symm.trans hg')
      obtain rfl := Option.some.inj ((show (Tryd.prog.globals[0]?).map (·.type) = some 267 by kernel_rfl).symm.trans ht')
      show Lib.TabIs _ _ _ _ _
      unfold Lib.TabIs
      rw [hvar, ← Lib.cells_of_tab (n := 20) Tryd.underlying267 Tryd.underlying258 (by kernel_rfl) (by kernel_rfl) hd]
    · exact ih e hr
theorem laid_of {l : List (String × DataW Unit)} {W : World} (hf : (l.filter fun x => x.2.handleName?.isSome) = []) (hm : ("internal/strconv.uint64pow10", Lib.tabData .u64 Lib.pow10Tab) ∈ l) (h : laidMetH Tryd.prog l W) : Laid W := by
  unfold laidMetH at h
  rw [hf] at h
  obtain ⟨ps, hl, _⟩ := h
  exact laid_vars hm hl
end Go.Proofs.YtmdjmbdeeodehaaDoor
end
section
namespace Go.Proofs.YtmdjmbdeeodehaaDoor.G
open Go.RowKit Go.Proofs.YtmdjmbdeeodehaaDoorW.PrintWords Go.Proofs.YtmdjmbdeeodehaaDoorW.PrintLast Go.Proofs.YtmdjmbdeeodehaaDoorW.PrintMore
attribute [local go_sem] max2_int min2_int max_two min_two max_three min_three max_four min_four
attribute [local go_sem] Go.Proofs.YtmdjmbdeeodehaaDoorOwn.isSome_setCell
set_option linter.unusedVariables false
set_option linter.unusedSimpArgs false
def strconv_Itoa.f (a0 : Int) : Option ByteArray := if -9223372036854775808 ≤ a0 ∧ a0 ≤ 9223372036854775807 then some ⟨(Lib.itoa a0).toArray⟩ else none
theorem strconv_Itoa.calls (a0 : Int) (r : ByteArray) (w : World) (hG : Laid w) (h : strconv_Itoa.f a0 = some r) :
  Calls Tryd.prog 139 #[.int .i64 a0] w fun e w' => e = .returned (.string r) ∧ Below w.heap.size w w' := by
 unfold strconv_Itoa.f at h
 split at h
 ·rename_i hb
  obtain rfl := Option.some.inj h
  refine (Tryd.strconv_Itoa a0 hb.1 hb.2 w hG).mono ?_
  rintro e w' ⟨rfl, k, os, rfl⟩
  exact ⟨rfl, Lib.below_grow _ w (Nat.le_refl _) k os⟩
 ·cases h
end Go.Proofs.YtmdjmbdeeodehaaDoor.G
end
section
namespace Go.Proofs.YtmdjmbdeeodehaaDoor.G
open Go.RowKit Go.Proofs.YtmdjmbdeeodehaaDoorW.PrintWords Go.Proofs.YtmdjmbdeeodehaaDoorW.PrintLast Go.Proofs.YtmdjmbdeeodehaaDoorW.PrintMore
attribute [local go_sem] max2_int min2_int max_two min_two max_three min_three max_four min_four
attribute [local go_sem] Go.Proofs.YtmdjmbdeeodehaaDoorOwn.isSome_setCell
set_option linter.unusedVariables false
set_option linter.unusedSimpArgs false
def names_letter.f (a0 : Int) : Option (Bool) := if a0 ≥ 65 then (if a0 ≤ 90 then (some true) else (if a0 ≥ 97 then (some (decide (a0 ≤ 122))) else (some false))) else (if a0 ≥ 97 then (some (decide (a0 ≤ 122))) else (some false))
set_option maxHeartbeats 8000000 in
set_option maxRecDepth 100000 in
theorem names_letter.calls (a0 : Int) (r : Bool) (w : World) (h : names_letter.f a0 = some r) :
  Calls Tryd.prog 140 #[.int .u8 a0] w fun e w' => e = .returned (.bool r) ∧ Drawn0 w w' := by
 have H : (if a0 ≥ 65 then (if a0 ≤ 90 then (some true) else (if a0 ≥ 97 then (some (decide (a0 ≤ 122))) else (some false))) else (if a0 ≥ 97 then (some (decide (a0 ≤ 122))) else (some false))) = some r := h
 clear h
 by_cases c2 : a0 ≥ 65
 ·rw [if_pos c2] at H
  have c2b0 : decide (65 ≤ a0) = true := decide_eq_true c2
  clear c2
  by_cases c3 : a0 ≤ 90
  ·rw [if_pos c3] at H
   have c3b0 : decide (a0 ≤ 90) = true := decide_eq_true c3
   clear c3
   obtain rfl := Option.some.inj H
   go_enter Tryd.func140, Tryd.ntmps140
   go_wp2
   go_ret
   exact ⟨by first | rfl | (simp; done) | (simp [*]; done) | (exfalso; simp only [beq_iff_eq] at *; omega), by repeat (first | exact Drawn0.refl _ | apply Drawn0.step)⟩
  ·rw [if_neg c3] at H
   have c3b0 : decide (a0 ≤ 90) = false := decide_eq_false c3
   clear c3
   by_cases c4 : a0 ≥ 97
   ·rw [if_pos c4] at H
    have c4b0 : decide (97 ≤ a0) = true := decide_eq_true c4
    clear c4
    obtain rfl := Option.some.inj H
    go_enter Tryd.func140, Tryd.ntmps140
    go_wp2
    go_ret
    exact ⟨by first | rfl | (simp; done) | (simp [*]; done) | (exfalso; simp only [beq_iff_eq] at *; omega), by repeat (first | exact Drawn0.refl _ | apply Drawn0.step)⟩
   ·rw [if_neg c4] at H
    have c4b0 : decide (97 ≤ a0) = false := decide_eq_false c4
    clear c4
    obtain rfl := Option.some.inj H
    go_enter Tryd.func140, Tryd.ntmps140
    go_wp2
    go_ret
    exact ⟨by first | rfl | (simp; done) | (simp [*]; done) | (exfalso; simp only [beq_iff_eq] at *; omega), by repeat (first | exact Drawn0.refl _ | apply Drawn0.step)⟩
 ·rw [if_neg c2] at H
  have c2b0 : decide (65 ≤ a0) = false := decide_eq_false c2
  clear c2
  by_cases c5 : a0 ≥ 97
  ·rw [if_pos c5] at H
   have c5b0 : decide (97 ≤ a0) = true := decide_eq_true c5
   clear c5
   obtain rfl := Option.some.inj H
   go_enter Tryd.func140, Tryd.ntmps140
   go_wp2
   go_ret
   exact ⟨by first | rfl | (simp; done) | (simp [*]; done) | (exfalso; simp only [beq_iff_eq] at *; omega), by repeat (first | exact Drawn0.refl _ | apply Drawn0.step)⟩
  ·rw [if_neg c5] at H
   have c5b0 : decide (97 ≤ a0) = false := decide_eq_false c5
   clear c5
   obtain rfl := Option.some.inj H
   go_enter Tryd.func140, Tryd.ntmps140
   go_wp2
   go_ret
   exact ⟨by first | rfl | (simp; done) | (simp [*]; done) | (exfalso; simp only [beq_iff_eq] at *; omega), by repeat (first | exact Drawn0.refl _ | apply Drawn0.step)⟩
mutual
def names_Name.j0 : Nat → ByteArray → Bool → Option (Bool)
 | 0, _, _ => none
 | k + 1, x0, x16 => if x16 = true then (some false) else (names_Name.l0 k x0 (x0.size : Int) 0)
def names_Name.l0 : Nat → ByteArray → Int → Int → Option (Bool)
 | 0, _, _, _ => none
 | k + 1, x0, x18, x19 => if x19 < x18 then (if 0 ≤ x19 then (if x19 < (x0.size : Int) then ((names_letter.f (bt x0 x19)).bind fun t102 => (if t102 = true then (names_Name.l0 k x0 x18 (wrap64 (x19 + 1))) else (if (bt x0 x19) = 45 then (names_Name.l0 k x0 x18 (wrap64 (x19 + 1))) else (if (bt x0 x19) < 48 then (some false) else (if (bt x0 x19) > 57 then (some false) else (names_Name.l0 k x0 x18 (wrap64 (x19 + 1)))))))) else (none)) else (none)) else (some true)
end
def names_Name.f (k : Nat) (a0 : ByteArray) : Option (Bool) := if a0.toList = ([] : List UInt8) then (names_Name.j0 k a0 true) else (if (a0.size : Int) > 64 then (names_Name.j0 k a0 true) else (if 0 < (a0.size : Int) then ((names_letter.f (bt a0 0)).bind fun t101 => (names_Name.j0 k a0 (!t101))) else (none)))
set_option maxHeartbeats 8000000 in
set_option maxRecDepth 100000 in
theorem names_Name.calls (k : Nat) (a0 : ByteArray) (r : Bool) (w : World) (h : names_Name.f k a0 = some r) :
  Calls Tryd.prog 93 #[.string a0] w fun e w' => e = .returned (.bool r) ∧ Drawn0 w w' := by
 have H : (if a0.toList = ([] : List UInt8) then (names_Name.j0 k a0 true) else (if (a0.size : Int) > 64 then (names_Name.j0 k a0 true) else (if 0 < (a0.size : Int) then ((names_letter.f (bt a0 0)).bind fun t101 => (names_Name.j0 k a0 (!t101))) else (none)))) = some r := h
 clear h
 have HC2 := Aside0.mk H
 clear H
 go_enter Tryd.func93, Tryd.ntmps93
 go_upto_region 1 with (fail)
 go_cut [16] (fun v16 wc => ∃ (kq : Nat) (x16_1 : Bool), v16 = .bool x16_1 ∧ Aside0 (names_Name.j0 kq a0 x16_1 = some r) ∧ Aside0 (kq ≤ k) ∧ Drawn0 w wc)
 case first =>
  have H := HC2.out
  clear HC2
  by_cases c3 : a0.toList = ([] : List UInt8)
  ·rw [if_pos c3] at H
   have c3b0 : (a0.toList == ([] : List UInt8)) = true := beq_iff_eq.mpr c3
   have c3b1 : (a0.toList != ([] : List UInt8)) = false := bne_eq_false_iff_eq.mpr c3
   clear c3
   (first | rw [c3b0] | (simp only [i64_w, i32_w]; rw [c3b0]) | skip)
   have H' := Aside0.mk H
   clear H
   go_wp2
   go_meet
   case rel => exact ⟨_, (true), (by first | rfl | (simp; done) | (simp [*]; done)), H', ⟨by first | omega | exact Nat.le_refl _⟩, by repeat (first | exact Drawn0.refl _ | apply Drawn0.step)⟩
  ·rw [if_neg c3] at H
   have c3b0 : (a0.toList == ([] : List UInt8)) = false := beq_eq_false_iff_ne.mpr c3
   have c3b1 : (a0.toList != ([] : List UInt8)) = true := bne_iff_ne.mpr c3
   (first | rw [c3b0] | (simp only [i64_w, i32_w]; rw [c3b0]) | skip)
   by_cases c4 : (a0.size : Int) > 64
   ·rw [if_pos c4] at H
    have c4b0 : decide (64 < (a0.size : Int)) = true := decide_eq_true c4
    have c4b1 : decide (64 < a0.size) = true := decide_eq_true (by omega)
    clear c4
    have H' := Aside0.mk H
    clear H
    go_wp2
    go_meet
    case rel => exact ⟨_, (true), (by first | rfl | (simp; done) | (simp [*]; done)), H', ⟨by first | omega | exact Nat.le_refl _⟩, by repeat (first | exact Drawn0.refl _ | apply Drawn0.step)⟩
   ·rw [if_neg c4] at H
    have c4b0 : decide (64 < (a0.size : Int)) = false := decide_eq_false c4
    have c4b1 : decide (64 < a0.size) = false := decide_eq_false (by omega)
    clear c4
    by_cases c5 : 0 < (a0.size : Int)
    ·rw [if_pos c5] at H
     have c5b0 : decide (0 < (a0.size : Int)) = true := decide_eq_true c5
     have c5b1 : decide (0 < a0.size) = true := decide_eq_true (by omega)
     clear c5
     replace H := Option.bind_eq_some_iff.mp H
     obtain ⟨t101, A70, H⟩ := H
     replace H : (names_Name.j0 k a0 (!t101)) = some r := H
     have A7 := Aside0.mk A70
     clear A70
     have H' := Aside0.mk H
     clear H
     have p6 : 0 ≤ (0 : Int) := (by omega)
     have q6 : 0 < a0.size := (by have : (0 : Int) < (a0.size : Int) := of_decide_eq_true (by first | (with_reducible assumption) | assumption); omega)
     have hx6 : ∀ h : 0 < a0.size, ((a0[0]'h).toNat : Int) = bt a0 0 := bt_at a0 0
     clear p6
     have qi6 : (0 < (a0.size : Int)) = True := eq_true (of_decide_eq_true (by first | (with_reducible assumption) | assumption))
     replace q6 := eq_true q6
     go_wp2_with (first | (go_at_call 140; (with_reducible refine (names_letter.calls (bt a0 0) t101 _ A7.out).mono ?_); rintro e w' ⟨rfl, ⟨nd, rfl⟩⟩))
     go_meet
     case rel => exact ⟨_, (!t101), (by first | rfl | (simp; done) | (simp [*]; done)), H', ⟨by first | omega | exact Nat.le_refl _⟩, by repeat (first | exact Drawn0.refl _ | apply Drawn0.step)⟩
    ·rw [if_neg c5] at H
     exact absurd H (by simp)
 case rest =>
  clear HC2
  try clear p2
  try clear c3
  try clear c3b0
  try clear c3b1
  try clear c4
  try clear c4b0
  try clear c4b1
  try clear c5
  try clear c5b0
  try clear c5b1
  try clear p6
  try clear q6
  try clear hx6
  try clear qi6
  try clear p6
  try clear q6
  obtain ⟨kq, x16_1, rfl, HA, HJ1, ⟨mc1, rfl⟩⟩ := hcut
  cases kq with
  | zero => exact absurd HA.out (by simp [names_Name.j0])
  | succ kj1 =>
   have H := HA.out
   clear HA
   simp only [names_Name.j0] at H
   by_cases c8 : x16_1 = true
   ·subst c8
    have H1 : (some false) = some r := by rw [if_pos rfl] at H; exact H
    clear H
    have H := H1
    clear H1
    obtain rfl := Option.some.inj H
    go_wp2
    go_ret
    exact ⟨by first | rfl | (simp; done) | (simp [*]; done) | (exfalso; simp only [beq_iff_eq] at *; omega), by repeat (first | exact Drawn0.refl _ | apply Drawn0.step)⟩
   ·replace c8 := Bool.eq_false_iff.mpr c8
    subst c8
    have H1 : (names_Name.l0 kj1 a0 (a0.size : Int) 0) = some r := by rw [if_neg (show ¬ (false = true) by decide)] at H; exact H
    clear H
    have H := H1
    clear H1
    have H' := Aside0.mk H
    clear H
    go_wp2
    go_loopg [19] kj1 (fun kq v19 w' => ∃ (x19_2 : Int), v19 = .int .i64 x19_2 ∧ Aside0 (names_Name.l0 kq a0 (a0.size : Int) x19_2 = some r) ∧ Aside0 (kq ≤ kj1) ∧ Drawn0 w w')
    case atStart => exact ⟨(0), (by first | rfl | (simp; done) | (simp [*]; done)), H', ⟨Nat.le_refl _⟩, by repeat (first | exact Drawn0.refl _ | apply Drawn0.step)⟩
    case round =>
     clear H'
     try clear c1
     try clear p2
     try clear c3
     try clear c3b0
     try clear c3b1
     try clear c4
     try clear c4b0
     try clear c4b1
     try clear c5
     try clear c5b0
     try clear c5b1
     try clear p6
     try clear q6
     try clear hx6
     try clear qi6
     try clear c8
     try clear p2
     try clear p6
     try clear q6
     obtain ⟨x19_2, rfl, HA, HK2, ⟨m2, rfl⟩⟩ := hrel
     cases gk with
     | zero => exact absurd HA.out (by simp [names_Name.l0])
     | succ k2 =>
      have H := HA.out
      clear HA
      simp only [names_Name.l0] at H
      by_cases c9 : x19_2 < (a0.size : Int)
      ·rw [if_pos c9] at H
       have c9b0 : decide (x19_2 < (a0.size : Int)) = true := decide_eq_true c9
       clear c9
       by_cases c10 : 0 ≤ x19_2
       ·rw [if_pos c10] at H
        have c10b0 : decide (0 ≤ x19_2) = true := decide_eq_true c10
        clear c10
        by_cases c11 : x19_2 < (a0.size : Int)
        ·rw [if_pos c11] at H
         have c11b0 : decide (x19_2 < (a0.size : Int)) = true := decide_eq_true c11
         clear c11
         replace H := Option.bind_eq_some_iff.mp H
         obtain ⟨t102, A130, H⟩ := H
         replace H : (if t102 = true then (names_Name.l0 k2 a0 (a0.size : Int) (wrap64 (x19_2 + 1))) else (if (bt a0 x19_2) = 45 then (names_Name.l0 k2 a0 (a0.size : Int) (wrap64 (x19_2 + 1))) else (if (bt a0 x19_2) < 48 then (some false) else (if (bt a0 x19_2) > 57 then (some false) else (names_Name.l0 k2 a0 (a0.size : Int) (wrap64 (x19_2 + 1))))))) = some r := H
         have A13 := Aside0.mk A130
         clear A130
         by_cases c14 : t102 = true
         ·subst c14
          have H1 : (names_Name.l0 k2 a0 (a0.size : Int) (wrap64 (x19_2 + 1))) = some r := by rw [if_pos rfl] at H; exact H
          clear H
          have H := H1
          clear H1
          have H' := Aside0.mk H
          clear H
          have p12 : 0 ≤ (x19_2 : Int) := of_decide_eq_true (by first | (with_reducible assumption) | assumption)
          have q12 : x19_2 < (a0.size : Int) := of_decide_eq_true (by first | (with_reducible assumption) | assumption)
          have hx12 := bt_at a0 x19_2
          replace p12 := eq_true p12
          replace q12 := eq_true q12
          go_wp2_with (first | ((with_reducible refine gate_callee (f := 140) rfl ?_); refine goesL_ (some 25) rfl rfl Tryd.func140 (by kernel_rfl) rfl #[.int .u8 (bt a0 x19_2)] rfl (by (try simp only [List.map_toArray, List.map_cons, List.map_nil]); first | done | rfl | (simp only [List.length_drop, List.length_take]; rfl)) ?_; (with_reducible refine (names_letter.calls (bt a0 x19_2) true _ A13.out).mono ?_); rintro e w' ⟨rfl, ⟨nd, rfl⟩⟩; refine ⟨_, rfl, ?_⟩))
          go_roundg k2
          case measure => have := HJ1.out; have := HK2.out; omega
          case rel => exact ⟨(wrap64 (x19_2 + 1)), (by first | rfl | (simp; done) | (simp [*]; done)), H', ⟨by have := HJ1.out; have := HK2.out; omega⟩, by repeat (first | exact Drawn0.refl _ | apply Drawn0.step)⟩
         ·replace c14 := Bool.eq_false_iff.mpr c14
          subst c14
          have H1 : (if (bt a0 x19_2) = 45 then (names_Name.l0 k2 a0 (a0.size : Int) (wrap64 (x19_2 + 1))) else (if (bt a0 x19_2) < 48 then (some false) else (if (bt a0 x19_2) > 57 then (some false) else (names_Name.l0 k2 a0 (a0.size : Int) (wrap64 (x19_2 + 1)))))) = some r := by rw [if_neg (show ¬ (false = true) by decide)] at H; exact H
          clear H
          have H := H1
          clear H1
          by_cases c16 : (bt a0 x19_2) = 45
          ·rw [if_pos c16] at H
           have c16b0 : ((bt a0 x19_2) == 45) = true := beq_iff_eq.mpr c16
           have c16b1 : ((bt a0 x19_2) != 45) = false := bne_eq_false_iff_eq.mpr c16
           clear c16
           have H' := Aside0.mk H
           clear H
           have p12 : 0 ≤ (x19_2 : Int) := of_decide_eq_true (by first | (with_reducible assumption) | assumption)
           have q12 : x19_2 < (a0.size : Int) := of_decide_eq_true (by first | (with_reducible assumption) | assumption)
           have hx12 := bt_at a0 x19_2
           replace p12 := eq_true p12
           replace q12 := eq_true q12
           go_wp2_with (first | ((with_reducible refine gate_callee (f := 140) rfl ?_); refine goesL_ (some 25) rfl rfl Tryd.func140 (by kernel_rfl) rfl #[.int .u8 (bt a0 x19_2)] rfl (by (try simp only [List.map_toArray, List.map_cons, List.map_nil]); first | done | rfl | (simp only [List.length_drop, List.length_take]; rfl)) ?_; (with_reducible refine (names_letter.calls (bt a0 x19_2) false _ A13.out).mono ?_); rintro e w' ⟨rfl, ⟨nd, rfl⟩⟩; refine ⟨_, rfl, ?_⟩; have p15 : 0 ≤ (x19_2 : Int) := of_decide_eq_true (by first | (with_reducible assumption) | assumption); have q15 : x19_2 < (a0.size : Int) := of_decide_eq_true (by first | (with_reducible assumption) | assumption); have hx15 := bt_at a0 x19_2; replace p15 := eq_true p15; replace q15 := eq_true q15))
           go_roundg k2
           case measure => have := HJ1.out; have := HK2.out; omega
           case rel => exact ⟨(wrap64 (x19_2 + 1)), (by first | rfl | (simp; done) | (simp [*]; done)), H', ⟨by have := HJ1.out; have := HK2.out; omega⟩, by repeat (first | exact Drawn0.refl _ | apply Drawn0.step)⟩
          ·rw [if_neg c16] at H
           have c16b0 : ((bt a0 x19_2) == 45) = false := beq_eq_false_iff_ne.mpr c16
           have c16b1 : ((bt a0 x19_2) != 45) = true := bne_iff_ne.mpr c16
           by_cases c18 : (bt a0 x19_2) < 48
           ·rw [if_pos c18] at H
            have c18b0 : decide ((bt a0 x19_2) < 48) = true := decide_eq_true c18
            clear c18
            obtain rfl := Option.some.inj H
            have p12 : 0 ≤ (x19_2 : Int) := of_decide_eq_true (by first | (with_reducible assumption) | assumption)
            have q12 : x19_2 < (a0.size : Int) := of_decide_eq_true (by first | (with_reducible assumption) | assumption)
            have hx12 := bt_at a0 x19_2
            replace p12 := eq_true p12
            replace q12 := eq_true q12
            go_wp2_with (first | ((with_reducible refine gate_callee (f := 140) rfl ?_); refine goesL_ (some 25) rfl rfl Tryd.func140 (by kernel_rfl) rfl #[.int .u8 (bt a0 x19_2)] rfl (by (try simp only [List.map_toArray, List.map_cons, List.map_nil]); first | done | rfl | (simp only [List.length_drop, List.length_take]; rfl)) ?_; (with_reducible refine (names_letter.calls (bt a0 x19_2) false _ A13.out).mono ?_); rintro e w' ⟨rfl, ⟨nd, rfl⟩⟩; refine ⟨_, rfl, ?_⟩; have p15 : 0 ≤ (x19_2 : Int) := of_decide_eq_true (by first | (with_reducible assumption) | assumption); have q15 : x19_2 < (a0.size : Int) := of_decide_eq_true (by first | (with_reducible assumption) | assumption); have hx15 := bt_at a0 x19_2; replace p15 := eq_true p15; replace q15 := eq_true q15; have p17 : 0 ≤ (x19_2 : Int) := of_decide_eq_true (by first | (with_reducible assumption) | assumption); have q17 : x19_2 < (a0.size : Int) := of_decide_eq_true (by first | (with_reducible assumption) | assumption); have hx17 := bt_at a0 x19_2; replace p17 := eq_true p17; replace q17 := eq_true q17))
            go_ret
            exact ⟨by first | rfl | (simp; done) | (simp [*]; done) | (exfalso; simp only [beq_iff_eq] at *; omega), by repeat (first | exact Drawn0.refl _ | apply Drawn0.step)⟩
           ·rw [if_neg c18] at H
            have c18b0 : decide ((bt a0 x19_2) < 48) = false := decide_eq_false c18
            clear c18
            by_cases c20 : (bt a0 x19_2) > 57
            ·rw [if_pos c20] at H
             have c20b0 : decide (57 < (bt a0 x19_2)) = true := decide_eq_true c20
             clear c20
             obtain rfl := Option.some.inj H
             have p12 : 0 ≤ (x19_2 : Int) := of_decide_eq_true (by first | (with_reducible assumption) | assumption)
             have q12 : x19_2 < (a0.size : Int) := of_decide_eq_true (by first | (with_reducible assumption) | assumption)
             have hx12 := bt_at a0 x19_2
             replace p12 := eq_true p12
             replace q12 := eq_true q12
             go_wp2_with (first | ((with_reducible refine gate_callee (f := 140) rfl ?_); refine goesL_ (some 25) rfl rfl Tryd.func140 (by kernel_rfl) rfl #[.int .u8 (bt a0 x19_2)] rfl (by (try simp only [List.map_toArray, List.map_cons, List.map_nil]); first | done | rfl | (simp only [List.length_drop, List.length_take]; rfl)) ?_; (with_reducible refine (names_letter.calls (bt a0 x19_2) false _ A13.out).mono ?_); rintro e w' ⟨rfl, ⟨nd, rfl⟩⟩; refine ⟨_, rfl, ?_⟩; have p15 : 0 ≤ (x19_2 : Int) := of_decide_eq_true (by first | (with_reducible assumption) | assumption); have q15 : x19_2 < (a0.size : Int) := of_decide_eq_true (by first | (with_reducible assumption) | assumption); have hx15 := bt_at a0 x19_2; replace p15 := eq_true p15; replace q15 := eq_true q15; have p17 : 0 ≤ (x19_2 : Int) := of_decide_eq_true (by first | (with_reducible assumption) | assumption); have q17 : x19_2 < (a0.size : Int) := of_decide_eq_true (by first | (with_reducible assumption) | assumption); have hx17 := bt_at a0 x19_2; replace p17 := eq_true p17; replace q17 := eq_true q17; have p19 : 0 ≤ (x19_2 : Int) := of_decide_eq_true (by first | (with_reducible assumption) | assumption); have q19 : x19_2 < (a0.size : Int) := of_decide_eq_true (by first | (with_reducible assumption) | assumption); have hx19 := bt_at a0 x19_2; replace p19 := eq_true p19; replace q19 := eq_true q19))
             go_ret
             exact ⟨by first | rfl | (simp; done) | (simp [*]; done) | (exfalso; simp only [beq_iff_eq] at *; omega), by repeat (first | exact Drawn0.refl _ | apply Drawn0.step)⟩
            ·rw [if_neg c20] at H
             have c20b0 : decide (57 < (bt a0 x19_2)) = false := decide_eq_false c20
             clear c20
             have H' := Aside0.mk H
             clear H
             have p12 : 0 ≤ (x19_2 : Int) := of_decide_eq_true (by first | (with_reducible assumption) | assumption)
             have q12 : x19_2 < (a0.size : Int) := of_decide_eq_true (by first | (with_reducible assumption) | assumption)
             have hx12 := bt_at a0 x19_2
             replace p12 := eq_true p12
             replace q12 := eq_true q12
             go_wp2_with (first | ((with_reducible refine gate_callee (f := 140) rfl ?_); refine goesL_ (some 25) rfl rfl Tryd.func140 (by kernel_rfl) rfl #[.int .u8 (bt a0 x19_2)] rfl (by (try simp only [List.map_toArray, List.map_cons, List.map_nil]); first | done | rfl | (simp only [List.length_drop, List.length_take]; rfl)) ?_; (with_reducible refine (names_letter.calls (bt a0 x19_2) false _ A13.out).mono ?_); rintro e w' ⟨rfl, ⟨nd, rfl⟩⟩; refine ⟨_, rfl, ?_⟩; have p15 : 0 ≤ (x19_2 : Int) := of_decide_eq_true (by first | (with_reducible assumption) | assumption); have q15 : x19_2 < (a0.size : Int) := of_decide_eq_true (by first | (with_reducible assumption) | assumption); have hx15 := bt_at a0 x19_2; replace p15 := eq_true p15; replace q15 := eq_true q15; have p17 : 0 ≤ (x19_2 : Int) := of_decide_eq_true (by first | (with_reducible assumption) | assumption); have q17 : x19_2 < (a0.size : Int) := of_decide_eq_true (by first | (with_reducible assumption) | assumption); have hx17 := bt_at a0 x19_2; replace p17 := eq_true p17; replace q17 := eq_true q17; have p19 : 0 ≤ (x19_2 : Int) := of_decide_eq_true (by first | (with_reducible assumption) | assumption); have q19 : x19_2 < (a0.size : Int) := of_decide_eq_true (by first | (with_reducible assumption) | assumption); have hx19 := bt_at a0 x19_2; replace p19 := eq_true p19; replace q19 := eq_true q19))
             go_roundg k2
             case measure => have := HJ1.out; have := HK2.out; omega
             case rel => exact ⟨(wrap64 (x19_2 + 1)), (by first | rfl | (simp; done) | (simp [*]; done)), H', ⟨by have := HJ1.out; have := HK2.out; omega⟩, by repeat (first | exact Drawn0.refl _ | apply Drawn0.step)⟩
        ·rw [if_neg c11] at H
         exact absurd H (by simp)
       ·rw [if_neg c10] at H
        exact absurd H (by simp)
      ·rw [if_neg c9] at H
       have c9b0 : decide (x19_2 < (a0.size : Int)) = false := decide_eq_false c9
       clear c9
       obtain rfl := Option.some.inj H
       go_wp2
       go_ret
       exact ⟨by first | rfl | (simp; done) | (simp [*]; done) | (exfalso; simp only [beq_iff_eq] at *; omega), by repeat (first | exact Drawn0.refl _ | apply Drawn0.step)⟩
def names_Mark.f (a0 : ByteArray) : Option (Bool) := if a0.toList = ([] : List UInt8) then (some false) else (some (decide ((a0.size : Int) ≤ 64)))
set_option maxHeartbeats 8000000 in
set_option maxRecDepth 100000 in
theorem names_Mark.calls (a0 : ByteArray) (r : Bool) (w : World) (h : names_Mark.f a0 = some r) :
  Calls Tryd.prog 94 #[.string a0] w fun e w' => e = .returned (.bool r) ∧ Drawn0 w w' := by
 have H : (if a0.toList = ([] : List UInt8) then (some false) else (some (decide ((a0.size : Int) ≤ 64)))) = some r := h
 clear h
 by_cases c2 : a0.toList = ([] : List UInt8)
 ·rw [if_pos c2] at H
  have c2b0 : (a0.toList == ([] : List UInt8)) = true := beq_iff_eq.mpr c2
  have c2b1 : (a0.toList != ([] : List UInt8)) = false := bne_eq_false_iff_eq.mpr c2
  clear c2
  obtain rfl := Option.some.inj H
  go_enter Tryd.func94, Tryd.ntmps94
  go_wp2
  go_ret
  exact ⟨by first | rfl | (simp; done) | (simp [*]; done) | (exfalso; simp only [beq_iff_eq] at *; omega), by repeat (first | exact Drawn0.refl _ | apply Drawn0.step)⟩
 ·rw [if_neg c2] at H
  have c2b0 : (a0.toList == ([] : List UInt8)) = false := beq_eq_false_iff_ne.mpr c2
  have c2b1 : (a0.toList != ([] : List UInt8)) = true := bne_iff_ne.mpr c2
  obtain rfl := Option.some.inj H
  go_enter Tryd.func94, Tryd.ntmps94
  go_wp2
  go_ret
  exact ⟨by first | rfl | (simp; done) | (simp [*]; done) | (exfalso; simp only [beq_iff_eq] at *; omega), by repeat (first | exact Drawn0.refl _ | apply Drawn0.step)⟩
def names_plain.f (a0 : Int) : Option (Bool) := if a0 ≥ 32 then (some (decide (a0 < 127))) else (some false)
set_option maxHeartbeats 8000000 in
set_option maxRecDepth 100000 in
theorem names_plain.calls (a0 : Int) (r : Bool) (w : World) (h : names_plain.f a0 = some r) :
  Calls Tryd.prog 166 #[.int .u8 a0] w fun e w' => e = .returned (.bool r) ∧ Drawn0 w w' := by
 have H : (if a0 ≥ 32 then (some (decide (a0 < 127))) else (some false)) = some r := h
 clear h
 by_cases c2 : a0 ≥ 32
 ·rw [if_pos c2] at H
  have c2b0 : decide (32 ≤ a0) = true := decide_eq_true c2
  clear c2
  obtain rfl := Option.some.inj H
  go_enter Tryd.func166, Tryd.ntmps166
  go_wp2
  go_ret
  exact ⟨by first | rfl | (simp; done) | (simp [*]; done) | (exfalso; simp only [beq_iff_eq] at *; omega), by repeat (first | exact Drawn0.refl _ | apply Drawn0.step)⟩
 ·rw [if_neg c2] at H
  have c2b0 : decide (32 ≤ a0) = false := decide_eq_false c2
  clear c2
  obtain rfl := Option.some.inj H
  go_enter Tryd.func166, Tryd.ntmps166
  go_wp2
  go_ret
  exact ⟨by first | rfl | (simp; done) | (simp [*]; done) | (exfalso; simp only [beq_iff_eq] at *; omega), by repeat (first | exact Drawn0.refl _ | apply Drawn0.step)⟩
def names_Fresh.l0 : Nat → List ByteArray → ByteArray → Int → Option (ByteArray)
 | 0, _, _, _ => none
 | k + 1, x0, x1, x5 => (strconv_Itoa.f x5).bind fun t101 => (if x1.size + t101.size ≤ 9223372036854775807 then ((slices_Contains_string_string.f k x0 (x1 ++ t101)).bind fun t102 => (if t102 = true then (names_Fresh.l0 k x0 x1 (wrap64 (x5 + 1))) else (some (x1 ++ t101)))) else (none))
def names_Fresh.f (k : Nat) (l0 : List ByteArray) (a1 : ByteArray) : Option (ByteArray) := if 0 ≤ (mn (a1.size : Int) 32) then (if (mn (a1.size : Int) 32) ≤ (a1.size : Int) then (if (a1.extract 0 ((mn (a1.size : Int) 32) : Int).toNat).size + 1 ≤ 9223372036854775807 then (names_Fresh.l0 k l0 ((a1.extract 0 ((mn (a1.size : Int) 32) : Int).toNat) ++ (⟨#[45]⟩ : ByteArray)) 1) else (none)) else (none)) else (none)
set_option maxHeartbeats 8000000 in
set_option maxRecDepth 100000 in
theorem names_Fresh.calls (k : Nat) (A0 : Option Addr) (c0 : Nat) (l0 : List ByteArray) (a1 : ByteArray) (r : ByteArray) (w : World) (hG : Laid w) (hr0 : Kd.C Kd.string w A0 l0.length l0) (hc0 : l0.length ≤ c0) (h : names_Fresh.f k l0 a1 = some r) :
  Calls Tryd.prog 111 #[.slice A0 l0.length c0, .string a1] w fun e w' => e = .returned (.string r) ∧ Below w.heap.size w w' := by
 have HG := Aside0.mk hG
 clear hG
 have HR0 := Aside0.mk hr0
 have HC0 := Aside0.mk hc0
 clear hr0 hc0
 have HB := Aside0.mk (Below.refl w.heap.size w)
 have H : (if 0 ≤ (mn (a1.size : Int) 32) then (if (mn (a1.size : Int) 32) ≤ (a1.size : Int) then (if (a1.extract 0 ((mn (a1.size : Int) 32) : Int).toNat).size + 1 ≤ 9223372036854775807 then (names_Fresh.l0 k l0 ((a1.extract 0 ((mn (a1.size : Int) 32) : Int).toNat) ++ (⟨#[45]⟩ : ByteArray)) 1) else (none)) else (none)) else (none)) = some r := h
 clear h
 obtain ⟨ji3, hji3⟩ : ∃ j_ : Int, (mn (a1.size : Int) 32) = j_ := ⟨_, rfl⟩
 replace H : (if 0 ≤ (ji3) then (if (ji3) ≤ (a1.size : Int) then (if (a1.extract 0 ((ji3) : Int).toNat).size + 1 ≤ 9223372036854775807 then (names_Fresh.l0 k l0 ((a1.extract 0 ((ji3) : Int).toNat) ++ (⟨#[45]⟩ : ByteArray)) 1) else (none)) else (none)) else (none)) = some r := by first | (rw [hji3] at H; exact H) | (simp only [hji3] at H ⊢; exact H)
 (try (have hji3h : ji3 ≤ 32 := by (rw [← hji3]; unfold mn; (repeat' split) <;> omega)))
 (try (have hji3g : ji3 ≤ 64 := by omega))
 (try (have hji3l : 0 ≤ ji3 := by (rw [← hji3]; unfold mn; (repeat' split) <;> omega)))
 (try (have hji3m : 0 ≤ ji3 := by omega))
 have hji3_ : (if 32 < (a1.size : Int) then 32 else (a1.size : Int)) = ji3 := hji3
 by_cases c4 : 0 ≤ (ji3)
 ·rw [if_pos c4] at H
  have c4b0 := eq_true c4
  have c4b1 : decide (0 ≤ (ji3)) = true := decide_eq_true c4
  clear c4
  by_cases c5 : (ji3) ≤ (a1.size : Int)
  ·rw [if_pos c5] at H
   have c5b0 := eq_true c5
   have c5b1 : decide ((ji3) ≤ (a1.size : Int)) = true := decide_eq_true c5
   clear c5
   by_cases c6 : (a1.extract 0 ((ji3) : Int).toNat).size + 1 ≤ 9223372036854775807
   ·rw [if_pos c6] at H
    have c6b0 := eq_true c6
    have c6b1 : decide ((a1.extract 0 ((ji3) : Int).toNat).size + 1 ≤ 9223372036854775807) = true := decide_eq_true c6
    try have c6b2 : (9223372036854775807 < (a1.extract 0 ((ji3) : Int).toNat).size + 1) = False := eq_false (Nat.not_lt.2 c6)
    try (have c6b3 := c6b2; simp only [ByteArray.size_append, ByteArray.size_extract, Nat.sub_zero] at c6b3)
    have H' := Aside0.mk H
    clear H
    go_enter Tryd.func111, Tryd.ntmps111
    go_wp2
    go_loopg [5] k (fun kq v5 w' => ∃ (x5_1 : Int), v5 = .int .i64 x5_1 ∧ Aside0 (names_Fresh.l0 kq l0 ((a1.extract 0 ((ji3) : Int).toNat) ++ (⟨#[45]⟩ : ByteArray)) x5_1 = some r) ∧ Aside0 (kq ≤ k) ∧ Aside0 (Below w.heap.size w w'))
    case atStart => exact ⟨(1), (by first | rfl | (simp; done) | (simp [*]; done)), H', ⟨Nat.le_refl _⟩, ⟨by repeat (first | (with_reducible first | exact HB.out | apply below_alloc | apply pw_below_drewN | apply below_drew1) | exact HB.out)⟩⟩
    case round =>
     clear H'
     try clear c1
     try clear p2
     try clear c4
     try clear c4b0
     try clear c4b1
     try clear c5
     try clear c5b0
     try clear c5b1
     try clear c6
     try clear c6b0
     try clear c6b1
     try clear c6b2
     obtain ⟨x5_1, rfl, HA, HK1, HB⟩ := hrel
     cases gk with
     | zero => exact absurd HA.out (by simp [names_Fresh.l0])
     | succ k1 =>
      have H := HA.out
      clear HA
      simp only [names_Fresh.l0] at H
      replace H := Option.bind_eq_some_iff.mp H
      obtain ⟨t101, A70, H⟩ := H
      replace H : (if ((a1.extract 0 ((ji3) : Int).toNat) ++ (⟨#[45]⟩ : ByteArray)).size + t101.size ≤ 9223372036854775807 then ((slices_Contains_string_string.f k1 l0 (((a1.extract 0 ((ji3) : Int).toNat) ++ (⟨#[45]⟩ : ByteArray)) ++ t101)).bind fun t102 => (if t102 = true then (names_Fresh.l0 k1 l0 ((a1.extract 0 ((ji3) : Int).toNat) ++ (⟨#[45]⟩ : ByteArray)) (wrap64 (x5_1 + 1))) else (some (((a1.extract 0 ((ji3) : Int).toNat) ++ (⟨#[45]⟩ : ByteArray)) ++ t101)))) else (none)) = some r := H
      have A7 := Aside0.mk A70
      clear A70
      by_cases c8 : ((a1.extract 0 ((ji3) : Int).toNat) ++ (⟨#[45]⟩ : ByteArray)).size + t101.size ≤ 9223372036854775807
      ·rw [if_pos c8] at H
       have c8b0 := eq_true c8
       have c8b1 : decide (((a1.extract 0 ((ji3) : Int).toNat) ++ (⟨#[45]⟩ : ByteArray)).size + t101.size ≤ 9223372036854775807) = true := decide_eq_true c8
       try have c8b2 : (9223372036854775807 < ((a1.extract 0 ((ji3) : Int).toNat) ++ (⟨#[45]⟩ : ByteArray)).size + t101.size) = False := eq_false (Nat.not_lt.2 c8)
       try (have c8b3 := c8b2; simp only [ByteArray.size_append, ByteArray.size_extract, Nat.sub_zero, show (⟨#[45]⟩ : ByteArray).size = 1 from rfl] at c8b3)
       replace H := Option.bind_eq_some_iff.mp H
       obtain ⟨t102, A90, H⟩ := H
       replace H : (if t102 = true then (names_Fresh.l0 k1 l0 ((a1.extract 0 ((ji3) : Int).toNat) ++ (⟨#[45]⟩ : ByteArray)) (wrap64 (x5_1 + 1))) else (some (((a1.extract 0 ((ji3) : Int).toNat) ++ (⟨#[45]⟩ : ByteArray)) ++ t101))) = some r := H
       have A9 := Aside0.mk A90
       clear A90
       by_cases c10 : t102 = true
       ·subst c10
        have H1 : (names_Fresh.l0 k1 l0 ((a1.extract 0 ((ji3) : Int).toNat) ++ (⟨#[45]⟩ : ByteArray)) (wrap64 (x5_1 + 1))) = some r := by rw [if_pos rfl] at H; exact H
        clear H
        have H := H1
        clear H1
        have H' := Aside0.mk H
        clear H
        go_wp2_with (first | ((with_reducible refine gate_callee (f := 139) rfl ?_); refine goesL_ (some 17) rfl rfl Tryd.func139 (by kernel_rfl) rfl #[.int .i64 x5_1] rfl (by (try simp only [List.map_toArray, List.map_cons, List.map_nil]); first | done | rfl | (simp only [List.length_drop, List.length_take]; rfl)) ?_; (with_reducible refine (strconv_Itoa.calls x5_1 t101 _ ?side1 A7.out).mono ?_); (case side1 => exact Laid.below HG.out (by repeat (first | (with_reducible first | exact HB.out | apply below_alloc | apply pw_below_drewN | apply below_drew1) | exact HB.out))); rintro e w11 ⟨rfl, hb⟩; refine ⟨_, rfl, ?_⟩; have n0_ := Aside0.mk (below_step (by repeat (first | (with_reducible first | exact HB.out | apply below_alloc | apply pw_below_drewN | apply below_drew1) | exact HB.out)) hb); clear HB; have HB := n0_; clear n0_; (try clear hb); (try clear hb2); (try clear hk); (try clear hi)) | ((with_reducible refine gate_callee (f := 147) rfl ?_); refine goesL_ (some 21) rfl rfl Tryd.func147 (by kernel_rfl) rfl #[.slice A0 l0.length c0, .string (((a1.extract 0 ((ji3) : Int).toNat) ++ (⟨#[45]⟩ : ByteArray)) ++ t101)] rfl (by (try simp only [List.map_toArray, List.map_cons, List.map_nil]); first | done | (simp only [hji3]; rfl) | rfl | (simp only [List.length_drop, List.length_take]; rfl)) ?_; (with_reducible refine (slices_Contains_string_string.calls k1 _ _ l0 (((a1.extract 0 ((ji3) : Int).toNat) ++ (⟨#[45]⟩ : ByteArray)) ++ t101) true _ ?side1 ?side2 A9.out).mono ?_); (case side1 => repeat (first | exact (Kd.C_below HR0.out HB.out) | (with_reducible refine Kd.C_alloc ?_ _) | (with_reducible refine Kd.C_drewN ?_ _) | (with_reducible refine Kd.C_drew ?_))); (case side2 => exact HC0.out); rintro e w' ⟨rfl, ⟨nd, rfl⟩⟩; refine ⟨_, rfl, ?_⟩))
        go_roundg k1
        case measure => have := HK1.out; omega
        case rel => exact ⟨(wrap64 (x5_1 + 1)), (by first | rfl | (simp; done) | (simp [*]; done)), H', ⟨by have := HK1.out; omega⟩, ⟨by repeat (first | (with_reducible first | exact HB.out | apply below_alloc | apply pw_below_drewN | apply below_drew1) | exact HB.out)⟩⟩
       ·replace c10 := Bool.eq_false_iff.mpr c10
        subst c10
        have H1 : (some (((a1.extract 0 ((ji3) : Int).toNat) ++ (⟨#[45]⟩ : ByteArray)) ++ t101)) = some r := by rw [if_neg (show ¬ (false = true) by decide)] at H; exact H
        clear H
        have H := H1
        clear H1
        obtain rfl := Option.some.inj H
        go_wp2_with (first | ((with_reducible refine gate_callee (f := 139) rfl ?_); refine goesL_ (some 17) rfl rfl Tryd.func139 (by kernel_rfl) rfl #[.int .i64 x5_1] rfl (by (try simp only [List.map_toArray, List.map_cons, List.map_nil]); first | done | rfl | (simp only [List.length_drop, List.length_take]; rfl)) ?_; (with_reducible refine (strconv_Itoa.calls x5_1 t101 _ ?side1 A7.out).mono ?_); (case side1 => exact Laid.below HG.out (by repeat (first | (with_reducible first | exact HB.out | apply below_alloc | apply pw_below_drewN | apply below_drew1) | exact HB.out))); rintro e w12 ⟨rfl, hb⟩; refine ⟨_, rfl, ?_⟩; have n0_ := Aside0.mk (below_step (by repeat (first | (with_reducible first | exact HB.out | apply below_alloc | apply pw_below_drewN | apply below_drew1) | exact HB.out)) hb); clear HB; have HB := n0_; clear n0_; (try clear hb); (try clear hb2); (try clear hk); (try clear hi)) | ((with_reducible refine gate_callee (f := 147) rfl ?_); refine goesL_ (some 21) rfl rfl Tryd.func147 (by kernel_rfl) rfl #[.slice A0 l0.length c0, .string (((a1.extract 0 ((ji3) : Int).toNat) ++ (⟨#[45]⟩ : ByteArray)) ++ t101)] rfl (by (try simp only [List.map_toArray, List.map_cons, List.map_nil]); first | done | (simp only [hji3]; rfl) | rfl | (simp only [List.length_drop, List.length_take]; rfl)) ?_; (with_reducible refine (slices_Contains_string_string.calls k1 _ _ l0 (((a1.extract 0 ((ji3) : Int).toNat) ++ (⟨#[45]⟩ : ByteArray)) ++ t101) false _ ?side1 ?side2 A9.out).mono ?_); (case side1 => repeat (first | exact (Kd.C_below HR0.out HB.out) | (with_reducible refine Kd.C_alloc ?_ _) | (with_reducible refine Kd.C_drewN ?_ _) | (with_reducible refine Kd.C_drew ?_))); (case side2 => exact HC0.out); rintro e w' ⟨rfl, ⟨nd, rfl⟩⟩; refine ⟨_, rfl, ?_⟩))
        go_ret
        exact ⟨by first | rfl | (simp [errW_none, errW_some] <;> rfl) | (simp only [← hji3]; first | rfl | (simp [errW_none, errW_some] <;> rfl)) | (simp [*, errW_none, errW_some] <;> rfl), by repeat (first | (with_reducible first | exact HB.out | apply below_alloc | apply pw_below_drewN | apply below_drew1) | exact HB.out)⟩
      ·rw [if_neg c8] at H
       exact absurd H (by simp)
   ·rw [if_neg c6] at H
    exact absurd H (by simp)
  ·rw [if_neg c5] at H
   exact absurd H (by simp)
 ·rw [if_neg c4] at H
  exact absurd H (by simp)
end Go.Proofs.YtmdjmbdeeodehaaDoor.G
end
section
namespace Go.Proofs.YtmdjmbdeeodehaaDoor.G
open Go.RowKit Go.Proofs.YtmdjmbdeeodehaaDoorW.PrintWords Go.Proofs.YtmdjmbdeeodehaaDoorW.PrintLast Go.Proofs.YtmdjmbdeeodehaaDoorW.PrintMore
attribute [local go_sem] max2_int min2_int max_two min_two max_three min_three max_four min_four
attribute [local go_sem] Go.Proofs.YtmdjmbdeeodehaaDoorOwn.isSome_setCell
set_option linter.unusedVariables false
set_option linter.unusedSimpArgs false
def hexd (n : Nat) : UInt8 := UInt8.ofNat (if n < 10 then 48 + n else 87 + n)
def escB (b : UInt8) : List UInt8 := if b.toNat = 10 then [92, 110] else if b.toNat = 9 then [92, 116] else if b.toNat < 32 ∨ 126 < b.toNat then [92, 120, hexd (b.toNat / 16), hexd (b.toNat % 16)] else if b.toNat = 34 ∨ b.toNat = 92 then [92, b] else [b]
def quoteL (l : List UInt8) : List UInt8 := 34 :: (l.flatMap escB ++ [34])
def names_Quote.f (a0 : ByteArray) : Option ByteArray := if a0.size ≤ 17592186044416 then some ⟨(quoteL a0.data.toList).toArray⟩ else none
theorem escB_le (b : UInt8) : (escB b).length ≤ 4 := by unfold escB; split <;> (try split) <;> (try split) <;> (try split) <;> simp
theorem escL_le (l : List UInt8) : (l.flatMap escB).length ≤ 4 * l.length := by
 induction l with
 | nil => simp
 | cons b l ih => have := escB_le b; simp only [List.flatMap_cons, List.length_append, List.length_cons]; omega
theorem take_snocB (s : ByteArray) (k : Nat) (h : k < s.size) : s.data.toList.take (k + 1) = s.data.toList.take k ++ [s[k]] := by
 rw [List.take_succ_eq_append_getElem (by simpa using h)]; rfl
def quoteP (s : ByteArray) (k : Nat) : List UInt8 := 34 :: (s.data.toList.take k).flatMap escB
theorem quoteP_le (s : ByteArray) (k : Nat) (h : k ≤ s.size) : (quoteP s k).length ≤ 4 * k + 1 := by
 unfold quoteP
 have := escL_le (s.data.toList.take k)
 have h2 : (s.data.toList.take k).length ≤ k := List.length_take_le ..
 simp only [List.length_cons]; omega
theorem quoteP_succ (s : ByteArray) (k : Nat) (h : k < s.size) : quoteP s (k + 1) = quoteP s k ++ escB s[k] := by
 unfold quoteP; rw [take_snocB s k h]; simp
theorem digit_at : ∀ n : Fin 16, ((⟨#[48, 49, 50, 51, 52, 53, 54, 55, 56, 57, 97, 98, 99, 100, 101, 102]⟩ : ByteArray)[n.val]'n.isLt) = hexd n.val := by decide
theorem wb {l : List UInt8} {B : Nat} (c : UInt8) {W : World} (h : Hid (Lib.IsBuilderF 174 5 B B (Lib.byteCells l) W)) (hl : l.length ≤ 100000000000000) (hB : B ≤ W.heap.size) :
  Calls Tryd.prog 165 #[.pointer (some ⟨B, 0, none⟩), .int .u8 c.toNat] W fun e w' => e = .returned .nilIface ∧ (Hid (Lib.IsBuilderF 174 5 B B (Lib.byteCells (l ++ [c])) w') ∧ Below B W w') := by
 refine (Tryd.Builder_WriteByte_k B B (Lib.byteCells l) c.toNat W h.out (by rw [Lib.byteCells_length]; omega) hB).mono ?_
 rintro e w' ⟨rfl, h1, hb, _⟩
 refine ⟨rfl, Lib.hid ?_, hb⟩
 rw [Lib.byteCells_append]; exact Or.inr h1
theorem wbn {l : List UInt8} {B : Nat} (c : Int) (n : Nat) (hc : c = n) (hn : n < 256) {W : World} (h : Hid (Lib.IsBuilderF 174 5 B B (Lib.byteCells l) W)) (hl : l.length ≤ 100000000000000) (hB : B ≤ W.heap.size) :
  Calls Tryd.prog 165 #[.pointer (some ⟨B, 0, none⟩), .int .u8 c] W fun e w' => e = .returned .nilIface ∧ (Hid (Lib.IsBuilderF 174 5 B B (Lib.byteCells (l ++ [UInt8.ofNat n])) w') ∧ Below B W w') := by
 subst hc
 have := wb (UInt8.ofNat n) h hl hB
 rwa [show (UInt8.ofNat n).toNat = n from by simp; omega] at this
theorem ws {l : List UInt8} {B : Nat} (t : List UInt8) {W : World} (h : Hid (Lib.IsBuilderF 174 5 B B (Lib.byteCells l) W)) (hl : l.length + t.length ≤ 100000000000000) (hB : B ≤ W.heap.size) :
  Calls Tryd.prog 116 #[.pointer (some ⟨B, 0, none⟩), .string ⟨t.toArray⟩] W fun e w' => e = .returned (.tuple #[.int .i64 t.length, .nilIface]) ∧ (Hid (Lib.IsBuilderF 174 5 B B (Lib.byteCells (l ++ t)) w') ∧ Below B W w') := by
 refine (Tryd.Builder_WriteString_k B B (Lib.byteCells l) ⟨t.toArray⟩ W h.out (by rw [Lib.byteCells_length]; show l.length + t.length ≤ _; omega) hB).mono ?_
 rintro e w' ⟨rfl, h1, hb, _⟩
 refine ⟨rfl, Lib.hid ?_, hb⟩
 rw [Lib.byteCells_append]; exact Or.inr h1
theorem bs_ {l : List UInt8} {B : Nat} {W : World} (h : Hid (Lib.IsBuilderF 174 5 B B (Lib.byteCells l) W)) (hB : B ≤ W.heap.size) :
  Calls Tryd.prog 118 #[.pointer (some ⟨B, 0, none⟩)] W fun e w' => e = .returned (.string ⟨l.toArray⟩) ∧ Below B W w' := by
 refine (Tryd.Builder_String_any_k B B l W h.out hB).mono ?_
 rintro e w' ⟨rfl, _, hb, _⟩
 exact ⟨rfl, hb⟩
theorem below_drewN_ {B : Nat} (W : World) (n : Nat) : Below B W (W.drewN n) := pw_below_drewN (Below.refl _ _) n
theorem bnew (W : World) : Hid (Lib.IsBuilderF 174 5 W.heap.size W.heap.size (Lib.byteCells []) (W.alloc (.cells #[.pointer none, .slice none 0 0] 174))) := Lib.hid (Lib.IsBuilderF.of (Lib.fresh_isBuilder 174 5 W))
set_option maxHeartbeats 4000000 in
set_option maxRecDepth 100000 in
theorem names_Quote.calls (a0 : ByteArray) (r : ByteArray) (w : World) (h : names_Quote.f a0 = some r) :
  Calls Tryd.prog 150 #[.string a0] w fun e w' => e = .returned (.string r) ∧ Below w.heap.size w w' := by
 unfold names_Quote.f at h
 split at h
 ·rename_i hs
  obtain rfl := Option.some.inj h
  clear h
  go_enter Tryd.func150, Tryd.ntmps150
  go_wp2_with (go_at_call 165; (with_reducible refine (wbn _ 34 (by omega) (by omega) (bnew w) (by simp) (by simp)).mono ?_); rintro e w1 ⟨rfl, h1, hb1⟩)
  have hb0 : Below w.heap.size w w1 := ((Below.refl _ w).alloc (Nat.le_refl _) _).trans hb1
  clear hb1
  go_loopw [9] (fun v wr => ∃ k : Nat, k ≤ a0.size ∧ v = .int .i64 k ∧ Hid (Lib.IsBuilderF 174 5 w.heap.size w.heap.size (Lib.byteCells (quoteP a0 k)) wr) ∧ Below w.heap.size w wr) (fun v _ => a0.size - (intOf v).toNat)
  case atStart => exact ⟨0, Nat.zero_le _, rfl, h1, hb0⟩
  case round =>
   obtain ⟨k, hk, rfl, hI, hB⟩ := hrel
   have hl := quoteP_le a0 k hk
   by_cases hlt : k < a0.size
   ·obtain ⟨n, hn⟩ : ∃ n : Nat, (a0[k]).toNat = n := ⟨_, rfl⟩
    have hn2 : n < 256 := by rw [← hn]; exact UInt8.toNat_lt _
    have hc0 : a0[k] = UInt8.ofNat n := by rw [← hn]; simp
    have HS : Hid (quoteP a0 (k + 1) = quoteP a0 k ++ escB a0[k]) := Lib.hid (quoteP_succ a0 k hlt)
    have HC : Hid (a0[k] = UInt8.ofNat n) := Lib.hid hc0
    have HN : Hid (a0[k].toNat = n) := Lib.hid hn
    clear hc0
    have hBs := hB.size
    by_cases e10 : n = 10
    ·have HE : Hid (escB a0[k] = [92, 110]) := Lib.hid (by unfold escB; rw [hn, if_pos e10])
     have e1 : ((n : Int) == 10) = true := by simp [e10]
     clear e10
     go_wp2_with (go_at_call 116; refine (ws [92, 110] hI (by simp; omega) hBs).mono ?_; rintro e w3 ⟨rfl, h3, hb3⟩)
     go_roundw
     case rel => exact ⟨k + 1, by omega, by go_num, Lib.hid (by rw [HS.out, HE.out]; exact h3.out), hB.trans hb3⟩
     case measure => simp [intOf]; omega
    have e1 : ((n : Int) == 10) = false := by simp; omega
    by_cases e9 : n = 9
    ·have HE : Hid (escB a0[k] = [92, 116]) := Lib.hid (by unfold escB; rw [hn, if_neg e10, if_pos e9])
     have e2 : ((n : Int) == 9) = true := by simp [e9]
     clear e10 e9
     go_wp2_with (go_at_call 116; refine (ws [92, 116] hI (by simp; omega) hBs).mono ?_; rintro e w3 ⟨rfl, h3, hb3⟩)
     go_roundw
     case rel => exact ⟨k + 1, by omega, by go_num, Lib.hid (by rw [HS.out, HE.out]; exact h3.out), hB.trans hb3⟩
     case measure => simp [intOf]; omega
    have e2 : ((n : Int) == 9) = false := by simp; omega
    by_cases ep : n < 32 ∨ 126 < n
    ·have HE : Hid (escB a0[k] = [92, 120, hexd (n / 16), hexd (n % 16)]) := Lib.hid (by unfold escB; rw [hn, if_neg e10, if_neg e9, if_pos ep])
     have hpl : Hid (names_plain.f n = some false) := Lib.hid (by unfold names_plain.f; split <;> simp <;> omega)
     clear e10 e9 ep
     go_wp2_with (first | (go_at_call 166; (with_reducible refine (names_plain.calls n false _ hpl.out).mono ?_); rintro e w2 ⟨rfl, ⟨nd, rfl⟩⟩; have hI2 : Hid (Lib.IsBuilderF 174 5 w.heap.size w.heap.size (Lib.byteCells (quoteP a0 k)) (wr.drewN nd)) := hI; have hBs2 : w.heap.size ≤ (wr.drewN nd).heap.size := hBs) | (go_at_call 116; refine (ws [92, 120] hI2 (by simp; omega) hBs2).mono ?_; rintro e w3 ⟨rfl, h3, hb3⟩))
     have hB3 : wr.heap.size ≤ w3.heap.size := hb3.size
     go_wp2_with (go_at_call 165; refine (wb _ h3 (by simp only [List.length_append, List.length_cons, List.length_nil]; omega) (by omega)).mono ?_; rintro e w4 ⟨rfl, h4, hb4⟩)
     have hB4 := hb4.size
     go_wp2_with (go_at_call 165; refine (wb _ h4 (by simp only [List.length_append, List.length_cons, List.length_nil]; omega) (by omega)).mono ?_; rintro e w5 ⟨rfl, h5, hb5⟩)
     go_roundw
     case rel => exact ⟨k + 1, by omega, by go_num, Lib.hid (by
      have hx := h5.out
      rw [HS.out, HE.out]
      rw [show ({ data := #[48, 49, 50, 51, 52, 53, 54, 55, 56, 57, 97, 98, 99, 100, 101, 102] } : ByteArray)[n / 16]'(by show n / 16 < 16; omega) = hexd (n / 16) from digit_at ⟨n / 16, by omega⟩, show ({ data := #[48, 49, 50, 51, 52, 53, 54, 55, 56, 57, 97, 98, 99, 100, 101, 102] } : ByteArray)[n % 16]'(by show n % 16 < 16; omega) = hexd (n % 16) from digit_at ⟨n % 16, by omega⟩] at hx
      simpa using hx), hB.trans (((below_drewN_ wr nd).trans hb3).trans (hb4.trans hb5))⟩
     case measure => simp [intOf]; omega
    have hpl : Hid (names_plain.f n = some true) := Lib.hid (by unfold names_plain.f; split <;> simp <;> omega)
    by_cases eq : n = 34 ∨ n = 92
    ·have HE : Hid (escB a0[k] = [92, UInt8.ofNat n]) := Lib.hid (by unfold escB; rw [hn, if_neg e10, if_neg e9, if_neg ep, if_pos eq, HC.out])
     by_cases e34 : n = 34
     ·have e3 : ((n : Int) == 34) = true := by simp [e34]
      clear e34 eq
      clear e10 e9 ep
      go_wp2_with (first | (go_at_call 166; (with_reducible refine (names_plain.calls n true _ hpl.out).mono ?_); rintro e w2 ⟨rfl, ⟨nd, rfl⟩⟩; have hI2 : Hid (Lib.IsBuilderF 174 5 w.heap.size w.heap.size (Lib.byteCells (quoteP a0 k)) (wr.drewN nd)) := hI; have hBs2 : w.heap.size ≤ (wr.drewN nd).heap.size := hBs) | (go_at_call 165; (with_reducible refine (wbn _ 92 (by omega) (by omega) hI2 (by omega) hBs2).mono ?_); rintro e w3 ⟨rfl, h3, hb3⟩))
      have hB3 : wr.heap.size ≤ w3.heap.size := hb3.size
      go_wp2_with (go_at_call 165; refine (wbn _ n rfl hn2 h3 (by simp only [List.length_append, List.length_cons, List.length_nil]; omega) (by omega)).mono ?_; rintro e w4 ⟨rfl, h4, hb4⟩)
      go_roundw
      case rel => exact ⟨k + 1, by omega, by go_num, Lib.hid (by have hx := h4.out; rw [HS.out, HE.out]; simpa using hx), hB.trans (((below_drewN_ wr nd).trans hb3).trans hb4)⟩
      case measure => simp [intOf]; omega
     ·have e3 : ((n : Int) == 34) = false := by simp; omega
      have e4 : ((n : Int) == 92) = true := by simp; omega
      clear e34 eq
      clear e10 e9 ep
      go_wp2_with (first | (go_at_call 166; (with_reducible refine (names_plain.calls n true _ hpl.out).mono ?_); rintro e w2 ⟨rfl, ⟨nd, rfl⟩⟩; have hI2 : Hid (Lib.IsBuilderF 174 5 w.heap.size w.heap.size (Lib.byteCells (quoteP a0 k)) (wr.drewN nd)) := hI; have hBs2 : w.heap.size ≤ (wr.drewN nd).heap.size := hBs) | (go_at_call 165; (with_reducible refine (wbn _ 92 (by omega) (by omega) hI2 (by omega) hBs2).mono ?_); rintro e w3 ⟨rfl, h3, hb3⟩))
      have hB3 : wr.heap.size ≤ w3.heap.size := hb3.size
      go_wp2_with (go_at_call 165; refine (wbn _ n rfl hn2 h3 (by simp only [List.length_append, List.length_cons, List.length_nil]; omega) (by omega)).mono ?_; rintro e w4 ⟨rfl, h4, hb4⟩)
      go_roundw
      case rel => exact ⟨k + 1, by omega, by go_num, Lib.hid (by have hx := h4.out; rw [HS.out, HE.out]; simpa using hx), hB.trans (((below_drewN_ wr nd).trans hb3).trans hb4)⟩
      case measure => simp [intOf]; omega
    ·have HE : Hid (escB a0[k] = [UInt8.ofNat n]) := Lib.hid (by unfold escB; rw [hn, if_neg e10, if_neg e9, if_neg ep, if_neg eq, HC.out])
     have e3 : ((n : Int) == 34) = false := by simp; omega
     have e4 : ((n : Int) == 92) = false := by simp; omega
     clear e10 e9 ep eq
     go_wp2_with (first | (go_at_call 166; (with_reducible refine (names_plain.calls n true _ hpl.out).mono ?_); rintro e w2 ⟨rfl, ⟨nd, rfl⟩⟩; have hI2 : Hid (Lib.IsBuilderF 174 5 w.heap.size w.heap.size (Lib.byteCells (quoteP a0 k)) (wr.drewN nd)) := hI; have hBs2 : w.heap.size ≤ (wr.drewN nd).heap.size := hBs) | (go_at_call 165; (with_reducible refine (wbn _ n rfl hn2 hI2 (by omega) hBs2).mono ?_); rintro e w3 ⟨rfl, h3, hb3⟩))
     go_roundw
     case rel => exact ⟨k + 1, by omega, by go_num, Lib.hid (by have hx := h3.out; rw [HS.out, HE.out]; simpa using hx), hB.trans ((below_drewN_ wr nd).trans hb3)⟩
     case measure => simp [intOf]; omega
   ·obtain rfl : k = a0.size := by omega
    go_wp2_with (first | (go_at_call 165; (with_reducible refine (wbn _ 34 (by omega) (by omega) hI (by omega) hB.size).mono ?_); rintro e w2 ⟨rfl, h2, hb2⟩) | (go_at_call 118; refine (bs_ h2 (by have := hB.size; have := hb2.size; omega)).mono ?_; rintro e w3 ⟨rfl, hb3⟩))
    go_ret
    have hq : quoteL a0.data.toList = quoteP a0 a0.size ++ [34] := by unfold quoteL quoteP; rw [List.take_of_length_le (by simp)]; simp
    exact ⟨by rw [hq]; rfl, (hB.trans hb2).trans (hb3)⟩
 ·cases h
end Go.Proofs.YtmdjmbdeeodehaaDoor.G
end
section
namespace Go.Proofs.YtmdjmbdeeodehaaDoor.G
open Go.RowKit Go.Proofs.YtmdjmbdeeodehaaDoorW.PrintWords Go.Proofs.YtmdjmbdeeodehaaDoorW.PrintLast Go.Proofs.YtmdjmbdeeodehaaDoorW.PrintMore
attribute [local go_sem] max2_int min2_int max_two min_two max_three min_three max_four min_four
attribute [local go_sem] Go.Proofs.YtmdjmbdeeodehaaDoorOwn.isSome_setCell
set_option linter.unusedVariables false
set_option linter.unusedSimpArgs false
def gram_Sym_IsTerm.f (a0 : Int) : Option (Bool) := some (decide (a0 < 0))
set_option maxHeartbeats 8000000 in
set_option maxRecDepth 100000 in
theorem gram_Sym_IsTerm.calls (a0 : Int) (r : Bool) (w : World) (h : gram_Sym_IsTerm.f a0 = some r) :
  Calls Tryd.prog 78 #[.int .i64 a0] w fun e w' => e = .returned (.bool r) ∧ Drawn0 w w' := by
 have H : (some (decide (a0 < 0))) = some r := h
 clear h
 obtain rfl := Option.some.inj H
 go_enter Tryd.func78, Tryd.ntmps78
 go_wp2
 go_ret
 exact ⟨by first | rfl | (simp; done) | (simp [*]; done) | (exfalso; simp only [beq_iff_eq] at *; omega), by repeat (first | exact Drawn0.refl _ | apply Drawn0.step)⟩
def gram_Sym_Place.f (a0 : Int) : Option (Int) := (gram_Sym_IsTerm.f a0).bind fun t101 => (if t101 = true then (some (wrap64 ((-1) - a0))) else (some a0))
set_option maxHeartbeats 8000000 in
set_option maxRecDepth 100000 in
theorem gram_Sym_Place.calls (a0 : Int) (r : Int) (w : World) (h : gram_Sym_Place.f a0 = some r) :
  Calls Tryd.prog 79 #[.int .i64 a0] w fun e w' => e = .returned (.int .i64 r) ∧ Drawn0 w w' := by
 have H : ((gram_Sym_IsTerm.f a0).bind fun t101 => (if t101 = true then (some (wrap64 ((-1) - a0))) else (some a0))) = some r := h
 clear h
 replace H := Option.bind_eq_some_iff.mp H
 obtain ⟨t101, A20, H⟩ := H
 replace H : (if t101 = true then (some (wrap64 ((-1) - a0))) else (some a0)) = some r := H
 have A2 := Aside0.mk A20
 clear A20
 by_cases c3 : t101 = true
 ·subst c3
  have H1 : (some (wrap64 ((-1) - a0))) = some r := by rw [if_pos rfl] at H; exact H
  clear H
  have H := H1
  clear H1
  obtain rfl := Option.some.inj H
  go_enter Tryd.func79, Tryd.ntmps79
  go_wp2_with (first | ((with_reducible refine gate_callee (f := 78) rfl ?_); refine goesL_ (some 4) rfl rfl Tryd.func78 (by kernel_rfl) rfl #[.int .i64 a0] rfl (by (try simp only [List.map_toArray, List.map_cons, List.map_nil]); first | done | rfl | (simp only [List.length_drop, List.length_take]; rfl)) ?_; (with_reducible refine (gram_Sym_IsTerm.calls a0 true _ A2.out).mono ?_); rintro e w' ⟨rfl, ⟨nd, rfl⟩⟩; refine ⟨_, rfl, ?_⟩))
  go_ret
  exact ⟨by first | rfl | (simp; done) | (simp [*]; done) | (exfalso; simp only [beq_iff_eq] at *; omega), by repeat (first | exact Drawn0.refl _ | apply Drawn0.step)⟩
 ·replace c3 := Bool.eq_false_iff.mpr c3
  subst c3
  have H1 : (some a0) = some r := by rw [if_neg (show ¬ (false = true) by decide)] at H; exact H
  clear H
  have H := H1
  clear H1
  obtain rfl := Option.some.inj H
  go_enter Tryd.func79, Tryd.ntmps79
  go_wp2_with (first | ((with_reducible refine gate_callee (f := 78) rfl ?_); refine goesL_ (some 4) rfl rfl Tryd.func78 (by kernel_rfl) rfl #[.int .i64 a0] rfl (by (try simp only [List.map_toArray, List.map_cons, List.map_nil]); first | done | rfl | (simp only [List.length_drop, List.length_take]; rfl)) ?_; (with_reducible refine (gram_Sym_IsTerm.calls a0 false _ A2.out).mono ?_); rintro e w' ⟨rfl, ⟨nd, rfl⟩⟩; refine ⟨_, rfl, ?_⟩))
  go_ret
  exact ⟨by first | rfl | (simp; done) | (simp [*]; done) | (exfalso; simp only [beq_iff_eq] at *; omega), by repeat (first | exact Drawn0.refl _ | apply Drawn0.step)⟩
def gram_Grammar_has.f (l0_0 : List ByteArray) (l0_1 : List ByteArray) (a0_2 : Int) (l0_3 : List (S32)) (a1 : Int) : Option (Bool) := (gram_Sym_IsTerm.f a1).bind fun t102 => (if t102 = true then ((gram_Sym_Place.f a1).bind fun t103 => (some (decide (t103 < (l0_1.length : Int))))) else ((gram_Sym_Place.f a1).bind fun t104 => (some (decide (t104 < (l0_0.length : Int))))))
set_option maxHeartbeats 8000000 in
set_option maxRecDepth 100000 in
theorem gram_Grammar_has.calls (A0_0 : Option Addr) (c0_0 : Nat) (l0_0 : List ByteArray) (A0_1 : Option Addr) (c0_1 : Nat) (l0_1 : List ByteArray) (a0_2 : Int) (A0_3 : Option Addr) (c0_3 : Nat) (l0_3 : List (S32)) (a1 : Int) (r : Bool) (w : World) (hr0_0 : Kd.C Kd.string w A0_0 l0_0.length l0_0) (hc0_0 : l0_0.length ≤ c0_0) (hr0_1 : Kd.C Kd.string w A0_1 l0_1.length l0_1) (hc0_1 : l0_1.length ≤ c0_1) (hr0_3 : Kd.C k32 w A0_3 l0_3.length l0_3) (hc0_3 : l0_3.length ≤ c0_3) (h : gram_Grammar_has.f l0_0 l0_1 a0_2 l0_3 a1 = some r) :
  Calls Tryd.prog 143 #[.agg #[.slice A0_0 l0_0.length c0_0, .slice A0_1 l0_1.length c0_1, .int .i64 a0_2, .slice A0_3 l0_3.length c0_3], .int .i64 a1] w fun e w' => e = .returned (.bool r) ∧ Below w.heap.size w w' := by
 have hu25 := Tryd.underlying25
 have HR0_0 := Aside0.mk hr0_0
 have HC0_0 := Aside0.mk hc0_0
 clear hr0_0 hc0_0
 have HR0_1 := Aside0.mk hr0_1
 have HC0_1 := Aside0.mk hc0_1
 clear hr0_1 hc0_1
 have HR0_3 := Aside0.mk hr0_3
 have HC0_3 := Aside0.mk hc0_3
 clear hr0_3 hc0_3
 have HB := Aside0.mk (Below.refl w.heap.size w)
 have H : ((gram_Sym_IsTerm.f a1).bind fun t102 => (if t102 = true then ((gram_Sym_Place.f a1).bind fun t103 => (some (decide (t103 < (l0_1.length : Int))))) else ((gram_Sym_Place.f a1).bind fun t104 => (some (decide (t104 < (l0_0.length : Int))))))) = some r := h
 clear h
 replace H := Option.bind_eq_some_iff.mp H
 obtain ⟨t102, A30, H⟩ := H
 replace H : (if t102 = true then ((gram_Sym_Place.f a1).bind fun t103 => (some (decide (t103 < (l0_1.length : Int))))) else ((gram_Sym_Place.f a1).bind fun t104 => (some (decide (t104 < (l0_0.length : Int)))))) = some r := H
 have A3 := Aside0.mk A30
 clear A30
 by_cases c4 : t102 = true
 ·subst c4
  have H1 : ((gram_Sym_Place.f a1).bind fun t103 => (some (decide (t103 < (l0_1.length : Int))))) = some r := by rw [if_pos rfl] at H; exact H
  clear H
  have H := H1
  clear H1
  replace H := Option.bind_eq_some_iff.mp H
  obtain ⟨t103, A50, H⟩ := H
  replace H : (some (decide (t103 < (l0_1.length : Int)))) = some r := H
  have A5 := Aside0.mk A50
  clear A50
  obtain rfl := Option.some.inj H
  go_enter Tryd.func143, Tryd.ntmps143
  go_wp2_with (first | ((with_reducible refine gate_dst (N := 2) rfl ?_); refine box_event ?hg (N := 2) ?hd (cs := #[.slice A0_0 l0_0.length c0_0, .slice A0_1 l0_1.length c0_1, .int .i64 a0_2, .slice A0_3 l0_3.length c0_3]) (t := 25) ?hr ?_; (case hd => rfl); (case hg => rfl); (case hr => first | (go_simp; done) | (go_simp; rfl)); intro gb101 hg w6 hbox hb; have n0_ := Aside0.mk (below_step (by repeat (first | (with_reducible first | exact HB.out | apply below_alloc | apply pw_below_drewN | apply below_drew1) | exact HB.out)) hb); have n1_ := Aside0.mk (hbox); have n2_ := Aside0.mk ((by rw [hg]; exact (below_size (by repeat (first | (with_reducible first | exact HB.out | apply below_alloc | apply pw_below_drewN | apply below_drew1) | exact HB.out))) : w.heap.size ≤ gb101)); have n3_ := Aside0.mk ((by rw [hg]; exact (below_size (by repeat (first | (with_reducible first | exact HB.out | apply below_alloc | apply pw_below_drewN | apply below_drew1) | exact HB.out))) : w.heap.size ≤ gb101)); clear HB; have HB := n0_; have BK101 := n1_; have GW101 := n2_; have GE101 := n3_; clear n0_ n1_ n2_ n3_; clear hb hbox hg) | (go_at_call 78; (with_reducible refine (gram_Sym_IsTerm.calls a1 true _ A3.out).mono ?_); rintro e w' ⟨rfl, ⟨nd, rfl⟩⟩; (try first | exact ⟨rfl, _, World.drewN_drewN _ _ _⟩ | exact ⟨rfl, _, Eq.trans (World.drewN_drewN _ _ _) (congrArg (World.drewN _) (Nat.add_assoc _ _ _))⟩)) | (go_at_call 79; (with_reducible refine (gram_Sym_Place.calls a1 t103 _ A5.out).mono ?_); rintro e w' ⟨rfl, ⟨nd, rfl⟩⟩; (try first | exact ⟨rfl, _, World.drewN_drewN _ _ _⟩ | exact ⟨rfl, _, Eq.trans (World.drewN_drewN _ _ _) (congrArg (World.drewN _) (Nat.add_assoc _ _ _))⟩); have hcz7_0 : w6.cell? ⟨gb101, 0, none⟩ = some (.slice A0_0 l0_0.length c0_0) := (blk_cell BK101.out 0).trans rfl; have hcz7_1 : w6.cell? ⟨gb101, 1, none⟩ = some (.slice A0_1 l0_1.length c0_1) := (blk_cell BK101.out 1).trans rfl; have hcz7_2 : w6.cell? ⟨gb101, 2, none⟩ = some (.int .i64 a0_2) := (blk_cell BK101.out 2).trans rfl; have hcz7_3 : w6.cell? ⟨gb101, 3, none⟩ = some (.slice A0_3 l0_3.length c0_3) := (blk_cell BK101.out 3).trans rfl; have hfz7_0 := blk_frozen BK101.out 0; have hfz7_1 := blk_frozen BK101.out 1; have hfz7_2 := blk_frozen BK101.out 2; have hfz7_3 := blk_frozen BK101.out 3))
  repeat (go_quiet (first | ((with_reducible refine gate_dst (N := 2) rfl ?_); refine box_event ?hg (N := 2) ?hd (cs := #[.slice A0_0 l0_0.length c0_0, .slice A0_1 l0_1.length c0_1, .int .i64 a0_2, .slice A0_3 l0_3.length c0_3]) (t := 25) ?hr ?_; (case hd => rfl); (case hg => rfl); (case hr => first | (go_simp; done) | (go_simp; rfl)); intro gb101 hg w6 hbox hb; have n0_ := Aside0.mk (below_step (by repeat (first | (with_reducible first | exact HB.out | apply below_alloc | apply pw_below_drewN | apply below_drew1) | exact HB.out)) hb); have n1_ := Aside0.mk (hbox); have n2_ := Aside0.mk ((by rw [hg]; exact (below_size (by repeat (first | (with_reducible first | exact HB.out | apply below_alloc | apply pw_below_drewN | apply below_drew1) | exact HB.out))) : w.heap.size ≤ gb101)); have n3_ := Aside0.mk ((by rw [hg]; exact (below_size (by repeat (first | (with_reducible first | exact HB.out | apply below_alloc | apply pw_below_drewN | apply below_drew1) | exact HB.out))) : w.heap.size ≤ gb101)); clear HB; have HB := n0_; have BK101 := n1_; have GW101 := n2_; have GE101 := n3_; clear n0_ n1_ n2_ n3_; clear hb hbox hg) | (go_at_call 78; (with_reducible refine (gram_Sym_IsTerm.calls a1 true _ A3.out).mono ?_); rintro e w' ⟨rfl, ⟨nd, rfl⟩⟩; (try first | exact ⟨rfl, _, World.drewN_drewN _ _ _⟩ | exact ⟨rfl, _, Eq.trans (World.drewN_drewN _ _ _) (congrArg (World.drewN _) (Nat.add_assoc _ _ _))⟩)) | (go_at_call 79; (with_reducible refine (gram_Sym_Place.calls a1 t103 _ A5.out).mono ?_); rintro e w' ⟨rfl, ⟨nd, rfl⟩⟩; (try first | exact ⟨rfl, _, World.drewN_drewN _ _ _⟩ | exact ⟨rfl, _, Eq.trans (World.drewN_drewN _ _ _) (congrArg (World.drewN _) (Nat.add_assoc _ _ _))⟩); have hcz7_0 : w6.cell? ⟨gb101, 0, none⟩ = some (.slice A0_0 l0_0.length c0_0) := (blk_cell BK101.out 0).trans rfl; have hcz7_1 : w6.cell? ⟨gb101, 1, none⟩ = some (.slice A0_1 l0_1.length c0_1) := (blk_cell BK101.out 1).trans rfl; have hcz7_2 : w6.cell? ⟨gb101, 2, none⟩ = some (.int .i64 a0_2) := (blk_cell BK101.out 2).trans rfl; have hcz7_3 : w6.cell? ⟨gb101, 3, none⟩ = some (.slice A0_3 l0_3.length c0_3) := (blk_cell BK101.out 3).trans rfl; have hfz7_0 := blk_frozen BK101.out 0; have hfz7_1 := blk_frozen BK101.out 1; have hfz7_2 := blk_frozen BK101.out 2; have hfz7_3 := blk_frozen BK101.out 3)); try go_wp2_with (first | ((with_reducible refine gate_dst (N := 2) rfl ?_); refine box_event ?hg (N := 2) ?hd (cs := #[.slice A0_0 l0_0.length c0_0, .slice A0_1 l0_1.length c0_1, .int .i64 a0_2, .slice A0_3 l0_3.length c0_3]) (t := 25) ?hr ?_; (case hd => rfl); (case hg => rfl); (case hr => first | (go_simp; done) | (go_simp; rfl)); intro gb101 hg w6 hbox hb; have n0_ := Aside0.mk (below_step (by repeat (first | (with_reducible first | exact HB.out | apply below_alloc | apply pw_below_drewN | apply below_drew1) | exact HB.out)) hb); have n1_ := Aside0.mk (hbox); have n2_ := Aside0.mk ((by rw [hg]; exact (below_size (by repeat (first | (with_reducible first | exact HB.out | apply below_alloc | apply pw_below_drewN | apply below_drew1) | exact HB.out))) : w.heap.size ≤ gb101)); have n3_ := Aside0.mk ((by rw [hg]; exact (below_size (by repeat (first | (with_reducible first | exact HB.out | apply below_alloc | apply pw_below_drewN | apply below_drew1) | exact HB.out))) : w.heap.size ≤ gb101)); clear HB; have HB := n0_; have BK101 := n1_; have GW101 := n2_; have GE101 := n3_; clear n0_ n1_ n2_ n3_; clear hb hbox hg) | (go_at_call 78; (with_reducible refine (gram_Sym_IsTerm.calls a1 true _ A3.out).mono ?_); rintro e w' ⟨rfl, ⟨nd, rfl⟩⟩; (try first | exact ⟨rfl, _, World.drewN_drewN _ _ _⟩ | exact ⟨rfl, _, Eq.trans (World.drewN_drewN _ _ _) (congrArg (World.drewN _) (Nat.add_assoc _ _ _))⟩)) | (go_at_call 79; (with_reducible refine (gram_Sym_Place.calls a1 t103 _ A5.out).mono ?_); rintro e w' ⟨rfl, ⟨nd, rfl⟩⟩; (try first | exact ⟨rfl, _, World.drewN_drewN _ _ _⟩ | exact ⟨rfl, _, Eq.trans (World.drewN_drewN _ _ _) (congrArg (World.drewN _) (Nat.add_assoc _ _ _))⟩); have hcz7_0 : w6.cell? ⟨gb101, 0, none⟩ = some (.slice A0_0 l0_0.length c0_0) := (blk_cell BK101.out 0).trans rfl; have hcz7_1 : w6.cell? ⟨gb101, 1, none⟩ = some (.slice A0_1 l0_1.length c0_1) := (blk_cell BK101.out 1).trans rfl; have hcz7_2 : w6.cell? ⟨gb101, 2, none⟩ = some (.int .i64 a0_2) := (blk_cell BK101.out 2).trans rfl; have hcz7_3 : w6.cell? ⟨gb101, 3, none⟩ = some (.slice A0_3 l0_3.length c0_3) := (blk_cell BK101.out 3).trans rfl; have hfz7_0 := blk_frozen BK101.out 0; have hfz7_1 := blk_frozen BK101.out 1; have hfz7_2 := blk_frozen BK101.out 2; have hfz7_3 := blk_frozen BK101.out 3)))
  go_ret
  exact ⟨by first | rfl | (simp [errW_none, errW_some] <;> rfl) | (simp [*, errW_none, errW_some] <;> rfl), by repeat (first | (with_reducible first | exact HB.out | apply below_alloc | apply pw_below_drewN | apply below_drew1 | refine below_set ?_ GE101.out) | exact HB.out)⟩
 ·replace c4 := Bool.eq_false_iff.mpr c4
  subst c4
  have H1 : ((gram_Sym_Place.f a1).bind fun t104 => (some (decide (t104 < (l0_0.length : Int))))) = some r := by rw [if_neg (show ¬ (false = true) by decide)] at H; exact H
  clear H
  have H := H1
  clear H1
  replace H := Option.bind_eq_some_iff.mp H
  obtain ⟨t104, A80, H⟩ := H
  replace H : (some (decide (t104 < (l0_0.length : Int)))) = some r := H
  have A8 := Aside0.mk A80
  clear A80
  obtain rfl := Option.some.inj H
  go_enter Tryd.func143, Tryd.ntmps143
  go_wp2_with (first | ((with_reducible refine gate_dst (N := 2) rfl ?_); refine box_event ?hg (N := 2) ?hd (cs := #[.slice A0_0 l0_0.length c0_0, .slice A0_1 l0_1.length c0_1, .int .i64 a0_2, .slice A0_3 l0_3.length c0_3]) (t := 25) ?hr ?_; (case hd => rfl); (case hg => rfl); (case hr => first | (go_simp; done) | (go_simp; rfl)); intro gb101 hg w9 hbox hb; have n0_ := Aside0.mk (below_step (by repeat (first | (with_reducible first | exact HB.out | apply below_alloc | apply pw_below_drewN | apply below_drew1) | exact HB.out)) hb); have n1_ := Aside0.mk (hbox); have n2_ := Aside0.mk ((by rw [hg]; exact (below_size (by repeat (first | (with_reducible first | exact HB.out | apply below_alloc | apply pw_below_drewN | apply below_drew1) | exact HB.out))) : w.heap.size ≤ gb101)); have n3_ := Aside0.mk ((by rw [hg]; exact (below_size (by repeat (first | (with_reducible first | exact HB.out | apply below_alloc | apply pw_below_drewN | apply below_drew1) | exact HB.out))) : w.heap.size ≤ gb101)); clear HB; have HB := n0_; have BK101 := n1_; have GW101 := n2_; have GE101 := n3_; clear n0_ n1_ n2_ n3_; clear hb hbox hg) | (go_at_call 78; (with_reducible refine (gram_Sym_IsTerm.calls a1 false _ A3.out).mono ?_); rintro e w' ⟨rfl, ⟨nd, rfl⟩⟩; (try first | exact ⟨rfl, _, World.drewN_drewN _ _ _⟩ | exact ⟨rfl, _, Eq.trans (World.drewN_drewN _ _ _) (congrArg (World.drewN _) (Nat.add_assoc _ _ _))⟩)) | (go_at_call 79; (with_reducible refine (gram_Sym_Place.calls a1 t104 _ A8.out).mono ?_); rintro e w' ⟨rfl, ⟨nd, rfl⟩⟩; (try first | exact ⟨rfl, _, World.drewN_drewN _ _ _⟩ | exact ⟨rfl, _, Eq.trans (World.drewN_drewN _ _ _) (congrArg (World.drewN _) (Nat.add_assoc _ _ _))⟩); have hcz10_0 : w9.cell? ⟨gb101, 0, none⟩ = some (.slice A0_0 l0_0.length c0_0) := (blk_cell BK101.out 0).trans rfl; have hcz10_1 : w9.cell? ⟨gb101, 1, none⟩ = some (.slice A0_1 l0_1.length c0_1) := (blk_cell BK101.out 1).trans rfl; have hcz10_2 : w9.cell? ⟨gb101, 2, none⟩ = some (.int .i64 a0_2) := (blk_cell BK101.out 2).trans rfl; have hcz10_3 : w9.cell? ⟨gb101, 3, none⟩ = some (.slice A0_3 l0_3.length c0_3) := (blk_cell BK101.out 3).trans rfl; have hfz10_0 := blk_frozen BK101.out 0; have hfz10_1 := blk_frozen BK101.out 1; have hfz10_2 := blk_frozen BK101.out 2; have hfz10_3 := blk_frozen BK101.out 3))
  repeat (go_quiet (first | ((with_reducible refine gate_dst (N := 2) rfl ?_); refine box_event ?hg (N := 2) ?hd (cs := #[.slice A0_0 l0_0.length c0_0, .slice A0_1 l0_1.length c0_1, .int .i64 a0_2, .slice A0_3 l0_3.length c0_3]) (t := 25) ?hr ?_; (case hd => rfl); (case hg => rfl); (case hr => first | (go_simp; done) | (go_simp; rfl)); intro gb101 hg w9 hbox hb; have n0_ := Aside0.mk (below_step (by repeat (first | (with_reducible first | exact HB.out | apply below_alloc | apply pw_below_drewN | apply below_drew1) | exact HB.out)) hb); have n1_ := Aside0.mk (hbox); have n2_ := Aside0.mk ((by rw [hg]; exact (below_size (by repeat (first | (with_reducible first | exact HB.out | apply below_alloc | apply pw_below_drewN | apply below_drew1) | exact HB.out))) : w.heap.size ≤ gb101)); have n3_ := Aside0.mk ((by rw [hg]; exact (below_size (by repeat (first | (with_reducible first | exact HB.out | apply below_alloc | apply pw_below_drewN | apply below_drew1) | exact HB.out))) : w.heap.size ≤ gb101)); clear HB; have HB := n0_; have BK101 := n1_; have GW101 := n2_; have GE101 := n3_; clear n0_ n1_ n2_ n3_; clear hb hbox hg) | (go_at_call 78; (with_reducible refine (gram_Sym_IsTerm.calls a1 false _ A3.out).mono ?_); rintro e w' ⟨rfl, ⟨nd, rfl⟩⟩; (try first | exact ⟨rfl, _, World.drewN_drewN _ _ _⟩ | exact ⟨rfl, _, Eq.trans (World.drewN_drewN _ _ _) (congrArg (World.drewN _) (Nat.add_assoc _ _ _))⟩)) | (go_at_call 79; (with_reducible refine (gram_Sym_Place.calls a1 t104 _ A8.out).mono ?_); rintro e w' ⟨rfl, ⟨nd, rfl⟩⟩; (try first | exact ⟨rfl, _, World.drewN_drewN _ _ _⟩ | exact ⟨rfl, _, Eq.trans (World.drewN_drewN _ _ _) (congrArg (World.drewN _) (Nat.add_assoc _ _ _))⟩); have hcz10_0 : w9.cell? ⟨gb101, 0, none⟩ = some (.slice A0_0 l0_0.length c0_0) := (blk_cell BK101.out 0).trans rfl; have hcz10_1 : w9.cell? ⟨gb101, 1, none⟩ = some (.slice A0_1 l0_1.length c0_1) := (blk_cell BK101.out 1).trans rfl; have hcz10_2 : w9.cell? ⟨gb101, 2, none⟩ = some (.int .i64 a0_2) := (blk_cell BK101.out 2).trans rfl; have hcz10_3 : w9.cell? ⟨gb101, 3, none⟩ = some (.slice A0_3 l0_3.length c0_3) := (blk_cell BK101.out 3).trans rfl; have hfz10_0 := blk_frozen BK101.out 0; have hfz10_1 := blk_frozen BK101.out 1; have hfz10_2 := blk_frozen BK101.out 2; have hfz10_3 := blk_frozen BK101.out 3)); try go_wp2_with (first | ((with_reducible refine gate_dst (N := 2) rfl ?_); refine box_event ?hg (N := 2) ?hd (cs := #[.slice A0_0 l0_0.length c0_0, .slice A0_1 l0_1.length c0_1, .int .i64 a0_2, .slice A0_3 l0_3.length c0_3]) (t := 25) ?hr ?_; (case hd => rfl); (case hg => rfl); (case hr => first | (go_simp; done) | (go_simp; rfl)); intro gb101 hg w9 hbox hb; have n0_ := Aside0.mk (below_step (by repeat (first | (with_reducible first | exact HB.out | apply below_alloc | apply pw_below_drewN | apply below_drew1) | exact HB.out)) hb); have n1_ := Aside0.mk (hbox); have n2_ := Aside0.mk ((by rw [hg]; exact (below_size (by repeat (first | (with_reducible first | exact HB.out | apply below_alloc | apply pw_below_drewN | apply below_drew1) | exact HB.out))) : w.heap.size ≤ gb101)); have n3_ := Aside0.mk ((by rw [hg]; exact (below_size (by repeat (first | (with_reducible first | exact HB.out | apply below_alloc | apply pw_below_drewN | apply below_drew1) | exact HB.out))) : w.heap.size ≤ gb101)); clear HB; have HB := n0_; have BK101 := n1_; have GW101 := n2_; have GE101 := n3_; clear n0_ n1_ n2_ n3_; clear hb hbox hg) | (go_at_call 78; (with_reducible refine (gram_Sym_IsTerm.calls a1 false _ A3.out).mono ?_); rintro e w' ⟨rfl, ⟨nd, rfl⟩⟩; (try first | exact ⟨rfl, _, World.drewN_drewN _ _ _⟩ | exact ⟨rfl, _, Eq.trans (World.drewN_drewN _ _ _) (congrArg (World.drewN _) (Nat.add_assoc _ _ _))⟩)) | (go_at_call 79; (with_reducible refine (gram_Sym_Place.calls a1 t104 _ A8.out).mono ?_); rintro e w' ⟨rfl, ⟨nd, rfl⟩⟩; (try first | exact ⟨rfl, _, World.drewN_drewN _ _ _⟩ | exact ⟨rfl, _, Eq.trans (World.drewN_drewN _ _ _) (congrArg (World.drewN _) (Nat.add_assoc _ _ _))⟩); have hcz10_0 : w9.cell? ⟨gb101, 0, none⟩ = some (.slice A0_0 l0_0.length c0_0) := (blk_cell BK101.out 0).trans rfl; have hcz10_1 : w9.cell? ⟨gb101, 1, none⟩ = some (.slice A0_1 l0_1.length c0_1) := (blk_cell BK101.out 1).trans rfl; have hcz10_2 : w9.cell? ⟨gb101, 2, none⟩ = some (.int .i64 a0_2) := (blk_cell BK101.out 2).trans rfl; have hcz10_3 : w9.cell? ⟨gb101, 3, none⟩ = some (.slice A0_3 l0_3.length c0_3) := (blk_cell BK101.out 3).trans rfl; have hfz10_0 := blk_frozen BK101.out 0; have hfz10_1 := blk_frozen BK101.out 1; have hfz10_2 := blk_frozen BK101.out 2; have hfz10_3 := blk_frozen BK101.out 3)))
  go_ret
  exact ⟨by first | rfl | (simp [errW_none, errW_some] <;> rfl) | (simp [*, errW_none, errW_some] <;> rfl), by repeat (first | (with_reducible first | exact HB.out | apply below_alloc | apply pw_below_drewN | apply below_drew1 | refine below_set ?_ GE101.out) | exact HB.out)⟩
def gram_Grammar_Size.l0 : Nat → Int → List (S32) → Int → Int → Option (Int)
 | 0, _, _, _, _ => none
 | k + 1, x3, x7, x8, x9 => if x9 < x8 then (if 0 ≤ x9 then (if x9 < (x7.length : Int) then (gram_Grammar_Size.l0 k (wrap64 (x3 + (wrap64 (1 + (((rd_T32 x7 x9).f1).length : Int))))) x7 x8 (wrap64 (x9 + 1))) else (none)) else (none)) else (some x3)
def gram_Grammar_Size.f (k : Nat) (l0_0 : List ByteArray) (l0_1 : List ByteArray) (a0_2 : Int) (l0_3 : List (S32)) : Option (Int) := gram_Grammar_Size.l0 k 0 l0_3 (l0_3.length : Int) 0
set_option maxHeartbeats 8000000 in
set_option maxRecDepth 100000 in
theorem gram_Grammar_Size.calls (k : Nat) (A0_0 : Option Addr) (c0_0 : Nat) (l0_0 : List ByteArray) (A0_1 : Option Addr) (c0_1 : Nat) (l0_1 : List ByteArray) (a0_2 : Int) (A0_3 : Option Addr) (c0_3 : Nat) (l0_3 : List (S32)) (r : Int) (w : World) (hr0_0 : Kd.C Kd.string w A0_0 l0_0.length l0_0) (hc0_0 : l0_0.length ≤ c0_0) (hr0_1 : Kd.C Kd.string w A0_1 l0_1.length l0_1) (hc0_1 : l0_1.length ≤ c0_1) (hr0_3 : Kd.C k32 w A0_3 l0_3.length l0_3) (hc0_3 : l0_3.length ≤ c0_3) (h : gram_Grammar_Size.f k l0_0 l0_1 a0_2 l0_3 = some r) :
  Calls Tryd.prog 24 #[.agg #[.slice A0_0 l0_0.length c0_0, .slice A0_1 l0_1.length c0_1, .int .i64 a0_2, .slice A0_3 l0_3.length c0_3]] w fun e w' => e = .returned (.int .i64 r) ∧ Below w.heap.size w w' := by
 have hu25 := Tryd.underlying25
 have hu32 := Tryd.underlying32
 have HR0_0 := Aside0.mk hr0_0
 have HC0_0 := Aside0.mk hc0_0
 clear hr0_0 hc0_0
 have HR0_1 := Aside0.mk hr0_1
 have HC0_1 := Aside0.mk hc0_1
 clear hr0_1 hc0_1
 have HR0_3 := Aside0.mk hr0_3
 have HC0_3 := Aside0.mk hc0_3
 clear hr0_3 hc0_3
 have HB := Aside0.mk (Below.refl w.heap.size w)
 have H : (gram_Grammar_Size.l0 k 0 l0_3 (l0_3.length : Int) 0) = some r := h
 clear h
 have H' := Aside0.mk H
 clear H
 go_enter Tryd.func24, Tryd.ntmps24
 go_wp2_with (first | ((with_reducible refine gate_dst (N := 1) rfl ?_); refine box_event ?hg (N := 1) ?hd (cs := #[.slice A0_0 l0_0.length c0_0, .slice A0_1 l0_1.length c0_1, .int .i64 a0_2, .slice A0_3 l0_3.length c0_3]) (t := 25) ?hr ?_; (case hd => rfl); (case hg => rfl); (case hr => first | (go_simp; done) | (go_simp; rfl)); intro gb101 hg w2 hbox hb; have n0_ := Aside0.mk (below_step (by repeat (first | (with_reducible first | exact HB.out | apply below_alloc | apply pw_below_drewN | apply below_drew1) | exact HB.out)) hb); have n1_ := Aside0.mk (hbox); have n2_ := Aside0.mk ((by rw [hg]; exact (below_size (by repeat (first | (with_reducible first | exact HB.out | apply below_alloc | apply pw_below_drewN | apply below_drew1) | exact HB.out))) : w.heap.size ≤ gb101)); have n3_ := Aside0.mk ((by rw [hg]; exact (below_size (by repeat (first | (with_reducible first | exact HB.out | apply below_alloc | apply pw_below_drewN | apply below_drew1) | exact HB.out))) : w.heap.size ≤ gb101)); clear HB; have HB := n0_; have BK101 := n1_; have GW101 := n2_; have GE101 := n3_; clear n0_ n1_ n2_ n3_; clear hb hbox hg; have hcz3_0 : w2.cell? ⟨gb101, 0, none⟩ = some (.slice A0_0 l0_0.length c0_0) := (blk_cell BK101.out 0).trans rfl; have hcz3_1 : w2.cell? ⟨gb101, 1, none⟩ = some (.slice A0_1 l0_1.length c0_1) := (blk_cell BK101.out 1).trans rfl; have hcz3_2 : w2.cell? ⟨gb101, 2, none⟩ = some (.int .i64 a0_2) := (blk_cell BK101.out 2).trans rfl; have hcz3_3 : w2.cell? ⟨gb101, 3, none⟩ = some (.slice A0_3 l0_3.length c0_3) := (blk_cell BK101.out 3).trans rfl; have hfz3_0 := blk_frozen BK101.out 0; have hfz3_1 := blk_frozen BK101.out 1; have hfz3_2 := blk_frozen BK101.out 2; have hfz3_3 := blk_frozen BK101.out 3))
 go_loopg [3, 9] k (fun kq v3 v9 w' => ∃ (x3_1 : Int) (x9_1 : Int), v3 = .int .i64 x3_1 ∧ v9 = .int .i64 x9_1 ∧ Aside0 (gram_Grammar_Size.l0 kq x3_1 l0_3 (l0_3.length : Int) x9_1 = some r) ∧ Aside0 (kq ≤ k) ∧ Aside0 (w'.heap[gb101]? = some (.cells #[(.slice A0_0 l0_0.length c0_0), (.slice A0_1 l0_1.length c0_1), .int .i64 a0_2, (.slice A0_3 l0_3.length c0_3)] 25 (0, 0))) ∧ Aside0 (Below w.heap.size w w'))
 case atStart => exact ⟨(0), (0), (by first | rfl | (simp; done) | (simp [*]; done)), (by first | rfl | (simp; done) | (simp [*]; done)), H', ⟨Nat.le_refl _⟩, ⟨by (with_reducible repeat (first | refine blk_drewN ?_ _ | refine blk_drew ?_ | refine blk_alloc ?_ _)); exact BK101.out⟩, ⟨by repeat (first | (with_reducible first | exact HB.out | apply below_alloc | apply pw_below_drewN | apply below_drew1 | refine below_set ?_ GE101.out) | exact HB.out)⟩⟩
 case round =>
  clear H'
  try clear c2
  try clear p2
  try clear hcz3_0
  try clear hcz3_1
  try clear hcz3_2
  try clear hcz3_3
  try clear hfz3_0
  try clear hfz3_1
  try clear hfz3_2
  try clear hfz3_3
  obtain ⟨x3_1, x9_1, rfl, rfl, HA, HK1, BK101, HB⟩ := hrel
  cases gk with
  | zero => exact absurd HA.out (by simp [gram_Grammar_Size.l0])
  | succ k1 =>
   have H := HA.out
   clear HA
   simp only [gram_Grammar_Size.l0] at H
   by_cases c4 : x9_1 < (l0_3.length : Int)
   ·rw [if_pos c4] at H
    have c4b0 : decide (x9_1 < (l0_3.length : Int)) = true := decide_eq_true c4
    clear c4
    by_cases c5 : 0 ≤ x9_1
    ·rw [if_pos c5] at H
     have c5b0 : decide (0 ≤ x9_1) = true := decide_eq_true c5
     clear c5
     by_cases c6 : x9_1 < (l0_3.length : Int)
     ·rw [if_pos c6] at H
      have c6b0 : decide (x9_1 < (l0_3.length : Int)) = true := decide_eq_true c6
      clear c6
      have H' := Aside0.mk H
      clear H
      have p102 : 0 ≤ (x9_1 : Int) := of_decide_eq_true (by first | (with_reducible assumption) | assumption)
      have q102 : x9_1 < (l0_3.length : Int) := of_decide_eq_true (by first | (with_reducible assumption) | assumption)
      obtain ⟨ad102, A102_1, c102_1, e102, hx102_0, hx102_1, hl102_1, hi102_1⟩ := at_T32 HR0_3.out x9_1 p102 q102
      cases e102
      replace hx102_0 := (HB.out.cell (World.block_lt_of_cell? w _ hx102_0)).trans hx102_0
      replace hx102_1 := (HB.out.cell (World.block_lt_of_cell? w _ hx102_1)).trans hx102_1
      have HR102_1 := Aside0.mk hi102_1
      have HC102_1 := Aside0.mk hl102_1
      clear hi102_1 hl102_1
      replace p102 := eq_true p102
      replace q102 := eq_true q102
      go_wp2_with (first | ((with_reducible refine gate_dst (N := 5) rfl ?_); refine box_event ?hg (N := 5) ?hd (cs := #[.int .i64 0, .slice none 0 0]) (t := 32) ?hr ?_; (case hd => rfl); (case hg => rfl); (case hr => first | (go_simp; done) | (go_simp; rfl)); intro gb103 hg w7 hbox hb; have n0_ := Aside0.mk (blk_below (g := gb101) (o := .cells #[.slice A0_0 l0_0.length c0_0, .slice A0_1 l0_1.length c0_1, .int .i64 a0_2, .slice (some ad102) l0_3.length c0_3] 25 (0, 0)) (by (with_reducible repeat (first | refine blk_drewN ?_ _ | refine blk_drew ?_ | refine blk_alloc ?_ _)); exact BK101.out) hb); have n1_ := Aside0.mk (below_step (by repeat (first | (with_reducible first | exact HB.out | apply below_alloc | apply pw_below_drewN | apply below_drew1 | refine below_set ?_ GE101.out) | exact HB.out)) hb); have n2_ := Aside0.mk (hbox); have n3_ := Aside0.mk ((by rw [hg]; exact (below_size (by repeat (first | (with_reducible first | exact HB.out | apply below_alloc | apply pw_below_drewN | apply below_drew1 | refine below_set ?_ GE101.out) | exact HB.out))) : w.heap.size ≤ gb103)); have n4_ := Aside0.mk ((by rw [hg]; exact (below_size (by repeat (first | (with_reducible first | exact HB.out | apply below_alloc | apply pw_below_drewN | apply below_drew1 | refine below_set ?_ GE101.out) | exact HB.out))) : w.heap.size ≤ gb103)); have n5_ := Aside0.mk ((by rw [hg]; exact Nat.ne_of_lt (blk_lt (g := gb101) (o := .cells #[.slice A0_0 l0_0.length c0_0, .slice A0_1 l0_1.length c0_1, .int .i64 a0_2, .slice (some ad102) l0_3.length c0_3] 25 (0, 0)) (by (with_reducible repeat (first | refine blk_drewN ?_ _ | refine blk_drew ?_ | refine blk_alloc ?_ _)); exact BK101.out)) : gb101 ≠ gb103)); have n6_ := Aside0.mk ((by rw [hg]; exact Nat.ne_of_gt (blk_lt (g := gb101) (o := .cells #[.slice A0_0 l0_0.length c0_0, .slice A0_1 l0_1.length c0_1, .int .i64 a0_2, .slice (some ad102) l0_3.length c0_3] 25 (0, 0)) (by (with_reducible repeat (first | refine blk_drewN ?_ _ | refine blk_drew ?_ | refine blk_alloc ?_ _)); exact BK101.out)) : gb103 ≠ gb101)); clear BK101; clear HB; have BK101 := n0_; have HB := n1_; have BK103 := n2_; have GW103 := n3_; have GE103 := n4_; have NB101_103 := n5_; have NB103_101 := n6_; clear n0_ n1_ n2_ n3_ n4_ n5_ n6_; clear hb hbox hg; have hnb8 := NB103_101.out; have hnc8 := NB101_103.out; have hcz9_0 : w7.cell? ⟨gb103, 0, none⟩ = some (.int .i64 0) := (blk_cell BK103.out 0).trans rfl; have hcz9_1 : w7.cell? ⟨gb103, 1, none⟩ = some (.slice none 0 0) := (blk_cell BK103.out 1).trans rfl; have hfz9_0 := blk_frozen BK103.out 0; have hfz9_1 := blk_frozen BK103.out 1))
      go_roundg k1
      case measure => have := HK1.out; omega
      case rel => exact ⟨(wrap64 (x3_1 + (wrap64 (1 + (((rd_T32 l0_3 x9_1).f1).length : Int))))), (wrap64 (x9_1 + 1)), (by first | rfl | (simp; done) | (simp [*]; done)), (by first | rfl | (simp; done) | (simp [*]; done)), H', ⟨by have := HK1.out; omega⟩, ⟨by (with_reducible repeat (first | refine blk_drewN ?_ _ | refine blk_drew ?_ | refine blk_alloc ?_ _)); refine blk_far ?_ NB101_103.out _; (with_reducible repeat (first | refine blk_drewN ?_ _ | refine blk_drew ?_ | refine blk_alloc ?_ _)); refine blk_far ?_ NB101_103.out _; (with_reducible repeat (first | refine blk_drewN ?_ _ | refine blk_drew ?_ | refine blk_alloc ?_ _)); exact BK101.out⟩, ⟨by repeat (first | (with_reducible first | exact HB.out | apply below_alloc | apply pw_below_drewN | apply below_drew1 | refine below_set ?_ GE101.out | refine below_set ?_ GE103.out) | exact HB.out)⟩⟩
     ·rw [if_neg c6] at H
      exact absurd H (by simp)
    ·rw [if_neg c5] at H
     exact absurd H (by simp)
   ·rw [if_neg c4] at H
    have c4b0 : decide (x9_1 < (l0_3.length : Int)) = false := decide_eq_false c4
    clear c4
    obtain rfl := Option.some.inj H
    go_wp2
    go_ret
    exact ⟨by first | rfl | (simp [errW_none, errW_some] <;> rfl) | (simp [*, errW_none, errW_some] <;> rfl), by repeat (first | (with_reducible first | exact HB.out | apply below_alloc | apply pw_below_drewN | apply below_drew1 | refine below_set ?_ GE101.out) | exact HB.out)⟩
def gram_Grammar_Text.f (l0_0 : List ByteArray) (l0_1 : List ByteArray) (a0_2 : Int) (l0_3 : List (S32)) (a1 : Int) : Option (ByteArray) := (gram_Grammar_has.f l0_0 l0_1 a0_2 l0_3 a1).bind fun t102 => (if t102 = true then ((gram_Sym_IsTerm.f a1).bind fun t103 => (if t103 = true then ((gram_Sym_Place.f a1).bind fun t104 => (if 0 ≤ t104 then (if t104 < (l0_1.length : Int) then ((names_Quote.f (rdOf ByteArray.empty l0_1 t104)).bind fun t106 => (some t106)) else (none)) else (none))) else (if 0 ≤ a1 then (if a1 < (l0_0.length : Int) then (if 1 + (rdOf ByteArray.empty l0_0 a1).size ≤ 9223372036854775807 then (if ((⟨#[60]⟩ : ByteArray) ++ (rdOf ByteArray.empty l0_0 a1)).size + 1 ≤ 9223372036854775807 then (some (((⟨#[60]⟩ : ByteArray) ++ (rdOf ByteArray.empty l0_0 a1)) ++ (⟨#[62]⟩ : ByteArray))) else (none)) else (none)) else (none)) else (none)))) else (some (⟨#[]⟩ : ByteArray)))
def gram_Grammar_Text.T4 : Bool × List (List Nat × List Nat) := (true, [([], []), ([0], [0]), ([], []), ([2], [2]), ([1, 3], [1, 3]), ([4], [4]), ([5, 3], [5]), ([6, 6, 0, 1, 2, 3, 4, 5, 6], [6])])
def gram_Grammar_Text.B4 : List Nat := [0, 1, 0, 4, 15, 31, 63, 127]
theorem gram_Grammar_Text.tab4 : rtab .any (opsOf Tryd.f117 4) = gram_Grammar_Text.T4 := by kernel_rfl
theorem gram_Grammar_Text.bits4 : waitsOk gram_Grammar_Text.T4.2 gram_Grammar_Text.B4 = true := by kernel_rfl
set_option maxHeartbeats 8000000 in
set_option maxRecDepth 100000 in
theorem gram_Grammar_Text.calls (A0_0 : Option Addr) (c0_0 : Nat) (l0_0 : List ByteArray) (A0_1 : Option Addr) (c0_1 : Nat) (l0_1 : List ByteArray) (a0_2 : Int) (A0_3 : Option Addr) (c0_3 : Nat) (l0_3 : List (S32)) (a1 : Int) (r : ByteArray) (w : World) (hr0_0 : Kd.C Kd.string w A0_0 l0_0.length l0_0) (hc0_0 : l0_0.length ≤ c0_0) (hr0_1 : Kd.C Kd.string w A0_1 l0_1.length l0_1) (hc0_1 : l0_1.length ≤ c0_1) (hr0_3 : Kd.C k32 w A0_3 l0_3.length l0_3) (hc0_3 : l0_3.length ≤ c0_3) (h : gram_Grammar_Text.f l0_0 l0_1 a0_2 l0_3 a1 = some r) :
  Calls Tryd.prog 117 #[.agg #[.slice A0_0 l0_0.length c0_0, .slice A0_1 l0_1.length c0_1, .int .i64 a0_2, .slice A0_3 l0_3.length c0_3], .int .i64 a1] w fun e w' => e = .returned (.string r) ∧ Below w.heap.size w w' := by
 have hu25 := Tryd.underlying25
 have HR0_0 := Aside0.mk hr0_0
 have HC0_0 := Aside0.mk hc0_0
 clear hr0_0 hc0_0
 have HR0_1 := Aside0.mk hr0_1
 have HC0_1 := Aside0.mk hc0_1
 clear hr0_1 hc0_1
 have HR0_3 := Aside0.mk hr0_3
 have HC0_3 := Aside0.mk hc0_3
 clear hr0_3 hc0_3
 have HB := Aside0.mk (Below.refl w.heap.size w)
 have H : ((gram_Grammar_has.f l0_0 l0_1 a0_2 l0_3 a1).bind fun t102 => (if t102 = true then ((gram_Sym_IsTerm.f a1).bind fun t103 => (if t103 = true then ((gram_Sym_Place.f a1).bind fun t104 => (if 0 ≤ t104 then (if t104 < (l0_1.length : Int) then ((names_Quote.f (rdOf ByteArray.empty l0_1 t104)).bind fun t106 => (some t106)) else (none)) else (none))) else (if 0 ≤ a1 then (if a1 < (l0_0.length : Int) then (if 1 + (rdOf ByteArray.empty l0_0 a1).size ≤ 9223372036854775807 then (if ((⟨#[60]⟩ : ByteArray) ++ (rdOf ByteArray.empty l0_0 a1)).size + 1 ≤ 9223372036854775807 then (some (((⟨#[60]⟩ : ByteArray) ++ (rdOf ByteArray.empty l0_0 a1)) ++ (⟨#[62]⟩ : ByteArray))) else (none)) else (none)) else (none)) else (none)))) else (some (⟨#[]⟩ : ByteArray)))) = some r := h
 clear h
 replace H := Option.bind_eq_some_iff.mp H
 obtain ⟨t102, A30, H⟩ := H
 replace H : (if t102 = true then ((gram_Sym_IsTerm.f a1).bind fun t103 => (if t103 = true then ((gram_Sym_Place.f a1).bind fun t104 => (if 0 ≤ t104 then (if t104 < (l0_1.length : Int) then ((names_Quote.f (rdOf ByteArray.empty l0_1 t104)).bind fun t106 => (some t106)) else (none)) else (none))) else (if 0 ≤ a1 then (if a1 < (l0_0.length : Int) then (if 1 + (rdOf ByteArray.empty l0_0 a1).size ≤ 9223372036854775807 then (if ((⟨#[60]⟩ : ByteArray) ++ (rdOf ByteArray.empty l0_0 a1)).size + 1 ≤ 9223372036854775807 then (some (((⟨#[60]⟩ : ByteArray) ++ (rdOf ByteArray.empty l0_0 a1)) ++ (⟨#[62]⟩ : ByteArray))) else (none)) else (none)) else (none)) else (none)))) else (some (⟨#[]⟩ : ByteArray))) = some r := H
 have A3 := Aside0.mk A30
 clear A30
 by_cases c4 : t102 = true
 ·subst c4
  have H1 : ((gram_Sym_IsTerm.f a1).bind fun t103 => (if t103 = true then ((gram_Sym_Place.f a1).bind fun t104 => (if 0 ≤ t104 then (if t104 < (l0_1.length : Int) then ((names_Quote.f (rdOf ByteArray.empty l0_1 t104)).bind fun t106 => (some t106)) else (none)) else (none))) else (if 0 ≤ a1 then (if a1 < (l0_0.length : Int) then (if 1 + (rdOf ByteArray.empty l0_0 a1).size ≤ 9223372036854775807 then (if ((⟨#[60]⟩ : ByteArray) ++ (rdOf ByteArray.empty l0_0 a1)).size + 1 ≤ 9223372036854775807 then (some (((⟨#[60]⟩ : ByteArray) ++ (rdOf ByteArray.empty l0_0 a1)) ++ (⟨#[62]⟩ : ByteArray))) else (none)) else (none)) else (none)) else (none)))) = some r := by rw [if_pos rfl] at H; exact H
  clear H
  have H := H1
  clear H1
  replace H := Option.bind_eq_some_iff.mp H
  obtain ⟨t103, A50, H⟩ := H
  replace H : (if t103 = true then ((gram_Sym_Place.f a1).bind fun t104 => (if 0 ≤ t104 then (if t104 < (l0_1.length : Int) then ((names_Quote.f (rdOf ByteArray.empty l0_1 t104)).bind fun t106 => (some t106)) else (none)) else (none))) else (if 0 ≤ a1 then (if a1 < (l0_0.length : Int) then (if 1 + (rdOf ByteArray.empty l0_0 a1).size ≤ 9223372036854775807 then (if ((⟨#[60]⟩ : ByteArray) ++ (rdOf ByteArray.empty l0_0 a1)).size + 1 ≤ 9223372036854775807 then (some (((⟨#[60]⟩ : ByteArray) ++ (rdOf ByteArray.empty l0_0 a1)) ++ (⟨#[62]⟩ : ByteArray))) else (none)) else (none)) else (none)) else (none))) = some r := H
  have A5 := Aside0.mk A50
  clear A50
  by_cases c6 : t103 = true
  ·subst c6
   have H1 : ((gram_Sym_Place.f a1).bind fun t104 => (if 0 ≤ t104 then (if t104 < (l0_1.length : Int) then ((names_Quote.f (rdOf ByteArray.empty l0_1 t104)).bind fun t106 => (some t106)) else (none)) else (none))) = some r := by rw [if_pos rfl] at H; exact H
   clear H
   have H := H1
   clear H1
   replace H := Option.bind_eq_some_iff.mp H
   obtain ⟨t104, A70, H⟩ := H
   replace H : (if 0 ≤ t104 then (if t104 < (l0_1.length : Int) then ((names_Quote.f (rdOf ByteArray.empty l0_1 t104)).bind fun t106 => (some t106)) else (none)) else (none)) = some r := H
   have A7 := Aside0.mk A70
   clear A70
   by_cases c8 : 0 ≤ t104
   ·rw [if_pos c8] at H
    have c8b0 : decide (0 ≤ t104) = true := decide_eq_true c8
    clear c8
    by_cases c9 : t104 < (l0_1.length : Int)
    ·rw [if_pos c9] at H
     have c9b0 : decide (t104 < (l0_1.length : Int)) = true := decide_eq_true c9
     clear c9
     replace H := Option.bind_eq_some_iff.mp H
     obtain ⟨t106, A100, H⟩ := H
     replace H : (some t106) = some r := H
     have A10 := Aside0.mk A100
     clear A100
     obtain rfl := Option.some.inj H
     go_enter Tryd.func117, Tryd.ntmps117
     try go_wp2_with (first | ((with_reducible refine gate_dst (N := 2) rfl ?_); refine box_event ?hg (N := 2) ?hd (cs := #[.slice A0_0 l0_0.length c0_0, .slice A0_1 l0_1.length c0_1, .int .i64 a0_2, .slice A0_3 l0_3.length c0_3]) (t := 25) ?hr ?_; (case hd => rfl); (case hg => rfl); (case hr => first | (go_simp; done) | (go_simp; rfl)); intro gb101 hg w11 hbox hb; have n0_ := Aside0.mk (below_step (by repeat (first | (with_reducible first | exact HB.out | apply below_alloc | apply pw_below_drewN | apply below_drew1) | exact HB.out)) hb); have n1_ := Aside0.mk (hbox); have n2_ := Aside0.mk ((by rw [hg]; exact (below_size (by repeat (first | (with_reducible first | exact HB.out | apply below_alloc | apply pw_below_drewN | apply below_drew1) | exact HB.out))) : w.heap.size ≤ gb101)); have n3_ := Aside0.mk ((by rw [hg]; exact (below_size (by repeat (first | (with_reducible first | exact HB.out | apply below_alloc | apply pw_below_drewN | apply below_drew1) | exact HB.out))) : w.heap.size ≤ gb101)); clear HB; have HB := n0_; have BK101 := n1_; have GW101 := n2_; have GE101 := n3_; clear n0_ n1_ n2_ n3_; clear hb hbox hg; have hcz12_0 : w11.cell? ⟨gb101, 0, none⟩ = some (.slice A0_0 l0_0.length c0_0) := (blk_cell BK101.out 0).trans rfl; have hcz12_1 : w11.cell? ⟨gb101, 1, none⟩ = some (.slice A0_1 l0_1.length c0_1) := (blk_cell BK101.out 1).trans rfl; have hcz12_2 : w11.cell? ⟨gb101, 2, none⟩ = some (.int .i64 a0_2) := (blk_cell BK101.out 2).trans rfl; have hcz12_3 : w11.cell? ⟨gb101, 3, none⟩ = some (.slice A0_3 l0_3.length c0_3) := (blk_cell BK101.out 3).trans rfl; have hfz12_0 := blk_frozen BK101.out 0; have hfz12_1 := blk_frozen BK101.out 1; have hfz12_2 := blk_frozen BK101.out 2; have hfz12_3 := blk_frozen BK101.out 3) | ((with_reducible refine gate_callee (f := 143) rfl ?_); refine goesL_ (some 8) rfl rfl Tryd.func143 (by kernel_rfl) rfl #[.agg #[.slice A0_0 l0_0.length c0_0, .slice A0_1 l0_1.length c0_1, .int .i64 a0_2, .slice A0_3 l0_3.length c0_3], .int .i64 a1] rfl (by (try simp only [List.map_toArray, List.map_cons, List.map_nil]); first | done | rfl | (simp only [List.length_drop, List.length_take]; rfl)) ?_; (with_reducible refine (gram_Grammar_has.calls _ _ l0_0 _ _ l0_1 a0_2 _ _ l0_3 a1 true _ ?side1 ?side2 ?side3 ?side4 ?side5 ?side6 A3.out).mono ?_); (case side1 => repeat (first | exact (Kd.C_below HR0_0.out HB.out) | (with_reducible refine Kd.C_alloc ?_ _) | (with_reducible refine Kd.C_drewN ?_ _) | (with_reducible refine Kd.C_drew ?_))); (case side2 => exact HC0_0.out); (case side3 => repeat (first | exact (Kd.C_below HR0_1.out HB.out) | (with_reducible refine Kd.C_alloc ?_ _) | (with_reducible refine Kd.C_drewN ?_ _) | (with_reducible refine Kd.C_drew ?_))); (case side4 => exact HC0_1.out); (case side5 => repeat (first | exact (Kd.C_below HR0_3.out HB.out) | (with_reducible refine Kd.C_alloc ?_ _) | (with_reducible refine Kd.C_drewN ?_ _) | (with_reducible refine Kd.C_drew ?_))); (case side6 => exact HC0_3.out); rintro e w13 ⟨rfl, hb⟩; refine ⟨_, rfl, ?_⟩; have n0_ := Aside0.mk (blk_below (g := gb101) (o := .cells #[.slice A0_0 l0_0.length c0_0, .slice A0_1 l0_1.length c0_1, .int .i64 a0_2, .slice A0_3 l0_3.length c0_3] 25 (0, 0)) (by (with_reducible repeat (first | refine blk_drewN ?_ _ | refine blk_drew ?_ | refine blk_alloc ?_ _)); exact BK101.out) hb); have n1_ := Aside0.mk (below_step (by repeat (first | (with_reducible first | exact HB.out | apply below_alloc | apply pw_below_drewN | apply below_drew1 | refine below_set ?_ GE101.out) | exact HB.out)) hb); clear BK101; clear HB; have BK101 := n0_; have HB := n1_; clear n0_ n1_; (try clear hb); (try clear hb2); (try clear hk); (try clear hi)) | ((with_reducible refine gate_callee (f := 78) rfl ?_); refine goesL_ (some 12) rfl rfl Tryd.func78 (by kernel_rfl) rfl #[.int .i64 a1] rfl (by (try simp only [List.map_toArray, List.map_cons, List.map_nil]); first | done | rfl | (simp only [List.length_drop, List.length_take]; rfl)) ?_; (with_reducible refine (gram_Sym_IsTerm.calls a1 true _ A5.out).mono ?_); rintro e w' ⟨rfl, ⟨nd, rfl⟩⟩; refine ⟨_, rfl, ?_⟩))
     (try (rw [drewN_self w13]; generalize hq_ : World.drewN w13 _ = w13; have n0_ : Aside0 (w13.heap[gb101]? = some (.cells #[.slice A0_0 l0_0.length c0_0, .slice A0_1 l0_1.length c0_1, .int .i64 a0_2, .slice A0_3 l0_3.length c0_3] 25 (0, 0))) := ⟨by rw [← hq_]; exact (by (with_reducible repeat (first | refine blk_drewN ?_ _ | refine blk_drew ?_ | refine blk_alloc ?_ _)); exact BK101.out)⟩; have n1_ : Aside0 (Below w.heap.size w w13) := ⟨by rw [← hq_]; exact (by repeat (first | (with_reducible first | exact HB.out | apply below_alloc | apply pw_below_drewN | apply below_drew1 | refine below_set ?_ GE101.out) | exact HB.out))⟩; clear BK101 HB hq_; have BK101 := n0_; have HB := n1_; clear n0_ n1_))
     have n0_ := Aside0.mk (blk_drew BK101.out)
     have n1_ := Aside0.mk (below_drew1 HB.out)
     clear BK101
     clear HB
     have BK101 := n0_
     have HB := n1_
     clear n0_ n1_
     have p105 : 0 ≤ (t104 : Int) := of_decide_eq_true (by first | (with_reducible assumption) | assumption)
     have q105 : t104 < (l0_1.length : Int) := of_decide_eq_true (by first | (with_reducible assumption) | assumption)
     obtain ⟨ad105, e105, hx105_0⟩ := Kd.at_string HR0_1.out t104 p105 q105
     have hw105_0 := hx105_0
     cases e105
     replace hx105_0 := (HB.out.cell (World.block_lt_of_cell? w _ hx105_0)).trans hx105_0
     replace p105 := eq_true p105
     replace q105 := eq_true q105
     refine start_ (n := 8) (S := fun w' => w'.cell? ⟨gb101, 0, none⟩ = some (.slice A0_0 l0_0.length c0_0) ∧ w'.cell? ⟨gb101, 1, none⟩ = some (.slice (some ad105) l0_1.length c0_1) ∧ w'.cell? ⟨gb101, 2, none⟩ = some (.int .i64 a0_2) ∧ w'.cell? ⟨gb101, 3, none⟩ = some (.slice A0_3 l0_3.length c0_3) ∧ w'.cell? (ad105.add (t104).toNat) = some (.string (rdOf ByteArray.empty l0_1 t104))) (ds := []) #[false, false, false, false, false, false, false, false] (by kernel_rfl) rfl rfl ⟨(blk_cell BK101.out 0).trans rfl, (blk_cell BK101.out 1).trans rfl, (blk_cell BK101.out 2).trans rfl, (blk_cell BK101.out 3).trans rfl, ((HB.out.cell (World.block_lt_of_cell? w _ hw105_0)).trans hw105_0)⟩ (fun hHeld => ?_); refine with_tabW gram_Grammar_Text.tab4 gram_Grammar_Text.bits4 (fun HT_ HW_ => ?_)
     generalize w13.drew = w14 at BK101 HB hx105_0 hHeld ⊢
     refine pure_ (i := 0) (N := some 13) (v := ?_) (a' := ?_) #[true, false, false, false, false, false, false, false] rfl rfl (any_of HT_.out (by kernel_rfl)) (fun _ _ _ h => h) (Or.inl ⟨by rfl, ?_⟩) ?_ ?_
     rotate_left
     ·intro w'
      go_simp
      with_reducible rfl
     rotate_left
     ·simp only [Act.put, List.setIfInBounds_toArray, List.set_cons_zero, List.set_cons_succ, i64_w, i32_w]
      rfl
     refine pure_ (i := 2) (N := some 15) (v := ?_) (a' := ?_) #[true, false, true, false, false, false, false, false] rfl rfl (any_of HT_.out (by kernel_rfl)) (fun _ _ _ h => h) (Or.inl ⟨by rfl, ?_⟩) ?_ ?_
     rotate_left
     ·intro w'
      go_simp
      with_reducible rfl
     rotate_left
     ·simp only [Act.put, List.setIfInBounds_toArray, List.set_cons_zero, List.set_cons_succ, i64_w, i32_w]
      rfl
     refine take_ (i := 1) (N := some 14) (v := ?_) (a' := ?_) #[true, true, true, false, false, false, false, false] rfl rfl (take_ofW HT_.out HW_.out (by kernel_rfl)) (fun _ _ _ h => h) (Or.inl ⟨by rfl, ?_⟩) hHeld ?_ ?_
     rotate_left
     ·rintro w' ⟨s0, s1, s2, s3, s4⟩
      go_simp
      with_reducible rfl
     rotate_left
     ·simp only [Act.put, List.setIfInBounds_toArray, List.set_cons_zero, List.set_cons_succ, i64_w, i32_w]
      rfl
     refine one_ (i := 3) (N := some 16) #[true, true, true, true, false, false, false, false] rfl rfl (one_of HT_.out (by kernel_rfl)) (by decide) (fun K hK => ?_)
     refine goes_ Tryd.func79 (by kernel_rfl) rfl #[.int .i64 a1] (by rfl) rfl rfl (by (try simp only [List.map_toArray, List.map_cons, List.map_nil]); first | done | rfl | (simp only [List.length_drop, List.length_take]; rfl)) ?_
     with_reducible refine (gram_Sym_Place.calls a1 t104 _ A7.out).mono ?_
     rintro e w' ⟨rfl, ⟨nd, rfl⟩⟩
     refine ⟨_, rfl, ?_⟩
     refine hK.out _ _ ⟨(blk_cell BK101.out 0).trans rfl, (blk_cell BK101.out 1).trans rfl, (blk_cell BK101.out 2).trans rfl, (blk_cell BK101.out 3).trans rfl, ((HB.out.cell (World.block_lt_of_cell? w _ hw105_0)).trans hw105_0)⟩ (fun hHeld => ?_)
     clear hK K
     refine norm_ (a' := ?_) ?_ ?_
     rotate_left
     ·show Act.put _ (some 16) _ = _
      simp only [Act.put, List.setIfInBounds_toArray, List.set_cons_zero, List.set_cons_succ, i64_w, i32_w]
      rfl
     refine pure_ (i := 4) (N := some 17) (v := ?_) (a' := ?_) #[true, true, true, true, true, false, false, false] rfl rfl (any_of HT_.out (by kernel_rfl)) (fun _ _ _ h => h) (Or.inl ⟨by rfl, ?_⟩) ?_ ?_
     rotate_left
     ·intro w'
      go_simp
      with_reducible rfl
     rotate_left
     ·simp only [Act.put, List.setIfInBounds_toArray, List.set_cons_zero, List.set_cons_succ, i64_w, i32_w]
      rfl
     refine take_ (i := 5) (N := some 18) (v := ?_) (a' := ?_) #[true, true, true, true, true, true, false, false] rfl rfl (take_ofW HT_.out HW_.out (by kernel_rfl)) (fun _ _ _ h => h) (Or.inl ⟨by rfl, ?_⟩) hHeld ?_ ?_
     rotate_left
     ·rintro w' ⟨s0, s1, s2, s3, s4⟩
      go_simp
      with_reducible rfl
     rotate_left
     ·simp only [Act.put, List.setIfInBounds_toArray, List.set_cons_zero, List.set_cons_succ, i64_w, i32_w]
      rfl
     refine one_ (i := 6) (N := some 19) #[true, true, true, true, true, true, true, false] rfl rfl (one_of HT_.out (by kernel_rfl)) (by decide) (fun K hK => ?_)
     refine goes_ Tryd.func150 (by kernel_rfl) rfl #[.string (rdOf ByteArray.empty l0_1 t104)] (by rfl) rfl rfl (by (try simp only [List.map_toArray, List.map_cons, List.map_nil]); first | done | rfl | (simp only [List.length_drop, List.length_take]; rfl)) ?_
     with_reducible refine (names_Quote.calls (rdOf ByteArray.empty l0_1 t104) t106 _ A10.out).mono ?_
     rintro e w15 ⟨rfl, hb⟩
     refine ⟨_, rfl, ?_⟩
     have n0_ := Aside0.mk (blk_below (g := gb101) (o := .cells #[.slice A0_0 l0_0.length c0_0, .slice (some ad105) l0_1.length c0_1, .int .i64 a0_2, .slice A0_3 l0_3.length c0_3] 25 (0, 0)) (by (with_reducible repeat (first | refine blk_drewN ?_ _ | refine blk_drew ?_ | refine blk_alloc ?_ _)); exact BK101.out) hb)
     have n1_ := Aside0.mk (below_step (by repeat (first | (with_reducible first | exact HB.out | apply below_alloc | apply pw_below_drewN | apply below_drew1 | refine below_set ?_ GE101.out) | exact HB.out)) hb)
     clear BK101
     clear HB
     have BK101 := n0_
     have HB := n1_
     clear n0_ n1_
     (try clear hb)
     (try clear hb2)
     (try clear hk)
     (try clear hi)
     refine hK.out _ _ ⟨(blk_cell BK101.out 0).trans rfl, (blk_cell BK101.out 1).trans rfl, (blk_cell BK101.out 2).trans rfl, (blk_cell BK101.out 3).trans rfl, ((HB.out.cell (World.block_lt_of_cell? w _ hw105_0)).trans hw105_0)⟩ (fun hHeld => ?_)
     clear hK K
     refine norm_ (a' := ?_) ?_ ?_
     rotate_left
     ·show Act.put _ (some 19) _ = _
      simp only [Act.put, List.setIfInBounds_toArray, List.set_cons_zero, List.set_cons_succ, i64_w, i32_w]
      rfl
     refine pure_ (i := 7) (N := some 4) (v := ?_) (a' := ?_) #[true, true, true, true, true, true, true, true] rfl rfl (any_of HT_.out (by kernel_rfl)) (fun _ _ _ h => h) (Or.inl ⟨by rfl, ?_⟩) ?_ ?_
     rotate_left
     ·intro w'
      go_simp
      with_reducible rfl
     rotate_left
     ·simp only [Act.put, List.setIfInBounds_toArray, List.set_cons_zero, List.set_cons_succ, i64_w, i32_w]
      rfl
     refine done_ (done_of HT_.out (by kernel_rfl)) ?_
     try go_wp2
     go_ret
     exact ⟨by first | rfl | (simp [errW_none, errW_some] <;> rfl) | (simp [*, errW_none, errW_some] <;> rfl), by repeat (first | (with_reducible first | exact HB.out | apply below_alloc | apply pw_below_drewN | apply below_drew1 | refine below_set ?_ GE101.out) | exact HB.out)⟩
    ·rw [if_neg c9] at H
     exact absurd H (by simp)
   ·rw [if_neg c8] at H
    exact absurd H (by simp)
  ·replace c6 := Bool.eq_false_iff.mpr c6
   subst c6
   have H1 : (if 0 ≤ a1 then (if a1 < (l0_0.length : Int) then (if 1 + (rdOf ByteArray.empty l0_0 a1).size ≤ 9223372036854775807 then (if ((⟨#[60]⟩ : ByteArray) ++ (rdOf ByteArray.empty l0_0 a1)).size + 1 ≤ 9223372036854775807 then (some (((⟨#[60]⟩ : ByteArray) ++ (rdOf ByteArray.empty l0_0 a1)) ++ (⟨#[62]⟩ : ByteArray))) else (none)) else (none)) else (none)) else (none)) = some r := by rw [if_neg (show ¬ (false = true) by decide)] at H; exact H
   clear H
   have H := H1
   clear H1
   by_cases c16 : 0 ≤ a1
   ·rw [if_pos c16] at H
    have c16b0 : decide (0 ≤ a1) = true := decide_eq_true c16
    clear c16
    by_cases c17 : a1 < (l0_0.length : Int)
    ·rw [if_pos c17] at H
     have c17b0 : decide (a1 < (l0_0.length : Int)) = true := decide_eq_true c17
     clear c17
     by_cases c18 : 1 + (rdOf ByteArray.empty l0_0 a1).size ≤ 9223372036854775807
     ·rw [if_pos c18] at H
      have c18b0 := eq_true c18
      have c18b1 : decide (1 + (rdOf ByteArray.empty l0_0 a1).size ≤ 9223372036854775807) = true := decide_eq_true c18
      try have c18b2 : (9223372036854775807 < 1 + (rdOf ByteArray.empty l0_0 a1).size) = False := eq_false (Nat.not_lt.2 c18)
      by_cases c19 : ((⟨#[60]⟩ : ByteArray) ++ (rdOf ByteArray.empty l0_0 a1)).size + 1 ≤ 9223372036854775807
      ·rw [if_pos c19] at H
       have c19b0 := eq_true c19
       have c19b1 : decide (((⟨#[60]⟩ : ByteArray) ++ (rdOf ByteArray.empty l0_0 a1)).size + 1 ≤ 9223372036854775807) = true := decide_eq_true c19
       try have c19b2 : (9223372036854775807 < ((⟨#[60]⟩ : ByteArray) ++ (rdOf ByteArray.empty l0_0 a1)).size + 1) = False := eq_false (Nat.not_lt.2 c19)
       try (have c19b3 := c19b2; simp only [ByteArray.size_append, ByteArray.size_extract, Nat.sub_zero, show (⟨#[60]⟩ : ByteArray).size = 1 from rfl] at c19b3)
       obtain rfl := Option.some.inj H
       go_enter Tryd.func117, Tryd.ntmps117
       go_wp2_with (first | ((with_reducible refine gate_dst (N := 2) rfl ?_); refine box_event ?hg (N := 2) ?hd (cs := #[.slice A0_0 l0_0.length c0_0, .slice A0_1 l0_1.length c0_1, .int .i64 a0_2, .slice A0_3 l0_3.length c0_3]) (t := 25) ?hr ?_; (case hd => rfl); (case hg => rfl); (case hr => first | (go_simp; done) | (go_simp; rfl)); intro gb101 hg w20 hbox hb; have n0_ := Aside0.mk (below_step (by repeat (first | (with_reducible first | exact HB.out | apply below_alloc | apply pw_below_drewN | apply below_drew1) | exact HB.out)) hb); have n1_ := Aside0.mk (hbox); have n2_ := Aside0.mk ((by rw [hg]; exact (below_size (by repeat (first | (with_reducible first | exact HB.out | apply below_alloc | apply pw_below_drewN | apply below_drew1) | exact HB.out))) : w.heap.size ≤ gb101)); have n3_ := Aside0.mk ((by rw [hg]; exact (below_size (by repeat (first | (with_reducible first | exact HB.out | apply below_alloc | apply pw_below_drewN | apply below_drew1) | exact HB.out))) : w.heap.size ≤ gb101)); clear HB; have HB := n0_; have BK101 := n1_; have GW101 := n2_; have GE101 := n3_; clear n0_ n1_ n2_ n3_; clear hb hbox hg; have hcz21_0 : w20.cell? ⟨gb101, 0, none⟩ = some (.slice A0_0 l0_0.length c0_0) := (blk_cell BK101.out 0).trans rfl; have hcz21_1 : w20.cell? ⟨gb101, 1, none⟩ = some (.slice A0_1 l0_1.length c0_1) := (blk_cell BK101.out 1).trans rfl; have hcz21_2 : w20.cell? ⟨gb101, 2, none⟩ = some (.int .i64 a0_2) := (blk_cell BK101.out 2).trans rfl; have hcz21_3 : w20.cell? ⟨gb101, 3, none⟩ = some (.slice A0_3 l0_3.length c0_3) := (blk_cell BK101.out 3).trans rfl; have hfz21_0 := blk_frozen BK101.out 0; have hfz21_1 := blk_frozen BK101.out 1; have hfz21_2 := blk_frozen BK101.out 2; have hfz21_3 := blk_frozen BK101.out 3) | ((with_reducible refine gate_callee (f := 143) rfl ?_); refine goesL_ (some 8) rfl rfl Tryd.func143 (by kernel_rfl) rfl #[.agg #[.slice A0_0 l0_0.length c0_0, .slice A0_1 l0_1.length c0_1, .int .i64 a0_2, .slice A0_3 l0_3.length c0_3], .int .i64 a1] rfl (by (try simp only [List.map_toArray, List.map_cons, List.map_nil]); first | done | rfl | (simp only [List.length_drop, List.length_take]; rfl)) ?_; (with_reducible refine (gram_Grammar_has.calls _ _ l0_0 _ _ l0_1 a0_2 _ _ l0_3 a1 true _ ?side1 ?side2 ?side3 ?side4 ?side5 ?side6 A3.out).mono ?_); (case side1 => repeat (first | exact (Kd.C_below HR0_0.out HB.out) | (with_reducible refine Kd.C_alloc ?_ _) | (with_reducible refine Kd.C_drewN ?_ _) | (with_reducible refine Kd.C_drew ?_))); (case side2 => exact HC0_0.out); (case side3 => repeat (first | exact (Kd.C_below HR0_1.out HB.out) | (with_reducible refine Kd.C_alloc ?_ _) | (with_reducible refine Kd.C_drewN ?_ _) | (with_reducible refine Kd.C_drew ?_))); (case side4 => exact HC0_1.out); (case side5 => repeat (first | exact (Kd.C_below HR0_3.out HB.out) | (with_reducible refine Kd.C_alloc ?_ _) | (with_reducible refine Kd.C_drewN ?_ _) | (with_reducible refine Kd.C_drew ?_))); (case side6 => exact HC0_3.out); rintro e w22 ⟨rfl, hb⟩; refine ⟨_, rfl, ?_⟩; have n0_ := Aside0.mk (blk_below (g := gb101) (o := .cells #[.slice A0_0 l0_0.length c0_0, .slice A0_1 l0_1.length c0_1, .int .i64 a0_2, .slice A0_3 l0_3.length c0_3] 25 (0, 0)) (by (with_reducible repeat (first | refine blk_drewN ?_ _ | refine blk_drew ?_ | refine blk_alloc ?_ _)); exact BK101.out) hb); have n1_ := Aside0.mk (below_step (by repeat (first | (with_reducible first | exact HB.out | apply below_alloc | apply pw_below_drewN | apply below_drew1 | refine below_set ?_ GE101.out) | exact HB.out)) hb); clear BK101; clear HB; have BK101 := n0_; have HB := n1_; clear n0_ n1_; (try clear hb); (try clear hb2); (try clear hk); (try clear hi)) | ((with_reducible refine gate_callee (f := 78) rfl ?_); refine goesL_ (some 12) rfl rfl Tryd.func78 (by kernel_rfl) rfl #[.int .i64 a1] rfl (by (try simp only [List.map_toArray, List.map_cons, List.map_nil]); first | done | rfl | (simp only [List.length_drop, List.length_take]; rfl)) ?_; (with_reducible refine (gram_Sym_IsTerm.calls a1 false _ A5.out).mono ?_); rintro e w' ⟨rfl, ⟨nd, rfl⟩⟩; refine ⟨_, rfl, ?_⟩; have hcz23_0 : w22.cell? ⟨gb101, 0, none⟩ = some (.slice A0_0 l0_0.length c0_0) := (blk_cell BK101.out 0).trans rfl; have hcz23_1 : w22.cell? ⟨gb101, 1, none⟩ = some (.slice A0_1 l0_1.length c0_1) := (blk_cell BK101.out 1).trans rfl; have hcz23_2 : w22.cell? ⟨gb101, 2, none⟩ = some (.int .i64 a0_2) := (blk_cell BK101.out 2).trans rfl; have hcz23_3 : w22.cell? ⟨gb101, 3, none⟩ = some (.slice A0_3 l0_3.length c0_3) := (blk_cell BK101.out 3).trans rfl; have hfz23_0 := blk_frozen BK101.out 0; have hfz23_1 := blk_frozen BK101.out 1; have hfz23_2 := blk_frozen BK101.out 2; have hfz23_3 := blk_frozen BK101.out 3; have p107 : 0 ≤ (a1 : Int) := of_decide_eq_true (by first | (with_reducible assumption) | assumption); have q107 : a1 < (l0_0.length : Int) := of_decide_eq_true (by first | (with_reducible assumption) | assumption); obtain ⟨ad107, e107, hx107_0⟩ := Kd.at_string HR0_0.out a1 p107 q107; cases e107; replace hx107_0 := (HB.out.cell (World.block_lt_of_cell? w _ hx107_0)).trans hx107_0; replace p107 := eq_true p107; replace q107 := eq_true q107))
       go_ret
       exact ⟨by first | rfl | (simp [errW_none, errW_some] <;> rfl) | (simp [*, errW_none, errW_some] <;> rfl), by repeat (first | (with_reducible first | exact HB.out | apply below_alloc | apply pw_below_drewN | apply below_drew1 | refine below_set ?_ GE101.out) | exact HB.out)⟩
      ·rw [if_neg c19] at H
       exact absurd H (by simp)
     ·rw [if_neg c18] at H
      exact absurd H (by simp)
    ·rw [if_neg c17] at H
     exact absurd H (by simp)
   ·rw [if_neg c16] at H
    exact absurd H (by simp)
 ·replace c4 := Bool.eq_false_iff.mpr c4
  subst c4
  have H1 : (some (⟨#[]⟩ : ByteArray)) = some r := by rw [if_neg (show ¬ (false = true) by decide)] at H; exact H
  clear H
  have H := H1
  clear H1
  obtain rfl := Option.some.inj H
  go_enter Tryd.func117, Tryd.ntmps117
  go_wp2_with (first | ((with_reducible refine gate_dst (N := 2) rfl ?_); refine box_event ?hg (N := 2) ?hd (cs := #[.slice A0_0 l0_0.length c0_0, .slice A0_1 l0_1.length c0_1, .int .i64 a0_2, .slice A0_3 l0_3.length c0_3]) (t := 25) ?hr ?_; (case hd => rfl); (case hg => rfl); (case hr => first | (go_simp; done) | (go_simp; rfl)); intro gb101 hg w24 hbox hb; have n0_ := Aside0.mk (below_step (by repeat (first | (with_reducible first | exact HB.out | apply below_alloc | apply pw_below_drewN | apply below_drew1) | exact HB.out)) hb); have n1_ := Aside0.mk (hbox); have n2_ := Aside0.mk ((by rw [hg]; exact (below_size (by repeat (first | (with_reducible first | exact HB.out | apply below_alloc | apply pw_below_drewN | apply below_drew1) | exact HB.out))) : w.heap.size ≤ gb101)); have n3_ := Aside0.mk ((by rw [hg]; exact (below_size (by repeat (first | (with_reducible first | exact HB.out | apply below_alloc | apply pw_below_drewN | apply below_drew1) | exact HB.out))) : w.heap.size ≤ gb101)); clear HB; have HB := n0_; have BK101 := n1_; have GW101 := n2_; have GE101 := n3_; clear n0_ n1_ n2_ n3_; clear hb hbox hg; have hcz25_0 : w24.cell? ⟨gb101, 0, none⟩ = some (.slice A0_0 l0_0.length c0_0) := (blk_cell BK101.out 0).trans rfl; have hcz25_1 : w24.cell? ⟨gb101, 1, none⟩ = some (.slice A0_1 l0_1.length c0_1) := (blk_cell BK101.out 1).trans rfl; have hcz25_2 : w24.cell? ⟨gb101, 2, none⟩ = some (.int .i64 a0_2) := (blk_cell BK101.out 2).trans rfl; have hcz25_3 : w24.cell? ⟨gb101, 3, none⟩ = some (.slice A0_3 l0_3.length c0_3) := (blk_cell BK101.out 3).trans rfl; have hfz25_0 := blk_frozen BK101.out 0; have hfz25_1 := blk_frozen BK101.out 1; have hfz25_2 := blk_frozen BK101.out 2; have hfz25_3 := blk_frozen BK101.out 3) | ((with_reducible refine gate_callee (f := 143) rfl ?_); refine goesL_ (some 8) rfl rfl Tryd.func143 (by kernel_rfl) rfl #[.agg #[.slice A0_0 l0_0.length c0_0, .slice A0_1 l0_1.length c0_1, .int .i64 a0_2, .slice A0_3 l0_3.length c0_3], .int .i64 a1] rfl (by (try simp only [List.map_toArray, List.map_cons, List.map_nil]); first | done | rfl | (simp only [List.length_drop, List.length_take]; rfl)) ?_; (with_reducible refine (gram_Grammar_has.calls _ _ l0_0 _ _ l0_1 a0_2 _ _ l0_3 a1 false _ ?side1 ?side2 ?side3 ?side4 ?side5 ?side6 A3.out).mono ?_); (case side1 => repeat (first | exact (Kd.C_below HR0_0.out HB.out) | (with_reducible refine Kd.C_alloc ?_ _) | (with_reducible refine Kd.C_drewN ?_ _) | (with_reducible refine Kd.C_drew ?_))); (case side2 => exact HC0_0.out); (case side3 => repeat (first | exact (Kd.C_below HR0_1.out HB.out) | (with_reducible refine Kd.C_alloc ?_ _) | (with_reducible refine Kd.C_drewN ?_ _) | (with_reducible refine Kd.C_drew ?_))); (case side4 => exact HC0_1.out); (case side5 => repeat (first | exact (Kd.C_below HR0_3.out HB.out) | (with_reducible refine Kd.C_alloc ?_ _) | (with_reducible refine Kd.C_drewN ?_ _) | (with_reducible refine Kd.C_drew ?_))); (case side6 => exact HC0_3.out); rintro e w26 ⟨rfl, hb⟩; refine ⟨_, rfl, ?_⟩; have n0_ := Aside0.mk (blk_below (g := gb101) (o := .cells #[.slice A0_0 l0_0.length c0_0, .slice A0_1 l0_1.length c0_1, .int .i64 a0_2, .slice A0_3 l0_3.length c0_3] 25 (0, 0)) (by (with_reducible repeat (first | refine blk_drewN ?_ _ | refine blk_drew ?_ | refine blk_alloc ?_ _)); exact BK101.out) hb); have n1_ := Aside0.mk (below_step (by repeat (first | (with_reducible first | exact HB.out | apply below_alloc | apply pw_below_drewN | apply below_drew1 | refine below_set ?_ GE101.out) | exact HB.out)) hb); clear BK101; clear HB; have BK101 := n0_; have HB := n1_; clear n0_ n1_; (try clear hb); (try clear hb2); (try clear hk); (try clear hi)))
  go_ret
  exact ⟨by first | rfl | (simp [errW_none, errW_some] <;> rfl) | (simp [*, errW_none, errW_some] <;> rfl), by repeat (first | (with_reducible first | exact HB.out | apply below_alloc | apply pw_below_drewN | apply below_drew1 | refine below_set ?_ GE101.out) | exact HB.out)⟩
end Go.Proofs.YtmdjmbdeeodehaaDoor.G
end
section
set_option linter.unusedVariables false
set_option linter.unusedSimpArgs false
namespace Go.Proofs.YtmdjmbdeeodehaaDoor.G
open Go Go.Proofs Go.RowKit Go.Maps Go.WideMaps Go.Proofs.YtmdjmbdeeodehaaDoorW.PrintWords
theorem idxL_any (p : Int → Bool) : ∀ (l : List Int) (i : Int), 0 ≤ i → decide (0 ≤ idxL p l i) = l.any p := by
  intro l
  induction l with
  | nil => intro i _; rfl
  | cons a l ih =>
    intro i hi
    rw [idxL, List.any_cons]
    cases h : p a with
    | true => rw [if_pos rfl, Bool.true_or, decide_eq_true hi]
    | false => rw [if_neg (by simp), Bool.false_or, ih (i + 1) (by omega)]
set_option maxHeartbeats 1000000 in
theorem contains_calls (p : Int → Bool) (m : Nat) (cap : Array Value) (I : World → Prop) (hI : ∀ W W', I W → Below W.heap.size W W' → I W')
    (hcall : ∀ (x : Int) (W : World), Sem.run Tryd.prog (callFunc m (#[.int .i64 x] ++ cap)) W = .ok (.enter m (#[.int .i64 x] ++ cap)) W)
    (A0 : Option Addr) (c0 : Nat) (l0 : List Int) (hp : ∀ x ∈ l0, ∀ W, I W → Calls Tryd.prog m (#[.int .i64 x] ++ cap) W fun e w' => e = .returned (.bool (p x)) ∧ Below W.heap.size W w')
    (w : World) (hw : I w) (hr0 : Kd.C (Kd.int .i64) w A0 l0.length l0) (hc0 : l0.length ≤ c0) (hl0 : l0.length ≤ 1000000) :
    Calls Tryd.prog 141 #[.slice A0 l0.length c0, .func (.func m) #[] cap] w fun e w' => e = .returned (.bool (l0.any p)) ∧ Below w.heap.size w w' := by
  have hk := idxL_any p l0 0 (by omega)
  have Hk := Lib.hid hk
  clear hk
  go_enter Tryd.func141, Tryd.ntmps141
  go_wp2_with ((with_reducible refine (index_calls p m cap I hI hcall A0 c0 l0 hp _ hw hr0 hc0 hl0).mono ?_); rintro e w2 ⟨rfl, hb2⟩)
  go_ret
  exact ⟨by rw [← Hk.out]; rfl, hb2⟩
def InBox (g : Nat) (A0 : Option Addr) (c0 : Nat) (l0 : List ByteArray) (A1 : Option Addr) (c1 : Nat) (l1 : List ByteArray) (a2 : Int) (A3 : Option Addr) (c3 : Nat) (l3 : List GRule) (W : World) : Prop :=
  W.heap[g]? = some (.cells #[.slice A0 l0.length c0, .slice A1 l1.length c1, .int .i64 a2, .slice A3 l3.length c3] 25 (0, 0)) ∧ Kd.C Kd.string W A0 l0.length l0 ∧ Kd.C Kd.string W A1 l1.length l1 ∧ Kd.C k32 W A3 l3.length l3
theorem InBox.below {g : Nat} {A0 : Option Addr} {c0 : Nat} {l0 : List ByteArray} {A1 : Option Addr} {c1 : Nat} {l1 : List ByteArray} {a2 : Int} {A3 : Option Addr} {c3 : Nat} {l3 : List GRule} {W W' : World}
    (h : InBox g A0 c0 l0 A1 c1 l1 a2 A3 c3 l3 W) (hb : Below W.heap.size W W') : InBox g A0 c0 l0 A1 c1 l1 a2 A3 c3 l3 W' :=
  ⟨blk_below h.1 hb, Kd.C_below h.2.1 hb, Kd.C_below h.2.2.1 hb, Kd.C_below h.2.2.2 hb⟩
theorem isTerm_f (s : Int) : gram_Sym_IsTerm.f s = some (decide (s < 0)) := rfl
theorem place_f (s : Int) (h : symOk s = true) : gram_Sym_Place.f s = some (if s < 0 then -1 - s else s) := by
  have h := of_decide_eq_true h
  unfold gram_Sym_Place.f
  rw [isTerm_f, Option.bind_some]
  by_cases hs : s < 0
  · rw [if_pos (decide_eq_true hs), if_pos hs, IntWalk.wrap64_in _ ⟨by omega, by omega⟩]
  · rw [if_neg (by rw [decide_eq_false hs]; simp), if_neg hs]
theorem has_f (l0 l1 : List ByteArray) (a2 : Int) (l3 : List GRule) (s : Int) (h : symOk s = true) : gram_Grammar_has.f l0 l1 a2 l3 s = some (hasB l0.length l1.length s) := by
  unfold gram_Grammar_has.f hasB
  rw [isTerm_f, Option.bind_some, place_f s h]
  by_cases hs : s < 0
  · rw [if_pos (decide_eq_true hs), if_pos hs, if_pos hs, Option.bind_some]
  · rw [if_neg (by rw [decide_eq_false hs]; simp), if_neg hs, if_neg hs, Option.bind_some]
set_option maxHeartbeats 1000000 in
set_option maxRecDepth 100000 in
theorem rules1_calls (g : Nat) (A0 : Option Addr) (c0 : Nat) (l0 : List ByteArray) (A1 : Option Addr) (c1 : Nat) (l1 : List ByteArray) (a2 : Int) (A3 : Option Addr) (c3 : Nat) (l3 : List GRule)
    (h0 : l0.length ≤ c0) (h1 : l1.length ≤ c1) (h3 : l3.length ≤ c3) (s : Int) (hs : symOk s = true) (w : World) (hw : InBox g A0 c0 l0 A1 c1 l1 a2 A3 c3 l3 w) :
    Calls Tryd.prog 142 #[.int .i64 s, .pointer (some ⟨g, 0, none⟩)] w fun e w' => e = .returned (.bool (!hasB l0.length l1.length s)) ∧ Below w.heap.size w w' := by
  have HF := Lib.hid (has_f l0 l1 a2 l3 s hs)
  have hu := Tryd.underlying25
  obtain ⟨hb, hr0, hr1, hr3⟩ := hw
  have hz0 : w.cell? ⟨g, 0, none⟩ = some (.slice A0 l0.length c0) := (blk_cell hb 0).trans rfl
  have hz1 : w.cell? ⟨g, 1, none⟩ = some (.slice A1 l1.length c1) := (blk_cell hb 1).trans rfl
  have hz2 : w.cell? ⟨g, 2, none⟩ = some (.int .i64 a2) := (blk_cell hb 2).trans rfl
  have hz3 : w.cell? ⟨g, 3, none⟩ = some (.slice A3 l3.length c3) := (blk_cell hb 3).trans rfl
  have Hb := Lib.hid hb
  clear hb hs
  go_enter Tryd.func142, Tryd.ntmps142
  go_wp2_with ((with_reducible refine (gram_Grammar_has.calls A0 c0 l0 A1 c1 l1 a2 A3 c3 l3 s _ _ hr0 h0 hr1 h1 hr3 h3 HF.out).mono ?_); rintro e w2 ⟨rfl, hb2⟩)
  go_ret
  exact ⟨rfl, hb2⟩
theorem itoa_f (n : Int) (h : symOk n = true) : strconv_Itoa.f n = some ⟨(Lib.itoa n).toArray⟩ := by
  have h := of_decide_eq_true h
  unfold strconv_Itoa.f
  rw [if_pos h]
theorem itoa_len' (n : Int) (h : symOk n = true) : (Lib.itoa n).length ≤ 20 := by
  have h := of_decide_eq_true h
  exact itoa_len n h.1 h.2
theorem itoa_ba (n : Int) : (⟨#[32]⟩ : ByteArray) ++ (⟨(Lib.itoa n).toArray⟩ : ByteArray) = ⟨(32 :: Lib.itoa n).toArray⟩ := by
  apply (fun {a b : ByteArray} (h : a.data.toList = b.data.toList) => show a = b by cases a; cases b; simp_all [Array.toList_inj])
  rw [Go.Joins.data_append]
  rfl
theorem bld_below {B b : Nat} {l : List UInt8} {W W' : World} (h : Hid (Lib.IsBuilderF 174 5 B b (Lib.byteCells l) W)) (hb : Below W.heap.size W W') : Hid (Lib.IsBuilderF 174 5 B b (Lib.byteCells l) W') := Lib.hid (by
  have one : ∀ p : Value, Lib.BuilderAtF 174 5 B b p (Lib.byteCells l) W → Lib.BuilderAtF 174 5 B b p (Lib.byteCells l) W' := by
    intro p hp
    have hlt := hp.lt
    obtain ⟨h1, v, h2, h3, h4⟩ := hp
    have hg : W.grownBy W' none := ⟨hb.os, hb.tape, hb.output, hb.size, fun j hj _ => hb.block j hj⟩
    refine ⟨h1, v, (hb.block b hlt).trans h2, h3.kept hg ?_, h4⟩
    by_cases e : v.ownBlock = none
    · exact .inl e
    · exact .inr e
  exact h.out.elim (fun x => .inl (one _ x)) (fun x => .inr (one _ x)))
def keyP (r : GRule) (k : Nat) : List UInt8 := Lib.itoa r.f0 ++ keyW (r.f1.take k)
theorem keyP_succ (r : GRule) (k : Nat) (h : k < r.f1.length) : keyP r (k + 1) = keyP r k ++ (32 :: Lib.itoa r.f1[k]) := by
  unfold keyP keyW
  rw [List.take_succ_eq_append_getElem h, List.flatMap_append, List.append_assoc, List.append_cancel_left_eq, List.append_cancel_left_eq]; simp
theorem keyP_len (r : GRule) (k : Nat) (h : ruleOk r = true) : (keyP r k).length ≤ 20 + 21 * k := by
  simp only [ruleOk, Bool.and_eq_true, decide_eq_true_eq] at h
  have h1 := itoa_len' r.f0 h.1.1
  have h2 := keyW_len (r.f1.take k) (fun s hs => of_decide_eq_true (List.all_eq_true.1 h.2 s (List.mem_of_mem_take hs)))
  have h3 : (r.f1.take k).length ≤ k := List.length_take_le _ _
  unfold keyP
  rw [List.length_append]; omega
set_option maxHeartbeats 4000000 in
set_option maxRecDepth 100000 in
theorem key_calls (r : GRule) (hr : ruleOk r = true) (A1 : Option Addr) (c1 : Nat) (w : World) (hG : Laid w) (hr1 : Kd.C (Kd.int .i64) w A1 r.f1.length r.f1) (hc1 : r.f1.length ≤ c1) :
    Calls Tryd.prog 144 #[.agg #[.int .i64 r.f0, .slice A1 r.f1.length c1]] w fun e w' => e = .returned (.string ⟨(keyL r).toArray⟩) ∧ Below w.heap.size w w' := by
  have hu := Tryd.underlying32
  obtain ⟨f0, l⟩ := r
  have HG := Lib.hid hG
  have HR := Lib.hid hr
  have HR2 : symOk f0 = true ∧ l.length ≤ 1000000 ∧ l.all symOk = true := by
    simp only [ruleOk, Bool.and_eq_true, decide_eq_true_eq] at hr
    exact ⟨hr.1.1, hr.1.2, hr.2⟩
  have hll := HR2.2.1
  have HS := Lib.hid HR2.2.2
  have HF0 := Lib.hid (itoa_f f0 HR2.1)
  have hil := itoa_len' f0 HR2.1
  clear hG hr HR2
  go_enter Tryd.func144, Tryd.ntmps144
  have hB0 : Below w.heap.size w ((w.alloc (.cells #[.int .i64 f0, .slice A1 l.length c1] 32)).alloc (.cells #[.pointer none, .slice none 0 0] 174)) := ((Below.refl _ w).alloc (Nat.le_refl _) _).alloc (by simp) _
  have hbox : ((w.alloc (.cells #[.int .i64 f0, .slice A1 l.length c1] 32)).alloc (.cells #[.pointer none, .slice none 0 0] 174)).heap[w.heap.size]? = some (.cells #[.int .i64 f0, .slice A1 l.length c1] 32 (0, 0)) := blk_alloc (blk_new w _) _
  have hnew : Hid (Lib.IsBuilderF 174 5 (w.heap.size + 1) (w.heap.size + 1) (Lib.byteCells []) ((w.alloc (.cells #[.int .i64 f0, .slice A1 l.length c1] 32)).alloc (.cells #[.pointer none, .slice none 0 0] 174))) := Lib.hid (by
    have := (bnew (w.alloc (.cells #[.int .i64 f0, .slice A1 l.length c1] 32))).out
    rwa [show (w.alloc (.cells #[.int .i64 f0, .slice A1 l.length c1] 32)).heap.size = w.heap.size + 1 by simp] at this)
  have HB0 := Lib.hid hB0
  have HBX := Lib.hid hbox
  clear hB0 hbox
  go_wp2_with (go_at_call 139; (with_reducible refine (strconv_Itoa.calls f0 _ _ (Laid.below HG.out HB0.out) HF0.out).mono ?_); rintro e w1 ⟨rfl, hb1⟩)
  have hb01 : Below w.heap.size w w1 := HB0.out.trans (hb1.mono HB0.out.size)
  have hs1 : w.heap.size + 1 ≤ w1.heap.size := by have := hb1.size; simp at this; omega
  have hn1 := bld_below hnew hb1
  have HBX1 := Lib.hid (blk_below HBX.out hb1)
  clear hb1 hnew HBX
  refine (ws (Lib.itoa f0) hn1 (by simp; omega) hs1).mono ?_
  rintro e w2 ⟨rfl, hn2, hb2⟩
  have hB2 : Below w.heap.size w w2 := hb01.trans (hb2.mono (Nat.le_succ _))
  have hs2 : w.heap.size + 1 ≤ w2.heap.size := Nat.le_trans hs1 hb2.size
  have HBX2 := Lib.hid (show w2.heap[w.heap.size]? = some (.cells #[.int .i64 f0, .slice A1 l.length c1] 32 (0, 0)) from (hb2.block _ (Nat.lt_succ_self _)).trans HBX1.out)
  have hz0 : w2.cell? ⟨w.heap.size, 0, none⟩ = some (.int .i64 f0) := (blk_cell HBX2.out 0).trans rfl
  have hz1 : w2.cell? ⟨w.heap.size, 1, none⟩ = some (.slice A1 l.length c1) := (blk_cell HBX2.out 1).trans rfl
  clear hb01 hs1 hn1 HBX1 hb2
  go_wp2
  go_loopw [5, 13] (fun _ i wr => ∃ k : Nat, k ≤ l.length ∧ i = .int .i64 k ∧ Hid (Lib.IsBuilderF 174 5 (w.heap.size + 1) (w.heap.size + 1) (Lib.byteCells (keyP ⟨f0, l⟩ k)) wr) ∧ Below w.heap.size w wr ∧ w.heap.size + 1 ≤ wr.heap.size) (fun _ i _ => l.length - (intOf i).toNat)
  case atStart => exact ⟨0, Nat.zero_le _, rfl, by rw [List.nil_append] at hn2; simpa [keyP, keyW] using hn2, hB2, hs2⟩
  case round =>
    obtain ⟨k, hk, rfl, hI, hB, hs⟩ := hrel
    have hl := keyP_len ⟨f0, l⟩ k HR.out
    by_cases hlt : k < l.length
    · obtain ⟨ad, e0, hx⟩ := Kd.at_int hr1 (k : Int) (by omega) (by omega)
      subst e0
      obtain ⟨s, hsk⟩ : ∃ s, s = l[k] := ⟨_, rfl⟩
      have hrd : Go.Proofs.YtmdjmbdeeodehaaDoorW.PrintWords.rd l (k : Int) = s := by rw [hsk, Go.Proofs.YtmdjmbdeeodehaaDoorW.PrintWords.rd, Int.toNat_natCast, List.getD_eq_getElem?_getD, List.getElem?_eq_getElem hlt]; rfl
      rw [hrd, Int.toNat_natCast] at hx
      have hx2 : wr.cell? (ad.add k) = some (.int .i64 s) := (hB.cell (blk_lt_ hx)).trans hx
      have hso : symOk s = true := List.all_eq_true.1 HS.out s (by rw [hsk]; exact List.getElem_mem _)
      have HF := Lib.hid (itoa_f s hso)
      have his := itoa_len' s hso
      have HK := Lib.hid (show keyP ⟨f0, l⟩ (k + 1) = keyP ⟨f0, l⟩ k ++ (32 :: Lib.itoa s) by rw [hsk]; exact keyP_succ ⟨f0, l⟩ k hlt)
      clear hrd hso hsk hx hn2 hz0 hz1
      go_wp2_with (go_at_call 139; (with_reducible refine (strconv_Itoa.calls s _ _ (Laid.below HG.out hB) HF.out).mono ?_); rintro e w3 ⟨rfl, hb3⟩)
      rw [itoa_ba]
      refine (ws (32 :: Lib.itoa s) (bld_below hI hb3) (by simp only [List.length_cons]; omega) (Nat.le_trans hs hb3.size)).mono ?_
      rintro e w4 ⟨rfl, hn4, hb4⟩
      have hB3 : Below w.heap.size w w3 := hB.trans (hb3.mono hB.size)
      have hB4 : Below w.heap.size w w4 := hB3.trans (hb4.mono (Nat.le_succ _))
      have hs4 : w.heap.size + 1 ≤ w4.heap.size := Nat.le_trans (Nat.le_trans hs hb3.size) hb4.size
      have hn5 : Hid (Lib.IsBuilderF 174 5 (w.heap.size + 1) (w.heap.size + 1) (Lib.byteCells (keyP ⟨f0, l⟩ (k + 1))) w4) := by rw [HK.out]; exact hn4
      clear hb3 hb4 hI hn4 hB3 hB hs HK hx2
      go_wp2
      go_roundw
      case rel => exact ⟨k + 1, by omega, by go_num, hn5, hB4, hs4⟩
      case measure => simp [intOf]; omega
    · obtain rfl : k = l.length := by omega
      go_wp2_with ((go_at_call 118; (with_reducible refine (bs_ hI hs).mono ?_); rintro e w3 ⟨rfl, hb3⟩))
      go_ret
      have hq : keyL ⟨f0, l⟩ = keyP ⟨f0, l⟩ l.length := by unfold keyL keyP; rw [List.take_length]
      exact ⟨by rw [hq]; rfl, hB.trans (hb3.mono (Nat.le_succ _))⟩
end Go.Proofs.YtmdjmbdeeodehaaDoor.G
end
section
set_option linter.unusedVariables false
set_option linter.unusedSimpArgs false
namespace Go.Proofs.YtmdjmbdeeodehaaDoor.G
open Go Go.Proofs Go.RowKit Go.Maps Go.WideMaps Go.Proofs.YtmdjmbdeeodehaaDoorW.PrintWords
def kb (r : GRule) : ByteArray := ⟨(keyL r).toArray⟩
theorem kb_inj {r s : GRule} (h : kb r = kb s) : r = s := keyL_inj (by
  have := congrArg (fun x : ByteArray => x.data.toList) h
  simpa [kb] using this)
theorem kb_mem (r : GRule) (l : List GRule) : 0 < cntS (kb r) (l.map kb) ↔ keyL r ∈ l.map keyL := by
  unfold cntS
  rw [List.countP_pos_iff]
  constructor
  · rintro ⟨x, hx, e⟩
    obtain ⟨s, hs, rfl⟩ := List.mem_map.1 hx
    rw [← kb_inj (of_decide_eq_true e)]
    exact List.mem_map_of_mem hs
  · intro h
    obtain ⟨s, hs, e⟩ := List.mem_map.1 h
    rw [← keyL_inj e]
    exact ⟨_, List.mem_map_of_mem hs, by simp⟩
theorem key_calls' (r : GRule) (hr : ruleOk r = true) (A1 : Option Addr) (c1 : Nat) (w : World) (hG : Laid w) (hr1 : Kd.C (Kd.int .i64) w A1 r.f1.length r.f1) (hc1 : r.f1.length ≤ c1) :
    Calls Tryd.prog 144 #[.agg #[.int .i64 r.f0, .slice A1 r.f1.length c1]] w fun e w' => e = .returned (.string (kb r)) ∧ Below w.heap.size w w' := key_calls r hr A1 c1 w hG hr1 hc1
theorem enters155 (a x : Value) (W : World) : Sem.run Tryd.prog (callFunc 142 #[a, x]) W = .ok (.enter 142 #[a, x]) W := by kernel_rfl
set_option maxHeartbeats 4000000 in
set_option maxRecDepth 100000 in
theorem rules_calls (A0 : Option Addr) (c0 : Nat) (l0 : List ByteArray) (A1 : Option Addr) (c1 : Nat) (l1 : List ByteArray) (a2 : Int) (A3 : Option Addr) (c3 : Nat) (l3 : List GRule)
    (h0 : l0.length ≤ c0) (h1 : l1.length ≤ c1) (h3 : l3.length ≤ c3) (hn : l3.length ≤ 1000000) (hm0 : l0.length ≤ 1000000) (hok : l3.all ruleOk = true) (w : World) (hG : Laid w) (hr0 : Kd.C Kd.string w A0 l0.length l0) (hr1 : Kd.C Kd.string w A1 l1.length l1) (hr3 : Kd.C k32 w A3 l3.length l3) :
    Calls Tryd.prog 95 #[.agg #[.slice A0 l0.length c0, .slice A1 l1.length c1, .int .i64 a2, .slice A3 l3.length c3]] w fun e w' => e = .returned (.int .i64 (rulesC l0.length l1.length l3)) ∧ Below w.heap.size w w' := by
  have hmm := @run_makeMap Tryd.prog
  have hu := Tryd.underlying25
  have hu2 := Tryd.underlying32
  have HR := Lib.hid (rulG_eq l0.length l1.length l3)
  have HG := Lib.hid hG
  have HOK := Lib.hid hok
  obtain ⟨res, hres⟩ : ∃ res, rulesC l0.length l1.length l3 = res := ⟨_, rfl⟩
  rw [hres] at HR
  have HRES := Lib.hid hres
  clear hG hok hres
  have hbx : InBox w.heap.size A0 c0 l0 A1 c1 l1 a2 A3 c3 l3 ((w.alloc (.cells #[.slice A0 l0.length c0, .slice A1 l1.length c1, .int .i64 a2, .slice A3 l3.length c3] 25)).alloc (.map #[] 0)) :=
    InBox.below (W := w.alloc (.cells #[.slice A0 l0.length c0, .slice A1 l1.length c1, .int .i64 a2, .slice A3 l3.length c3] 25)) ⟨blk_new w _, Kd.C_alloc hr0 _, Kd.C_alloc hr1 _, Kd.C_alloc hr3 _⟩ ((Below.refl _ _).alloc (Nat.le_refl _) _)
  have HBX := Lib.hid hbx
  clear hbx
  go_enter Tryd.func95, Tryd.ntmps95
  go_wp2
  go_loopw [4, 11] (fun t i wr => ∃ (k : Nat) (tw : Int) (D : D0), k ≤ l3.length ∧ i = .int .i64 k ∧ t = .int .i64 tw ∧ Hid (rulG l0.length l1.length (l3.drop k) ((l3.take k).map keyL) tw = res) ∧ Hid (wr.ownsMap Tryd.prog 9 (plainElem Tryd.prog 3) (w.heap.size + 1) k D) ∧ Hid (Seen D ((l3.take k).map kb)) ∧ Hid (InBox w.heap.size A0 c0 l0 A1 c1 l1 a2 A3 c3 l3 wr) ∧ Below w.heap.size w wr) (fun _ i _ => l3.length - (intOf i).toNat)
  case atStart =>
    refine ⟨0, 0, .map [], Nat.zero_le _, rfl, rfl, HR, Lib.hid ?_, Lib.hid (by simpa using seen_nil), HBX, ?_⟩
    · have := World.ownsMap_made (w.alloc (.cells #[.slice A0 l0.length c0, .slice A1 l1.length c1, .int .i64 a2, .slice A3 l3.length c3] 25)) Tryd.prog 9 (plainElem (H := Unit) Tryd.prog 3)
      simpa using this
    · exact ((Below.refl _ w).alloc (Nat.le_refl _) _).alloc (by simp) _
  case round =>
    obtain ⟨k, tw, D, hk, rfl, rfl, hT, hM, hS, hI, hB⟩ := hrel
    clear HR HBX
    have hMlt := hM.out.lt
    by_cases hlt : k < l3.length
    · obtain ⟨ad, A5, c5, e0, hx0, hx1, hc5, hr5⟩ := at_T32 hr3 (k : Int) (by omega) (by omega)
      subst e0
      obtain ⟨r, hrk⟩ : ∃ r, r = l3[k] := ⟨_, rfl⟩
      have hrd : rd_T32 l3 (k : Int) = r := by rw [hrk, rd_T32, Int.toNat_natCast, List.getD_eq_getElem?_getD, List.getElem?_eq_getElem hlt]; rfl
      rw [hrd] at hx0 hx1 hc5 hr5
      rw [Int.toNat_natCast] at hx0 hx1
      have hy0 : wr.cell? (ad.add (k * 2)) = some (.int .i64 r.f0) := (hB.cell (blk_lt_ hx0)).trans hx0
      have hy1 : wr.cell? ⟨(ad.add (k * 2)).block, (ad.add (k * 2)).off + 1, none⟩ = some (.slice A5 r.f1.length c5) := (hB.cell (blk_lt_ hx1)).trans hx1
      have hro : ruleOk r = true := List.all_eq_true.1 HOK.out r (by rw [hrk]; exact List.getElem_mem _)
      have HRO := Lib.hid hro
      have hlen : r.f1.length ≤ 1000000 := by
        have := hro
        simp only [ruleOk, Bool.and_eq_true, decide_eq_true_eq] at this
        exact this.1.2
      have hT2 := hT.out
      rw [List.drop_eq_getElem_cons hlt, ← hrk, rulG] at hT2
      have hr5' : Kd.C (Kd.int .i64) wr A5 r.f1.length r.f1 := Kd.C_below hr5 hB
      have htake : Hid ((l3.take k).map kb ++ [kb r] = (l3.take (k + 1)).map kb) := Lib.hid (by rw [List.take_succ_eq_append_getElem hlt, List.map_append, hrk]; rfl)
      have htake2 : Hid ((l3.take k).map keyL ++ [keyL r] = (l3.take (k + 1)).map keyL) := Lib.hid (by rw [List.take_succ_eq_append_getElem hlt, List.map_append, hrk]; rfl)
      have hz0 : (wr.alloc (.cells #[.int .i64 r.f0, .slice A5 r.f1.length c5] 32)).cell? ⟨w.heap.size, 0, none⟩ = some (.slice A0 l0.length c0) := (blk_cell (blk_alloc hI.out.1 _) 0).trans rfl
      have hz1 : (wr.alloc (.cells #[.int .i64 r.f0, .slice A5 r.f1.length c5] 32)).cell? ⟨w.heap.size, 1, none⟩ = some (.slice A1 l1.length c1) := (blk_cell (blk_alloc hI.out.1 _) 1).trans rfl
      have hz2 : (wr.alloc (.cells #[.int .i64 r.f0, .slice A5 r.f1.length c5] 32)).cell? ⟨w.heap.size, 2, none⟩ = some (.int .i64 a2) := (blk_cell (blk_alloc hI.out.1 _) 2).trans rfl
      have hz3 : (wr.alloc (.cells #[.int .i64 r.f0, .slice A5 r.f1.length c5] 32)).cell? ⟨w.heap.size, 3, none⟩ = some (.slice (some ad) l3.length c3) := (blk_cell (blk_alloc hI.out.1 _) 3).trans rfl
      have hz0' := Lib.hid hz0
      have HR5 := Lib.hid hr5
      clear hT hro hrd hrk hx0 hx1 hr5
      by_cases g1 : r.f0 < 0
      · have hres : res = 3 := by
          have e : ruleC l0.length l1.length r = 3 := by unfold ruleC; rw [if_pos (.inl g1)]
          rw [e, if_neg (by decide)] at hT2; exact hT2.symm
        subst hres
        clear hT2
        go_wp2
        go_ret
        exact ⟨by rw [HRES.out]; rfl, hB.alloc hB.size _⟩
      have g1b : decide (r.f0 < 0) = false := decide_eq_false g1
      by_cases g2 : (l0.length : Int) ≤ r.f0
      · have hres : res = 3 := by
          have e : ruleC l0.length l1.length r = 3 := by unfold ruleC; rw [if_pos (.inr (.inl g2))]
          rw [e, if_neg (by decide)] at hT2; exact hT2.symm
        subst hres
        clear hT2
        have g2b : decide ((l0.length : Int) ≤ r.f0) = true := decide_eq_true g2
        go_wp2
        go_ret
        exact ⟨by rw [HRES.out]; rfl, hB.alloc hB.size _⟩
      have g2b : decide ((l0.length : Int) ≤ r.f0) = false := decide_eq_false g2
      have hB1 : Below wr.heap.size wr (wr.alloc (.cells #[.int .i64 r.f0, .slice A5 r.f1.length c5] 32)) := (Below.refl _ _).alloc (Nat.le_refl _) _
      have hI1 := hI.out.below hB1
      have hr6 := Kd.C_below hr5' hB1
      have hbr := blk_new wr (.cells #[.int .i64 r.f0, .slice A5 r.f1.length c5] 32)
      have hsyms : ∀ x ∈ r.f1, symOk x = true := fun x hx => by
        have := HRO.out
        simp only [ruleOk, Bool.and_eq_true, decide_eq_true_eq] at this
        exact List.all_eq_true.1 this.2 x hx
      have HBR := Lib.hid hbr
      have HI1 := Lib.hid hI1
      have HB1 := Lib.hid hB1
      have HSY := Lib.hid hsyms
      clear hbr hI1 hB1 hsyms
      have con : ∀ bad, r.f1.any (fun x => !hasB l0.length l1.length x) = bad → Calls Tryd.prog 141 #[.slice A5 r.f1.length c5, .func (.func 142) #[] #[.pointer (some ⟨w.heap.size, 0, none⟩)]] (wr.alloc (.cells #[.int .i64 r.f0, .slice A5 r.f1.length c5] 32)) fun e w' => e = .returned (.bool bad) ∧ Below (wr.heap.size + 1) (wr.alloc (.cells #[.int .i64 r.f0, .slice A5 r.f1.length c5] 32)) w' := by
        intro bad hbad
        have := contains_calls (fun x => !hasB l0.length l1.length x) 142 #[.pointer (some ⟨w.heap.size, 0, none⟩)] (InBox w.heap.size A0 c0 l0 A1 c1 l1 a2 (some ad) c3 l3) (fun _ _ h hb => h.below hb) (fun x W => enters155 _ _ W) A5 c5 r.f1 (fun x hx W hW => rules1_calls w.heap.size A0 c0 l0 A1 c1 l1 a2 (some ad) c3 l3 h0 h1 h3 x (HSY.out x hx) W hW) _ HI1.out hr6 hc5 hlen
        rw [hbad, show (wr.alloc (.cells #[.int .i64 r.f0, .slice A5 r.f1.length c5] 32)).heap.size = wr.heap.size + 1 by simp] at this
        exact this
      by_cases g3 : r.f1.any (fun x => !hasB l0.length l1.length x) = true
      · have hres : res = 3 := by
          have e : ruleC l0.length l1.length r = 3 := by
            unfold ruleC; refine if_pos (.inr (.inr fun h => ?_))
            obtain ⟨x, hx, hb⟩ := List.any_eq_true.1 g3
            rw [List.all_eq_true.1 h x hx] at hb
            cases hb
          rw [e, if_neg (by decide)] at hT2; exact hT2.symm
        subst hres
        have hc := con true g3
        have HC := Lib.hid hc
        clear hT2 con g3 hc
        go_wp2_with ((with_reducible refine HC.out.mono ?_); rintro e w2 ⟨rfl, hb2⟩)
        go_ret
        exact ⟨by rw [HRES.out]; rfl, (hB.alloc hB.size _).trans (hb2.mono (Nat.le_succ_of_le hB.size))⟩
      have g3' : r.f1.any (fun x => !hasB l0.length l1.length x) = false := by simpa using g3
      have hall : r.f1.all (hasB l0.length l1.length) = true := by
        rw [List.all_eq_true]
        intro x hx
        rw [List.any_eq_false] at g3'
        simpa using g3' x hx
      have hc := con false g3'
      have HC := Lib.hid hc
      clear con g3 g3' hc
      by_cases g4 : 64 < r.f1.length
      · have hres : res = 5 := by
          have e : ruleC l0.length l1.length r = 5 := by
            unfold ruleC; rw [if_neg (fun h => h.elim g1 (fun h => h.elim g2 (fun h => h hall))), if_pos g4]
          rw [e, if_neg (by decide)] at hT2; exact hT2.symm
        subst hres
        clear hT2 hall
        go_wp2_with ((with_reducible refine HC.out.mono ?_); rintro e w2 ⟨rfl, hb2⟩; have hv0 : w2.cell? ⟨wr.heap.size, 0, none⟩ = some (.int .i64 r.f0) := (blk_cell ((hb2.block _ (Nat.lt_succ_self _)).trans HBR.out) 0).trans rfl; have hv1 : w2.cell? ⟨wr.heap.size, 1, none⟩ = some (.slice A5 r.f1.length c5) := (blk_cell ((hb2.block _ (Nat.lt_succ_self _)).trans HBR.out) 1).trans rfl)
        go_ret
        exact ⟨by rw [HRES.out]; rfl, (hB.alloc hB.size _).trans (hb2.mono (Nat.le_succ_of_le hB.size))⟩
      have e : ruleC l0.length l1.length r = 0 := by
        unfold ruleC; rw [if_neg (fun h => h.elim g1 (fun h => h.elim g2 (fun h => h hall))), if_neg g4]
      rw [e, if_pos rfl, htake2.out] at hT2
      have HT2 := Lib.hid hT2
      have hsz : (kb r).size ≤ maxLen := by
        have h1 := keyP_len r r.f1.length HRO.out
        have h2 : keyP r r.f1.length = keyL r := by unfold keyP keyL; rw [List.take_length]
        rw [h2] at h1
        have h3 : (kb r).size = (keyL r).length := by show (keyL r).toArray.size = _; simp
        rw [h3]; unfold maxLen; omega
      have hkey : keyOf Tryd.prog 9 (.string (kb r)) = some (.string (kb r).data.toList) := keyOf_string_mk Tryd.underlying9 hsz
      have HKEY := Lib.hid hkey
      have g4b : decide (64 < r.f1.length) = false := decide_eq_false g4
      clear hT2 hall e htake2 hsz hkey
      go_wp2_with ((with_reducible refine HC.out.mono ?_); rintro e w2 ⟨rfl, hb2⟩; have hv0 : w2.cell? ⟨wr.heap.size, 0, none⟩ = some (.int .i64 r.f0) := (blk_cell ((hb2.block _ (Nat.lt_succ_self _)).trans HBR.out) 0).trans rfl; have hv1 : w2.cell? ⟨wr.heap.size, 1, none⟩ = some (.slice A5 r.f1.length c5) := (blk_cell ((hb2.block _ (Nat.lt_succ_self _)).trans HBR.out) 1).trans rfl)
      have hB2 : Below wr.heap.size wr w2 := HB1.out.trans (hb2.mono (Nat.le_succ _))
      have hBw : w.heap.size ≤ wr.heap.size := hB.size
      have hBW2 : Below w.heap.size w w2 := hB.trans (hB2.mono hBw)
      have HBR2 := Lib.hid (show w2.heap[wr.heap.size]? = some (.cells #[.int .i64 r.f0, .slice A5 r.f1.length c5] 32 (0, 0)) from (hb2.block _ (Nat.lt_succ_self _)).trans HBR.out)
      have HI2 := Lib.hid (hI.out.below hB2)
      have hM2 := own_below hB2 hM.out
      have hr7 := Kd.C_below hr5' hB2
      clear hb2 hr5' hr6 hM HI1 hI HBR HC hz0 hz1 hz2 hz3 hz0' hy0 hy1 hv0 hv1
      refine (key_calls' r HRO.out A5 c5 w2 (Laid.below HG.out hBW2) hr7 hc5).mono ?_
      rintro e w3 ⟨rfl, hb3⟩
      go_wp2_with fail
      have hBW3 : Below w.heap.size w w3 := hBW2.trans (hb3.mono hBW2.size)
      have hM3 := own_below hb3 hM2
      have HI3 := Lib.hid (HI2.out.below hb3)
      have HBR3 := Lib.hid (blk_below HBR2.out hb3)
      have hr8 := Kd.C_below hr7 hb3
      obtain ⟨c, hrun, hat, _⟩ := hM3.lookup_int mapLaw Tryd.underlying144 Tryd.underlying3 (zero3 _) HKEY.out
      have hc : c = (cntS (kb r) ((l3.take k).map kb) : Int) := by rw [hS.out.2 (kb r)] at hat; injection hat with e1; injection e1 with _ e2; exact e2.symm
      have hcl : cntS (kb r) ((l3.take k).map kb) ≤ k := Nat.le_trans (List.countP_le_length ..) (by rw [List.length_map, List.length_take]; omega)
      obtain ⟨n, hn2⟩ : ∃ n : Nat, cntS (kb r) ((l3.take k).map kb) = n := ⟨_, rfl⟩
      have HN := Lib.hid hn2
      rw [hn2] at hc hcl
      subst hc
      clear hat hn2 hM2 hb3 HI2 HBR2 hr7
      have hw : wrap64 ((n : Int) + 1) = ((n + 1 : Nat) : Int) := by rw [IntWalk.wrap64_in _ (by omega)]; omega
      have hwf : (Lit.int .i64 ((n + 1 : Nat) : Int)).wf = true := by rw [← hw]; exact wrap64_wf _
      have hbm : w.heap.size + 1 < wr.heap.size := hMlt
      have hkm : k < maxLen := Nat.lt_of_lt_of_le (Nat.lt_of_lt_of_le hlt hn) (by decide)
      have HBW3 := Lib.hid hBW3
      clear hw hBW2 hB2 hBw
      rw [hrun]
      clear hrun
      go_wp2_with (at_mapUpdate; refine wpList_mapUpdate_own _ rfl _ _ _ 144 rfl 9 3 mapLaw Tryd.underlying144 _ (w.heap.size + 1) k _ rfl hM3 hkm _ _ _ rfl rfl HKEY.out _ [] (plainElem_int Tryd.underlying3 hwf) ?_; intro w4 hM4 hg4; have hv0 : w4.cell? ⟨wr.heap.size, 0, none⟩ = some (.int .i64 r.f0) := (blk_cell (blk_grown HBR3.out hg4 (by intro e; injection e with e; have := (Lib.hid hbm).out; omega)) 0).trans rfl; have hv1 : w4.cell? ⟨wr.heap.size, 1, none⟩ = some (.slice A5 r.f1.length c5) := (blk_cell (blk_grown HBR3.out hg4 (by intro e; injection e with e; have := (Lib.hid hbm).out; omega)) 1).trans rfl)
      have hBW4 : Below w.heap.size w w4 := HBW3.out.grown hg4 HBW3.out.size (fun j hj => by cases hj; exact Nat.le_succ _)
      have hI4 : InBox w.heap.size A0 c0 l0 A1 c1 l1 a2 (some ad) c3 l3 w4 := ⟨blk_grown HI3.out.1 hg4 (by intro e; injection e with e; omega), Kd.C_below hr0 hBW4, Kd.C_below hr1 hBW4, Kd.C_below hr3 hBW4⟩
      have hr9 := Kd.C_below HR5.out hBW4
      have HI4 := Lib.hid hI4
      have HBW4 := Lib.hid hBW4
      clear hv0 hv1 hI4 hg4 hM3 HI3 HBW3 HBR3 hr8 hBW4
      refine (key_calls' r HRO.out A5 c5 w4 (Laid.below HG.out HBW4.out) hr9 hc5).mono ?_
      rintro e w5 ⟨rfl, hb5⟩
      go_wp2_with fail
      have hM5 := own_below hb5 hM4
      have HI5 := Lib.hid (HI4.out.below hb5)
      have HBW5 := Lib.hid (HBW4.out.trans (hb5.mono HBW4.out.size))
      obtain ⟨c2, hrun2, hat2, _⟩ := hM5.lookup_int mapLaw Tryd.underlying144 Tryd.underlying3 (zero3 _) HKEY.out
      have hc2 : c2 = ((n : Int) + 1) := by
        have h5 := (atKey_put_same hS.out.1 (k := .string (kb r).data.toList) trivial _ _).symm.trans hat2
        simp only [DataW.lit.injEq, Lit.int.injEq, true_and] at h5
        exact h5.symm
      subst hc2
      have hS5 : Hid (Seen (D.put (.string (kb r).data.toList) (.lit (.int .i64 ((n : Int) + 1)))) ((l3.take (k + 1)).map kb)) := Lib.hid (by
        have := seen_put hS.out (kb r)
        rw [HN.out, htake.out] at this
        exact this)
      have hif : (keyL r ∈ (l3.take k).map keyL) ↔ 0 < n := by rw [← HN.out]; exact (kb_mem r _).symm
      have HIF := Lib.hid hif
      have HM5 := Lib.hid hM5
      clear hat2 hM5 hM4 hS hb5 HI4 HBW4 HN htake hif hwf
      rw [hrun2]
      clear hrun2
      by_cases hp : 0 < n
      · have e1 : decide ((1 : Int) < (n : Int) + 1) = true := decide_eq_true (by omega)
        have hT3 := HT2.out
        rw [if_pos (HIF.out.2 hp)] at hT3
        have HT3 := Lib.hid hT3
        clear hT3 HT2 HIF
        go_wp2
        go_roundw
        case rel => exact ⟨k + 1, 2, _, by omega, by go_num, rfl, HT3, HM5, hS5, HI5, HBW5.out⟩
        case measure => simp [intOf]; omega
      · have e1 : decide ((1 : Int) < (n : Int) + 1) = false := decide_eq_false (by omega)
        have hT3 := HT2.out
        rw [if_neg (fun h => hp (HIF.out.1 h))] at hT3
        have HT3 := Lib.hid hT3
        clear hT3 HT2 HIF
        go_wp2
        go_roundw
        case rel => exact ⟨k + 1, tw, _, by omega, by go_num, rfl, HT3, HM5, hS5, HI5, HBW5.out⟩
        case measure => simp [intOf]; omega
    · obtain rfl : k = l3.length := by omega
      have hT2 := hT.out
      rw [List.drop_length, rulG] at hT2
      subst hT2
      go_wp2
      go_ret
      exact ⟨by rw [HRES.out]; rfl, hB⟩
end Go.Proofs.YtmdjmbdeeodehaaDoor.G
end
section
namespace Go.Proofs.YtmdjmbdeeodehaaDoor.G
open Go.RowKit Go.Proofs.YtmdjmbdeeodehaaDoorW.PrintWords Go.Proofs.YtmdjmbdeeodehaaDoorW.PrintLast Go.Proofs.YtmdjmbdeeodehaaDoorW.PrintMore
attribute [local go_sem] max2_int min2_int max_two min_two max_three min_three max_four min_four
attribute [local go_sem] Go.Proofs.YtmdjmbdeeodehaaDoorOwn.isSome_setCell
set_option linter.unusedVariables false
set_option linter.unusedSimpArgs false
def wickerref01_letter.f (a0 : Int) : Option (Bool) := if a0 ≥ 65 then (if a0 ≤ 90 then (some true) else (if a0 ≥ 97 then (some (decide (a0 ≤ 122))) else (some false))) else (if a0 ≥ 97 then (some (decide (a0 ≤ 122))) else (some false))
set_option maxHeartbeats 8000000 in
set_option maxRecDepth 100000 in
theorem wickerref01_letter.calls (a0 : Int) (r : Bool) (w : World) (h : wickerref01_letter.f a0 = some r) :
  Calls Tryd.prog 160 #[.int .u8 a0] w fun e w' => e = .returned (.bool r) ∧ Drawn0 w w' := by
 have H : (if a0 ≥ 65 then (if a0 ≤ 90 then (some true) else (if a0 ≥ 97 then (some (decide (a0 ≤ 122))) else (some false))) else (if a0 ≥ 97 then (some (decide (a0 ≤ 122))) else (some false))) = some r := h
 clear h
 by_cases c2 : a0 ≥ 65
 ·rw [if_pos c2] at H
  have c2b0 : decide (65 ≤ a0) = true := decide_eq_true c2
  clear c2
  by_cases c3 : a0 ≤ 90
  ·rw [if_pos c3] at H
   have c3b0 : decide (a0 ≤ 90) = true := decide_eq_true c3
   clear c3
   obtain rfl := Option.some.inj H
   go_enter Tryd.func160, Tryd.ntmps160
   go_wp2
   go_ret
   exact ⟨by first | rfl | (simp; done) | (simp [*]; done) | (exfalso; simp only [beq_iff_eq] at *; omega), by repeat (first | exact Drawn0.refl _ | apply Drawn0.step)⟩
  ·rw [if_neg c3] at H
   have c3b0 : decide (a0 ≤ 90) = false := decide_eq_false c3
   clear c3
   by_cases c4 : a0 ≥ 97
   ·rw [if_pos c4] at H
    have c4b0 : decide (97 ≤ a0) = true := decide_eq_true c4
    clear c4
    obtain rfl := Option.some.inj H
    go_enter Tryd.func160, Tryd.ntmps160
    go_wp2
    go_ret
    exact ⟨by first | rfl | (simp; done) | (simp [*]; done) | (exfalso; simp only [beq_iff_eq] at *; omega), by repeat (first | exact Drawn0.refl _ | apply Drawn0.step)⟩
   ·rw [if_neg c4] at H
    have c4b0 : decide (97 ≤ a0) = false := decide_eq_false c4
    clear c4
    obtain rfl := Option.some.inj H
    go_enter Tryd.func160, Tryd.ntmps160
    go_wp2
    go_ret
    exact ⟨by first | rfl | (simp; done) | (simp [*]; done) | (exfalso; simp only [beq_iff_eq] at *; omega), by repeat (first | exact Drawn0.refl _ | apply Drawn0.step)⟩
 ·rw [if_neg c2] at H
  have c2b0 : decide (65 ≤ a0) = false := decide_eq_false c2
  clear c2
  by_cases c5 : a0 ≥ 97
  ·rw [if_pos c5] at H
   have c5b0 : decide (97 ≤ a0) = true := decide_eq_true c5
   clear c5
   obtain rfl := Option.some.inj H
   go_enter Tryd.func160, Tryd.ntmps160
   go_wp2
   go_ret
   exact ⟨by first | rfl | (simp; done) | (simp [*]; done) | (exfalso; simp only [beq_iff_eq] at *; omega), by repeat (first | exact Drawn0.refl _ | apply Drawn0.step)⟩
  ·rw [if_neg c5] at H
   have c5b0 : decide (97 ≤ a0) = false := decide_eq_false c5
   clear c5
   obtain rfl := Option.some.inj H
   go_enter Tryd.func160, Tryd.ntmps160
   go_wp2
   go_ret
   exact ⟨by first | rfl | (simp; done) | (simp [*]; done) | (exfalso; simp only [beq_iff_eq] at *; omega), by repeat (first | exact Drawn0.refl _ | apply Drawn0.step)⟩
mutual
def wickerref01_Name.j0 : Nat → ByteArray → Bool → Option (Bool)
 | 0, _, _ => none
 | k + 1, x0, x17 => if x17 = true then (some false) else (wickerref01_Name.l0 k x0 1)
def wickerref01_Name.l0 : Nat → ByteArray → Int → Option (Bool)
 | 0, _, _ => none
 | k + 1, x0, x3 => if x3 < (x0.size : Int) then (if 0 ≤ x3 then ((wickerref01_letter.f (bt x0 x3)).bind fun t102 => (if t102 = true then (wickerref01_Name.l0 k x0 (wrap64 (x3 + 1))) else (if (bt x0 x3) ≥ 48 then (if ((bt x0 x3) ≤ 57) then (wickerref01_Name.l0 k x0 (wrap64 (x3 + 1))) else (if (bt x0 x3) = 45 then (wickerref01_Name.l0 k x0 (wrap64 (x3 + 1))) else (some false))) else (if (bt x0 x3) = 45 then (wickerref01_Name.l0 k x0 (wrap64 (x3 + 1))) else (some false))))) else (none)) else (some true)
end
def wickerref01_Name.f (k : Nat) (a0 : ByteArray) : Option (Bool) := if (a0.size : Int) < 1 then (wickerref01_Name.j0 k a0 true) else (if (a0.size : Int) > 64 then (wickerref01_Name.j0 k a0 true) else (if 0 < (a0.size : Int) then ((wickerref01_letter.f (bt a0 0)).bind fun t101 => (wickerref01_Name.j0 k a0 (!t101))) else (none)))
set_option maxHeartbeats 8000000 in
set_option maxRecDepth 100000 in
theorem wickerref01_Name.calls (k : Nat) (a0 : ByteArray) (r : Bool) (w : World) (h : wickerref01_Name.f k a0 = some r) :
  Calls Tryd.prog 133 #[.string a0] w fun e w' => e = .returned (.bool r) ∧ Drawn0 w w' := by
 have H : (if (a0.size : Int) < 1 then (wickerref01_Name.j0 k a0 true) else (if (a0.size : Int) > 64 then (wickerref01_Name.j0 k a0 true) else (if 0 < (a0.size : Int) then ((wickerref01_letter.f (bt a0 0)).bind fun t101 => (wickerref01_Name.j0 k a0 (!t101))) else (none)))) = some r := h
 clear h
 have HC2 := Aside0.mk H
 clear H
 go_enter Tryd.func133, Tryd.ntmps133
 go_upto_region 1 with (fail)
 go_cut [17] (fun v17 wc => ∃ (kq : Nat) (x17_1 : Bool), v17 = .bool x17_1 ∧ Aside0 (wickerref01_Name.j0 kq a0 x17_1 = some r) ∧ Aside0 (kq ≤ k) ∧ Drawn0 w wc)
 case first =>
  have H := HC2.out
  clear HC2
  by_cases c3 : (a0.size : Int) < 1
  ·rw [if_pos c3] at H
   have c3b0 : decide ((a0.size : Int) < 1) = true := decide_eq_true c3
   have c3b1 : decide (a0.size < 1) = true := decide_eq_true (by omega)
   clear c3
   (first | rw [c3b0] | (simp only [i64_w, i32_w]; rw [c3b0]) | skip)
   have H' := Aside0.mk H
   clear H
   go_wp2
   go_meet
   case rel => exact ⟨_, (true), (by first | rfl | (simp; done) | (simp [*]; done)), H', ⟨by first | omega | exact Nat.le_refl _⟩, by repeat (first | exact Drawn0.refl _ | apply Drawn0.step)⟩
  ·rw [if_neg c3] at H
   have c3b0 : decide ((a0.size : Int) < 1) = false := decide_eq_false c3
   have c3b1 : decide (a0.size < 1) = false := decide_eq_false (by omega)
   clear c3
   (first | rw [c3b0] | (simp only [i64_w, i32_w]; rw [c3b0]) | skip)
   by_cases c4 : (a0.size : Int) > 64
   ·rw [if_pos c4] at H
    have c4b0 : decide (64 < (a0.size : Int)) = true := decide_eq_true c4
    have c4b1 : decide (64 < a0.size) = true := decide_eq_true (by omega)
    clear c4
    have H' := Aside0.mk H
    clear H
    go_wp2
    go_meet
    case rel => exact ⟨_, (true), (by first | rfl | (simp; done) | (simp [*]; done)), H', ⟨by first | omega | exact Nat.le_refl _⟩, by repeat (first | exact Drawn0.refl _ | apply Drawn0.step)⟩
   ·rw [if_neg c4] at H
    have c4b0 : decide (64 < (a0.size : Int)) = false := decide_eq_false c4
    have c4b1 : decide (64 < a0.size) = false := decide_eq_false (by omega)
    clear c4
    by_cases c5 : 0 < (a0.size : Int)
    ·rw [if_pos c5] at H
     have c5b0 : decide (0 < (a0.size : Int)) = true := decide_eq_true c5
     have c5b1 : decide (0 < a0.size) = true := decide_eq_true (by omega)
     clear c5
     replace H := Option.bind_eq_some_iff.mp H
     obtain ⟨t101, A70, H⟩ := H
     replace H : (wickerref01_Name.j0 k a0 (!t101)) = some r := H
     have A7 := Aside0.mk A70
     clear A70
     have H' := Aside0.mk H
     clear H
     have p6 : 0 ≤ (0 : Int) := (by omega)
     have q6 : 0 < a0.size := (by have : (0 : Int) < (a0.size : Int) := of_decide_eq_true (by first | (with_reducible assumption) | assumption); omega)
     have hx6 : ∀ h : 0 < a0.size, ((a0[0]'h).toNat : Int) = bt a0 0 := bt_at a0 0
     clear p6
     have qi6 : (0 < (a0.size : Int)) = True := eq_true (of_decide_eq_true (by first | (with_reducible assumption) | assumption))
     replace q6 := eq_true q6
     go_wp2_with (first | (go_at_call 160; (with_reducible refine (wickerref01_letter.calls (bt a0 0) t101 _ A7.out).mono ?_); rintro e w' ⟨rfl, ⟨nd, rfl⟩⟩))
     go_meet
     case rel => exact ⟨_, (!t101), (by first | rfl | (simp; done) | (simp [*]; done)), H', ⟨by first | omega | exact Nat.le_refl _⟩, by repeat (first | exact Drawn0.refl _ | apply Drawn0.step)⟩
    ·rw [if_neg c5] at H
     exact absurd H (by simp)
 case rest =>
  clear HC2
  try clear c1
  try clear p2
  try clear c3
  try clear c3b0
  try clear c3b1
  try clear c4
  try clear c4b0
  try clear c4b1
  try clear c5
  try clear c5b0
  try clear c5b1
  try clear p6
  try clear q6
  try clear hx6
  try clear qi6
  try clear p6
  try clear q6
  obtain ⟨kq, x17_1, rfl, HA, HJ1, ⟨mc1, rfl⟩⟩ := hcut
  cases kq with
  | zero => exact absurd HA.out (by simp [wickerref01_Name.j0])
  | succ kj1 =>
   have H := HA.out
   clear HA
   simp only [wickerref01_Name.j0] at H
   by_cases c8 : x17_1 = true
   ·subst c8
    have H1 : (some false) = some r := by rw [if_pos rfl] at H; exact H
    clear H
    have H := H1
    clear H1
    obtain rfl := Option.some.inj H
    go_wp2
    go_ret
    exact ⟨by first | rfl | (simp; done) | (simp [*]; done) | (exfalso; simp only [beq_iff_eq] at *; omega), by repeat (first | exact Drawn0.refl _ | apply Drawn0.step)⟩
   ·replace c8 := Bool.eq_false_iff.mpr c8
    subst c8
    have H1 : (wickerref01_Name.l0 kj1 a0 1) = some r := by rw [if_neg (show ¬ (false = true) by decide)] at H; exact H
    clear H
    have H := H1
    clear H1
    have H' := Aside0.mk H
    clear H
    go_wp2
    go_loopg [3] kj1 (fun kq v3 w' => ∃ (x3_2 : Int), v3 = .int .i64 x3_2 ∧ Aside0 (wickerref01_Name.l0 kq a0 x3_2 = some r) ∧ Aside0 (kq ≤ kj1) ∧ Drawn0 w w')
    case atStart => exact ⟨(1), (by first | rfl | (simp; done) | (simp [*]; done)), H', ⟨Nat.le_refl _⟩, by repeat (first | exact Drawn0.refl _ | apply Drawn0.step)⟩
    case round =>
     clear H'
     try clear c1
     try clear p2
     try clear c3
     try clear c3b0
     try clear c3b1
     try clear c4
     try clear c4b0
     try clear c4b1
     try clear c5
     try clear c5b0
     try clear c5b1
     try clear p6
     try clear q6
     try clear hx6
     try clear qi6
     try clear c8
     try clear p2
     try clear p6
     try clear q6
     obtain ⟨x3_2, rfl, HA, HK2, ⟨m2, rfl⟩⟩ := hrel
     cases gk with
     | zero => exact absurd HA.out (by simp [wickerref01_Name.l0])
     | succ k2 =>
      have H := HA.out
      clear HA
      simp only [wickerref01_Name.l0] at H
      by_cases c9 : x3_2 < (a0.size : Int)
      ·rw [if_pos c9] at H
       have c9b0 : decide (x3_2 < (a0.size : Int)) = true := decide_eq_true c9
       clear c9
       by_cases c10 : 0 ≤ x3_2
       ·rw [if_pos c10] at H
        have c10b0 : decide (0 ≤ x3_2) = true := decide_eq_true c10
        clear c10
        replace H := Option.bind_eq_some_iff.mp H
        obtain ⟨t102, A120, H⟩ := H
        replace H : (if t102 = true then (wickerref01_Name.l0 k2 a0 (wrap64 (x3_2 + 1))) else (if (bt a0 x3_2) ≥ 48 then (if ((bt a0 x3_2) ≤ 57) then (wickerref01_Name.l0 k2 a0 (wrap64 (x3_2 + 1))) else (if (bt a0 x3_2) = 45 then (wickerref01_Name.l0 k2 a0 (wrap64 (x3_2 + 1))) else (some false))) else (if (bt a0 x3_2) = 45 then (wickerref01_Name.l0 k2 a0 (wrap64 (x3_2 + 1))) else (some false)))) = some r := H
        have A12 := Aside0.mk A120
        clear A120
        by_cases c13 : t102 = true
        ·subst c13
         have H1 : (wickerref01_Name.l0 k2 a0 (wrap64 (x3_2 + 1))) = some r := by rw [if_pos rfl] at H; exact H
         clear H
         have H := H1
         clear H1
         have H' := Aside0.mk H
         clear H
         have p11 : 0 ≤ (x3_2 : Int) := of_decide_eq_true (by first | (with_reducible assumption) | assumption)
         have q11 : x3_2 < (a0.size : Int) := of_decide_eq_true (by first | (with_reducible assumption) | assumption)
         have hx11 := bt_at a0 x3_2
         replace p11 := eq_true p11
         replace q11 := eq_true q11
         go_wp2_with (first | ((with_reducible refine gate_callee (f := 160) rfl ?_); refine goesL_ (some 27) rfl rfl Tryd.func160 (by kernel_rfl) rfl #[.int .u8 (bt a0 x3_2)] rfl (by (try simp only [List.map_toArray, List.map_cons, List.map_nil]); first | done | rfl | (simp only [List.length_drop, List.length_take]; rfl)) ?_; (with_reducible refine (wickerref01_letter.calls (bt a0 x3_2) true _ A12.out).mono ?_); rintro e w' ⟨rfl, ⟨nd, rfl⟩⟩; refine ⟨_, rfl, ?_⟩))
         go_roundg k2
         case measure => have := HJ1.out; have := HK2.out; omega
         case rel => exact ⟨(wrap64 (x3_2 + 1)), (by first | rfl | (simp; done) | (simp [*]; done)), H', ⟨by have := HJ1.out; have := HK2.out; omega⟩, by repeat (first | exact Drawn0.refl _ | apply Drawn0.step)⟩
        ·replace c13 := Bool.eq_false_iff.mpr c13
         subst c13
         have H1 : (if (bt a0 x3_2) ≥ 48 then (if ((bt a0 x3_2) ≤ 57) then (wickerref01_Name.l0 k2 a0 (wrap64 (x3_2 + 1))) else (if (bt a0 x3_2) = 45 then (wickerref01_Name.l0 k2 a0 (wrap64 (x3_2 + 1))) else (some false))) else (if (bt a0 x3_2) = 45 then (wickerref01_Name.l0 k2 a0 (wrap64 (x3_2 + 1))) else (some false))) = some r := by rw [if_neg (show ¬ (false = true) by decide)] at H; exact H
         clear H
         have H := H1
         clear H1
         by_cases c15 : (bt a0 x3_2) ≥ 48
         ·rw [if_pos c15] at H
          have c15b0 : decide (48 ≤ (bt a0 x3_2)) = true := decide_eq_true c15
          clear c15
          by_cases c17 : ((bt a0 x3_2) ≤ 57)
          ·rw [if_pos c17] at H
           have c17b0 : decide ((bt a0 x3_2) ≤ 57) = true := decide_eq_true c17
           clear c17
           have H' := Aside0.mk H
           clear H
           have p11 : 0 ≤ (x3_2 : Int) := of_decide_eq_true (by first | (with_reducible assumption) | assumption)
           have q11 : x3_2 < (a0.size : Int) := of_decide_eq_true (by first | (with_reducible assumption) | assumption)
           have hx11 := bt_at a0 x3_2
           replace p11 := eq_true p11
           replace q11 := eq_true q11
           go_wp2_with (first | ((with_reducible refine gate_callee (f := 160) rfl ?_); refine goesL_ (some 27) rfl rfl Tryd.func160 (by kernel_rfl) rfl #[.int .u8 (bt a0 x3_2)] rfl (by (try simp only [List.map_toArray, List.map_cons, List.map_nil]); first | done | rfl | (simp only [List.length_drop, List.length_take]; rfl)) ?_; (with_reducible refine (wickerref01_letter.calls (bt a0 x3_2) false _ A12.out).mono ?_); rintro e w' ⟨rfl, ⟨nd, rfl⟩⟩; refine ⟨_, rfl, ?_⟩; have p14 : 0 ≤ (x3_2 : Int) := of_decide_eq_true (by first | (with_reducible assumption) | assumption); have q14 : x3_2 < (a0.size : Int) := of_decide_eq_true (by first | (with_reducible assumption) | assumption); have hx14 := bt_at a0 x3_2; replace p14 := eq_true p14; replace q14 := eq_true q14; have p16 : 0 ≤ (x3_2 : Int) := of_decide_eq_true (by first | (with_reducible assumption) | assumption); have q16 : x3_2 < (a0.size : Int) := of_decide_eq_true (by first | (with_reducible assumption) | assumption); have hx16 := bt_at a0 x3_2; replace p16 := eq_true p16; replace q16 := eq_true q16))
           go_roundg k2
           case measure => have := HJ1.out; have := HK2.out; omega
           case rel => exact ⟨(wrap64 (x3_2 + 1)), (by first | rfl | (simp; done) | (simp [*]; done)), H', ⟨by have := HJ1.out; have := HK2.out; omega⟩, by repeat (first | exact Drawn0.refl _ | apply Drawn0.step)⟩
          ·rw [if_neg c17] at H
           have c17b0 : decide ((bt a0 x3_2) ≤ 57) = false := decide_eq_false c17
           clear c17
           by_cases c19 : (bt a0 x3_2) = 45
           ·rw [if_pos c19] at H
            have c19b0 : ((bt a0 x3_2) == 45) = true := beq_iff_eq.mpr c19
            have c19b1 : ((bt a0 x3_2) != 45) = false := bne_eq_false_iff_eq.mpr c19
            clear c19
            have H' := Aside0.mk H
            clear H
            have p11 : 0 ≤ (x3_2 : Int) := of_decide_eq_true (by first | (with_reducible assumption) | assumption)
            have q11 : x3_2 < (a0.size : Int) := of_decide_eq_true (by first | (with_reducible assumption) | assumption)
            have hx11 := bt_at a0 x3_2
            replace p11 := eq_true p11
            replace q11 := eq_true q11
            go_wp2_with (first | ((with_reducible refine gate_callee (f := 160) rfl ?_); refine goesL_ (some 27) rfl rfl Tryd.func160 (by kernel_rfl) rfl #[.int .u8 (bt a0 x3_2)] rfl (by (try simp only [List.map_toArray, List.map_cons, List.map_nil]); first | done | rfl | (simp only [List.length_drop, List.length_take]; rfl)) ?_; (with_reducible refine (wickerref01_letter.calls (bt a0 x3_2) false _ A12.out).mono ?_); rintro e w' ⟨rfl, ⟨nd, rfl⟩⟩; refine ⟨_, rfl, ?_⟩; have p14 : 0 ≤ (x3_2 : Int) := of_decide_eq_true (by first | (with_reducible assumption) | assumption); have q14 : x3_2 < (a0.size : Int) := of_decide_eq_true (by first | (with_reducible assumption) | assumption); have hx14 := bt_at a0 x3_2; replace p14 := eq_true p14; replace q14 := eq_true q14; have p16 : 0 ≤ (x3_2 : Int) := of_decide_eq_true (by first | (with_reducible assumption) | assumption); have q16 : x3_2 < (a0.size : Int) := of_decide_eq_true (by first | (with_reducible assumption) | assumption); have hx16 := bt_at a0 x3_2; replace p16 := eq_true p16; replace q16 := eq_true q16; have p18 : 0 ≤ (x3_2 : Int) := of_decide_eq_true (by first | (with_reducible assumption) | assumption); have q18 : x3_2 < (a0.size : Int) := of_decide_eq_true (by first | (with_reducible assumption) | assumption); have hx18 := bt_at a0 x3_2; replace p18 := eq_true p18; replace q18 := eq_true q18))
            go_roundg k2
            case measure => have := HJ1.out; have := HK2.out; omega
            case rel => exact ⟨(wrap64 (x3_2 + 1)), (by first | rfl | (simp; done) | (simp [*]; done)), H', ⟨by have := HJ1.out; have := HK2.out; omega⟩, by repeat (first | exact Drawn0.refl _ | apply Drawn0.step)⟩
           ·rw [if_neg c19] at H
            have c19b0 : ((bt a0 x3_2) == 45) = false := beq_eq_false_iff_ne.mpr c19
            have c19b1 : ((bt a0 x3_2) != 45) = true := bne_iff_ne.mpr c19
            obtain rfl := Option.some.inj H
            have p11 : 0 ≤ (x3_2 : Int) := of_decide_eq_true (by first | (with_reducible assumption) | assumption)
            have q11 : x3_2 < (a0.size : Int) := of_decide_eq_true (by first | (with_reducible assumption) | assumption)
            have hx11 := bt_at a0 x3_2
            replace p11 := eq_true p11
            replace q11 := eq_true q11
            go_wp2_with (first | ((with_reducible refine gate_callee (f := 160) rfl ?_); refine goesL_ (some 27) rfl rfl Tryd.func160 (by kernel_rfl) rfl #[.int .u8 (bt a0 x3_2)] rfl (by (try simp only [List.map_toArray, List.map_cons, List.map_nil]); first | done | rfl | (simp only [List.length_drop, List.length_take]; rfl)) ?_; (with_reducible refine (wickerref01_letter.calls (bt a0 x3_2) false _ A12.out).mono ?_); rintro e w' ⟨rfl, ⟨nd, rfl⟩⟩; refine ⟨_, rfl, ?_⟩; have p14 : 0 ≤ (x3_2 : Int) := of_decide_eq_true (by first | (with_reducible assumption) | assumption); have q14 : x3_2 < (a0.size : Int) := of_decide_eq_true (by first | (with_reducible assumption) | assumption); have hx14 := bt_at a0 x3_2; replace p14 := eq_true p14; replace q14 := eq_true q14; have p16 : 0 ≤ (x3_2 : Int) := of_decide_eq_true (by first | (with_reducible assumption) | assumption); have q16 : x3_2 < (a0.size : Int) := of_decide_eq_true (by first | (with_reducible assumption) | assumption); have hx16 := bt_at a0 x3_2; replace p16 := eq_true p16; replace q16 := eq_true q16; have p18 : 0 ≤ (x3_2 : Int) := of_decide_eq_true (by first | (with_reducible assumption) | assumption); have q18 : x3_2 < (a0.size : Int) := of_decide_eq_true (by first | (with_reducible assumption) | assumption); have hx18 := bt_at a0 x3_2; replace p18 := eq_true p18; replace q18 := eq_true q18))
            go_ret
            exact ⟨by first | rfl | (simp; done) | (simp [*]; done) | (exfalso; simp only [beq_iff_eq] at *; omega), by repeat (first | exact Drawn0.refl _ | apply Drawn0.step)⟩
         ·rw [if_neg c15] at H
          have c15b0 : decide (48 ≤ (bt a0 x3_2)) = false := decide_eq_false c15
          clear c15
          by_cases c21 : (bt a0 x3_2) = 45
          ·rw [if_pos c21] at H
           have c21b0 : ((bt a0 x3_2) == 45) = true := beq_iff_eq.mpr c21
           have c21b1 : ((bt a0 x3_2) != 45) = false := bne_eq_false_iff_eq.mpr c21
           clear c21
           have H' := Aside0.mk H
           clear H
           have p11 : 0 ≤ (x3_2 : Int) := of_decide_eq_true (by first | (with_reducible assumption) | assumption)
           have q11 : x3_2 < (a0.size : Int) := of_decide_eq_true (by first | (with_reducible assumption) | assumption)
           have hx11 := bt_at a0 x3_2
           replace p11 := eq_true p11
           replace q11 := eq_true q11
           go_wp2_with (first | ((with_reducible refine gate_callee (f := 160) rfl ?_); refine goesL_ (some 27) rfl rfl Tryd.func160 (by kernel_rfl) rfl #[.int .u8 (bt a0 x3_2)] rfl (by (try simp only [List.map_toArray, List.map_cons, List.map_nil]); first | done | rfl | (simp only [List.length_drop, List.length_take]; rfl)) ?_; (with_reducible refine (wickerref01_letter.calls (bt a0 x3_2) false _ A12.out).mono ?_); rintro e w' ⟨rfl, ⟨nd, rfl⟩⟩; refine ⟨_, rfl, ?_⟩; have p14 : 0 ≤ (x3_2 : Int) := of_decide_eq_true (by first | (with_reducible assumption) | assumption); have q14 : x3_2 < (a0.size : Int) := of_decide_eq_true (by first | (with_reducible assumption) | assumption); have hx14 := bt_at a0 x3_2; replace p14 := eq_true p14; replace q14 := eq_true q14; have p20 : 0 ≤ (x3_2 : Int) := of_decide_eq_true (by first | (with_reducible assumption) | assumption); have q20 : x3_2 < (a0.size : Int) := of_decide_eq_true (by first | (with_reducible assumption) | assumption); have hx20 := bt_at a0 x3_2; replace p20 := eq_true p20; replace q20 := eq_true q20))
           go_roundg k2
           case measure => have := HJ1.out; have := HK2.out; omega
           case rel => exact ⟨(wrap64 (x3_2 + 1)), (by first | rfl | (simp; done) | (simp [*]; done)), H', ⟨by have := HJ1.out; have := HK2.out; omega⟩, by repeat (first | exact Drawn0.refl _ | apply Drawn0.step)⟩
          ·rw [if_neg c21] at H
           have c21b0 : ((bt a0 x3_2) == 45) = false := beq_eq_false_iff_ne.mpr c21
           have c21b1 : ((bt a0 x3_2) != 45) = true := bne_iff_ne.mpr c21
           obtain rfl := Option.some.inj H
           have p11 : 0 ≤ (x3_2 : Int) := of_decide_eq_true (by first | (with_reducible assumption) | assumption)
           have q11 : x3_2 < (a0.size : Int) := of_decide_eq_true (by first | (with_reducible assumption) | assumption)
           have hx11 := bt_at a0 x3_2
           replace p11 := eq_true p11
           replace q11 := eq_true q11
           go_wp2_with (first | ((with_reducible refine gate_callee (f := 160) rfl ?_); refine goesL_ (some 27) rfl rfl Tryd.func160 (by kernel_rfl) rfl #[.int .u8 (bt a0 x3_2)] rfl (by (try simp only [List.map_toArray, List.map_cons, List.map_nil]); first | done | rfl | (simp only [List.length_drop, List.length_take]; rfl)) ?_; (with_reducible refine (wickerref01_letter.calls (bt a0 x3_2) false _ A12.out).mono ?_); rintro e w' ⟨rfl, ⟨nd, rfl⟩⟩; refine ⟨_, rfl, ?_⟩; have p14 : 0 ≤ (x3_2 : Int) := of_decide_eq_true (by first | (with_reducible assumption) | assumption); have q14 : x3_2 < (a0.size : Int) := of_decide_eq_true (by first | (with_reducible assumption) | assumption); have hx14 := bt_at a0 x3_2; replace p14 := eq_true p14; replace q14 := eq_true q14; have p20 : 0 ≤ (x3_2 : Int) := of_decide_eq_true (by first | (with_reducible assumption) | assumption); have q20 : x3_2 < (a0.size : Int) := of_decide_eq_true (by first | (with_reducible assumption) | assumption); have hx20 := bt_at a0 x3_2; replace p20 := eq_true p20; replace q20 := eq_true q20))
           go_ret
           exact ⟨by first | rfl | (simp; done) | (simp [*]; done) | (exfalso; simp only [beq_iff_eq] at *; omega), by repeat (first | exact Drawn0.refl _ | apply Drawn0.step)⟩
       ·rw [if_neg c10] at H
        exact absurd H (by simp)
      ·rw [if_neg c9] at H
       have c9b0 : decide (x3_2 < (a0.size : Int)) = false := decide_eq_false c9
       clear c9
       obtain rfl := Option.some.inj H
       go_wp2
       go_ret
       exact ⟨by first | rfl | (simp; done) | (simp [*]; done) | (exfalso; simp only [beq_iff_eq] at *; omega), by repeat (first | exact Drawn0.refl _ | apply Drawn0.step)⟩
def wickerref01_Mark.f (a0 : ByteArray) : Option (Bool) := if (a0.size : Int) ≥ 1 then (some (decide ((a0.size : Int) ≤ 64))) else (some false)
set_option maxHeartbeats 8000000 in
set_option maxRecDepth 100000 in
theorem wickerref01_Mark.calls (a0 : ByteArray) (r : Bool) (w : World) (h : wickerref01_Mark.f a0 = some r) :
  Calls Tryd.prog 134 #[.string a0] w fun e w' => e = .returned (.bool r) ∧ Drawn0 w w' := by
 have H : (if (a0.size : Int) ≥ 1 then (some (decide ((a0.size : Int) ≤ 64))) else (some false)) = some r := h
 clear h
 by_cases c2 : (a0.size : Int) ≥ 1
 ·rw [if_pos c2] at H
  have c2b0 : decide (1 ≤ (a0.size : Int)) = true := decide_eq_true c2
  have c2b1 : decide (1 ≤ a0.size) = true := decide_eq_true (by omega)
  clear c2
  obtain rfl := Option.some.inj H
  go_enter Tryd.func134, Tryd.ntmps134
  go_wp2
  go_ret
  exact ⟨by first | rfl | (simp; done) | (simp [*]; done) | (exfalso; simp only [beq_iff_eq] at *; omega), by repeat (first | exact Drawn0.refl _ | apply Drawn0.step)⟩
 ·rw [if_neg c2] at H
  have c2b0 : decide (1 ≤ (a0.size : Int)) = false := decide_eq_false c2
  have c2b1 : decide (1 ≤ a0.size) = false := decide_eq_false (by omega)
  clear c2
  obtain rfl := Option.some.inj H
  go_enter Tryd.func134, Tryd.ntmps134
  go_wp2
  go_ret
  exact ⟨by first | rfl | (simp; done) | (simp [*]; done) | (exfalso; simp only [beq_iff_eq] at *; omega), by repeat (first | exact Drawn0.refl _ | apply Drawn0.step)⟩
end Go.Proofs.YtmdjmbdeeodehaaDoor.G
end
section
set_option linter.unusedVariables false
set_option linter.unusedSimpArgs false
namespace Go.Proofs.YtmdjmbdeeodehaaDoor.Pure
open Go.RowKit Go.Proofs.YtmdjmbdeeodehaaDoorW.PrintWords
theorem w64 {i : Int} (h0 : -9223372036854775808 ≤ i) (h1 : i ≤ 9223372036854775807) : wrap64 i = i := IntWalk.wrap64_in i ⟨h0, h1⟩
theorem toList_data (s : ByteArray) : s.toList = s.data.toList := ByteArray.toList_eq s
theorem data_length (s : ByteArray) : s.data.toList.length = s.size := by rw [Array.length_toList]; rfl
theorem bt_get (s : ByteArray) (i : Nat) (h : i < s.data.toList.length) : bt s i = ((s.data.toList[i]).toNat : Int) := by
  have h2 : i < s.size := by rwa [data_length] at h
  unfold bt
  rw [dif_pos (by simpa using h2)]
  rfl
theorem ba_ext {a b : ByteArray} (h : a.data.toList = b.data.toList) : a = b := by
  cases a; cases b; simp_all [Array.toList_inj]
theorem ba_list (a b : ByteArray) : (a.toList = b.toList) ↔ a = b := by
  rw [toList_data, toList_data]
  exact ⟨ba_ext, fun h => by rw [h]⟩
theorem ba_nil (a : ByteArray) : (a.toList = ([] : List UInt8)) ↔ a.size = 0 := by
  rw [toList_data, ← data_length]
  exact ⟨fun h => by rw [h]; rfl, fun h => List.eq_nil_of_length_eq_zero h⟩
theorem ev_nowS {α : Type} {g : Nat → Option α} {r : α} (h : ∀ k, g (k + 1) = some r) : Ev g r := Ev.step (f := fun _ => some r) h (Ev.now r)
theorem Ev.eq {α : Type} {g : Nat → Option α} {r s : α} (h : Ev g r) (e : r = s) : Ev g s := e ▸ h
theorem Ev.pos {α : Type} {c : Prop} [Decidable c] {A B : Nat → Option α} {r : α} (h : c) (e : Ev A r) : Ev (fun k => if c then A k else B k) r := Ev.congr (fun k => if_pos h) e
theorem Ev.neg {α : Type} {c : Prop} [Decidable c] {A B : Nat → Option α} {r : α} (h : ¬ c) (e : Ev B r) : Ev (fun k => if c then A k else B k) r := Ev.congr (fun k => if_neg h) e
theorem Ev.got {α β : Type} {y : Option α} {a : α} {f : Nat → α → Option β} {r : β} (h : y = some a) (e : Ev (fun k => f k a) r) : Ev (fun k => y.bind (f k)) r := Ev.congr (fun k => by rw [h]; rfl) e
theorem Ev.out {α : Type} {g : Nat → Option α} {r : α} (h : Ev g r) : ∃ K, ∀ k, K ≤ k → g k = some r := h
end Go.Proofs.YtmdjmbdeeodehaaDoor.Pure
namespace Go.Proofs.YtmdjmbdeeodehaaDoor.Pure
open Go.RowKit Go.Proofs.YtmdjmbdeeodehaaDoorW.PrintWords Go.Proofs.YtmdjmbdeeodehaaDoor.G
def letterI (n : Int) : Bool := decide ((65 ≤ n ∧ n ≤ 90) ∨ (97 ≤ n ∧ n ≤ 122))
def nameI (n : Int) : Bool := letterI n || decide (n = 45) || decide (48 ≤ n ∧ n ≤ 57)
def nameB (b : UInt8) : Bool := nameI b.toNat
def nameL (l : List UInt8) : Bool := match l with
  | [] => false
  | b :: t => decide (t.length < 64) && letterI b.toNat && t.all nameB
def markL (l : List UInt8) : Bool := decide (1 ≤ l.length ∧ l.length ≤ 64)
theorem letter_f (n : Int) : names_letter.f n = some (letterI n) := by
  unfold names_letter.f letterI
  by_cases h1 : 65 ≤ n <;> by_cases h2 : n ≤ 90 <;> by_cases h3 : 97 ≤ n <;> by_cases h4 : n ≤ 122 <;> simp [h1, h2, h3, h4] <;> omega
theorem ref_letter_f (n : Int) : wickerref01_letter.f n = some (letterI n) := by
  unfold wickerref01_letter.f letterI
  by_cases h1 : 65 ≤ n <;> by_cases h2 : n ≤ 90 <;> by_cases h3 : 97 ≤ n <;> by_cases h4 : n ≤ 122 <;> simp [h1, h2, h3, h4] <;> omega
theorem nameI_of_letter {n : Int} (h : letterI n = true) : nameI n = true := by simp [nameI, h]
theorem name_l0 (s : ByteArray) (hn : s.size ≤ 1000000000000) : ∀ d i : Nat, i + d = s.size → Ev (fun k => names_Name.l0 k s (s.size : Int) (i : Int)) ((s.data.toList.drop i).all nameB) := by
  intro d
  induction d with
  | zero =>
    intro i hi
    refine ev_nowS fun k => ?_
    simp only [names_Name.l0]
    rw [if_neg (by omega), List.drop_eq_nil_of_le (by rw [data_length]; omega)]
    rfl
  | succ d ih =>
    intro i hi
    have hl : i < s.data.toList.length := by rw [data_length]; omega
    have hb := bt_get s i hl
    have e1 : wrap64 ((i : Int) + 1) = ((i + 1 : Nat) : Int) := by rw [w64 (by omega) (by omega)]; omega
    rw [List.drop_eq_getElem_cons hl, List.all_cons]
    generalize s.data.toList[i] = b at hb
    by_cases hv : nameB b = true
    · rw [hv, Bool.true_and]
      refine Ev.step (f := fun k => names_Name.l0 k s (s.size : Int) ((i + 1 : Nat) : Int)) (fun k => ?_) (ih (i + 1) (by omega))
      simp only [names_Name.l0]
      rw [if_pos (by omega), if_pos (by omega), if_pos (by omega), hb, letter_f, Option.bind_some, e1]
      unfold nameB nameI at hv
      by_cases h1 : letterI b.toNat = true
      · rw [if_pos h1]
      · rw [if_neg h1]
        by_cases h2 : ((b.toNat : Nat) : Int) = 45
        · rw [if_pos h2]
        · have h3 : (48 : Int) ≤ b.toNat ∧ (b.toNat : Int) ≤ 57 := by simpa [h1, h2] using hv
          rw [if_neg h2, if_neg (by omega), if_neg (by omega)]
    · have hv' : nameB b = false := by simpa using hv
      rw [hv', Bool.false_and]
      refine ev_nowS fun k => ?_
      simp only [names_Name.l0]
      rw [if_pos (by omega), if_pos (by omega), if_pos (by omega), hb, letter_f, Option.bind_some]
      unfold nameB nameI at hv'
      simp only [Bool.or_eq_false_iff, decide_eq_false_iff_not] at hv'
      rw [if_neg (by simp [hv'.1.1]), if_neg hv'.1.2]
      by_cases h3 : (b.toNat : Int) < 48
      · rw [if_pos h3]
      · rw [if_neg h3, if_pos (by omega)]
theorem name_f (s : ByteArray) (hn : s.size ≤ 1000000000000) : Ev (fun k => names_Name.f k s) (nameL s.data.toList) := by
  unfold names_Name.f
  have hlen := data_length s
  cases hl : s.data.toList with
  | nil =>
    rw [hl] at hlen
    exact Ev.pos ((ba_nil s).2 hlen.symm) (ev_nowS fun k => by simp only [names_Name.j0]; rfl)
  | cons b t =>
    rw [hl] at hlen
    simp only [List.length_cons] at hlen
    refine Ev.neg (fun h => by have := (ba_nil s).1 h; omega) ?_
    by_cases h64 : (s.size : Int) > 64
    · refine Ev.pos h64 ?_
      have : nameL (b :: t) = false := by simp [nameL]; intro h; omega
      rw [this]
      exact ev_nowS fun k => by simp only [names_Name.j0]; rfl
    · refine Ev.neg h64 (Ev.pos (by omega) ?_)
      have hb := bt_get s 0 (by rw [hl]; simp)
      simp only [hl, List.getElem_cons_zero] at hb
      rw [show bt s 0 = b.toNat from hb]
      refine Ev.got (letter_f _) ?_
      by_cases h1 : letterI b.toNat = true
      · have hall : nameL (b :: t) = (s.data.toList.drop 0).all nameB := by
          rw [List.drop_zero, hl, List.all_cons, show nameB b = true from nameI_of_letter h1, Bool.true_and]
          simp only [nameL, h1, Bool.and_true]
          rw [decide_eq_true (by omega), Bool.true_and]
        rw [hall]
        refine Ev.step (f := fun k => names_Name.l0 k s (s.size : Int) ((0 : Nat) : Int)) (fun k => ?_) (name_l0 s hn s.size 0 (by omega))
        simp only [names_Name.j0]
        rw [h1, if_neg (by simp)]; rfl
      · have h1' : letterI b.toNat = false := by simpa using h1
        have : nameL (b :: t) = false := by simp [nameL, h1']
        rw [this]
        exact ev_nowS fun k => by simp only [names_Name.j0]; rw [h1']; rfl
theorem ref_name_l0 (s : ByteArray) (hn : s.size ≤ 1000000000000) : ∀ d i : Nat, i + d = s.size → Ev (fun k => wickerref01_Name.l0 k s (i : Int)) ((s.data.toList.drop i).all nameB) := by
  intro d
  induction d with
  | zero =>
    intro i hi
    refine ev_nowS fun k => ?_
    simp only [wickerref01_Name.l0]
    rw [if_neg (by omega), List.drop_eq_nil_of_le (by rw [data_length]; omega)]
    rfl
  | succ d ih =>
    intro i hi
    have hl : i < s.data.toList.length := by rw [data_length]; omega
    have hb := bt_get s i hl
    have e1 : wrap64 ((i : Int) + 1) = ((i + 1 : Nat) : Int) := by rw [w64 (by omega) (by omega)]; omega
    rw [List.drop_eq_getElem_cons hl, List.all_cons]
    generalize s.data.toList[i] = b at hb
    by_cases hv : nameB b = true
    · rw [hv, Bool.true_and]
      refine Ev.step (f := fun k => wickerref01_Name.l0 k s ((i + 1 : Nat) : Int)) (fun k => ?_) (ih (i + 1) (by omega))
      simp only [wickerref01_Name.l0]
      rw [if_pos (by omega), if_pos (by omega), hb, ref_letter_f, Option.bind_some, e1]
      unfold nameB nameI at hv
      by_cases h1 : letterI b.toNat = true
      · rw [if_pos h1]
      · rw [if_neg h1]
        by_cases h2 : ((b.toNat : Nat) : Int) = 45
        · rw [if_neg (by omega), if_pos h2]
        · have h3 : (48 : Int) ≤ b.toNat ∧ (b.toNat : Int) ≤ 57 := by simpa [h1, h2] using hv
          rw [if_pos (by omega), if_pos (by omega)]
    · have hv' : nameB b = false := by simpa using hv
      rw [hv', Bool.false_and]
      refine ev_nowS fun k => ?_
      simp only [wickerref01_Name.l0]
      rw [if_pos (by omega), if_pos (by omega), hb, ref_letter_f, Option.bind_some]
      unfold nameB nameI at hv'
      simp only [Bool.or_eq_false_iff, decide_eq_false_iff_not] at hv'
      rw [if_neg (by simp [hv'.1.1])]
      by_cases h3 : (b.toNat : Int) ≥ 48
      · rw [if_pos h3, if_neg (by omega), if_neg hv'.1.2]
      · rw [if_neg h3, if_neg hv'.1.2]
theorem ref_name_f (s : ByteArray) (hn : s.size ≤ 1000000000000) : Ev (fun k => wickerref01_Name.f k s) (nameL s.data.toList) := by
  unfold wickerref01_Name.f
  have hlen := data_length s
  cases hl : s.data.toList with
  | nil =>
    rw [hl] at hlen
    simp only [List.length_nil] at hlen
    exact Ev.pos (by omega) (ev_nowS fun k => by simp only [wickerref01_Name.j0]; rfl)
  | cons b t =>
    rw [hl] at hlen
    simp only [List.length_cons] at hlen
    refine Ev.neg (by omega) ?_
    by_cases h64 : (s.size : Int) > 64
    · refine Ev.pos h64 ?_
      have : nameL (b :: t) = false := by simp [nameL]; intro h; omega
      rw [this]
      exact ev_nowS fun k => by simp only [wickerref01_Name.j0]; rfl
    · refine Ev.neg h64 (Ev.pos (by omega) ?_)
      have hb := bt_get s 0 (by rw [hl]; simp)
      simp only [hl, List.getElem_cons_zero] at hb
      rw [show bt s 0 = b.toNat from hb]
      refine Ev.got (ref_letter_f _) ?_
      by_cases h1 : letterI b.toNat = true
      · have hall : nameL (b :: t) = (s.data.toList.drop 1).all nameB := by
          rw [hl, List.drop_one, List.tail_cons]
          simp only [nameL, h1, Bool.and_true]
          rw [decide_eq_true (by omega), Bool.true_and]
        rw [hall]
        refine Ev.step (f := fun k => wickerref01_Name.l0 k s ((1 : Nat) : Int)) (fun k => ?_) (ref_name_l0 s hn (s.size - 1) 1 (by omega))
        simp only [wickerref01_Name.j0]
        rw [h1, if_neg (by simp)]; rfl
      · have h1' : letterI b.toNat = false := by simpa using h1
        have : nameL (b :: t) = false := by simp [nameL, h1']
        rw [this]
        exact ev_nowS fun k => by simp only [wickerref01_Name.j0]; rw [h1']; rfl
theorem mark_f (s : ByteArray) : names_Mark.f s = some (markL s.data.toList) := by
  unfold names_Mark.f markL
  rw [data_length]
  by_cases h : s.size = 0
  · rw [if_pos ((ba_nil s).2 h)]; simp [h]
  · rw [if_neg (fun e => h ((ba_nil s).1 e))]
    by_cases h2 : s.size ≤ 64
    · rw [decide_eq_true (by omega), decide_eq_true (by omega)]
    · rw [decide_eq_false (by omega), decide_eq_false (by omega)]
theorem ref_mark_f (s : ByteArray) : wickerref01_Mark.f s = some (markL s.data.toList) := by
  unfold wickerref01_Mark.f markL
  rw [data_length]
  by_cases h : s.size = 0
  · rw [if_neg (by omega), decide_eq_false (by omega)]
  · rw [if_pos (by omega)]
    by_cases h2 : s.size ≤ 64
    · rw [decide_eq_true (by omega), decide_eq_true (by omega)]
    · rw [decide_eq_false (by omega), decide_eq_false (by omega)]
end Go.Proofs.YtmdjmbdeeodehaaDoor.Pure
end
section
set_option linter.unusedVariables false
set_option linter.unusedSimpArgs false
namespace Go.Proofs.YtmdjmbdeeodehaaDoor.G
open Go Go.Proofs Go.RowKit Go.Maps Go.WideMaps Go.Proofs.YtmdjmbdeeodehaaDoorW.PrintWords
def nmB (s : ByteArray) : Bool := Pure.nameL s.data.toList
def mkB (s : ByteArray) : Bool := Pure.markL s.data.toList
def mayB (p : ByteArray → Bool) (s : ByteArray) : Option Bool := if s.size ≤ 1000000000 then some (p s) else none
theorem isIn_cnt (s : ByteArray) (l : List ByteArray) : (0 < cntS s l) ↔ isIn s l = true := by
  unfold cntS isIn
  rw [List.countP_pos_iff, List.any_eq_true]
theorem textsF_eq (p : ByteArray → Bool) : ∀ (l seen : List ByteArray) (t : Int), (∀ s ∈ l, s.size ≤ 1000000000) → textsF (mayB p) l seen t = some (texG p l seen t) := by
  intro l
  induction l with
  | nil => intro seen t _; rfl
  | cons a l ih =>
    intro seen t h
    have ha := h a (by simp)
    rw [textsF, if_pos (show a.size ≤ maxLen by unfold maxLen; omega), mayB, if_pos ha, Option.bind_some, texG]
    by_cases hp : p a = true
    · rw [if_pos hp, if_pos hp, ih _ _ (fun s hs => h s (List.mem_cons_of_mem _ hs))]
      by_cases hi : isIn a seen = true
      · rw [if_pos hi, if_pos ((isIn_cnt _ _).2 hi)]
      · rw [if_neg hi, if_neg (fun h => hi ((isIn_cnt _ _).1 h))]
    · rw [if_neg hp, if_neg hp]
theorem name_may (s : ByteArray) (b : Bool) (W : World) (h : mayB nmB s = some b) : Calls Tryd.prog 93 #[.string s] W fun e w' => e = .returned (.bool b) ∧ Below W.heap.size W w' := by
  unfold mayB at h
  split at h
  · rename_i hs
    obtain rfl := Option.some.inj h
    obtain ⟨K, hK⟩ := Pure.Ev.out (Pure.name_f s (by omega))
    refine (names_Name.calls K s _ W (hK K (Nat.le_refl _))).mono ?_
    rintro e w' ⟨rfl, hd⟩
    exact ⟨rfl, hd.below⟩
  · cases h
theorem mark_may (s : ByteArray) (b : Bool) (W : World) (h : mayB mkB s = some b) : Calls Tryd.prog 94 #[.string s] W fun e w' => e = .returned (.bool b) ∧ Below W.heap.size W w' := by
  unfold mayB at h
  split at h
  · obtain rfl := Option.some.inj h
    refine (names_Mark.calls s _ W (Pure.mark_f s)).mono ?_
    rintro e w' ⟨rfl, hd⟩
    exact ⟨rfl, hd.below⟩
  · cases h
theorem enters_name (s : ByteArray) (W : World) : Sem.run Tryd.prog (callFunc 93 #[.string s]) W = .ok (.enter 93 #[.string s]) W := by kernel_rfl
theorem enters_mark (s : ByteArray) (W : World) : Sem.run Tryd.prog (callFunc 94 #[.string s]) W = .ok (.enter 94 #[.string s]) W := by kernel_rfl
theorem texts_name (A0 : Option Addr) (c0 : Nat) (l0 : List ByteArray) (w : World) (hr0 : Kd.C Kd.string w A0 l0.length l0) (hc0 : l0.length ≤ c0) (hl0 : l0.length ≤ 1000000) (hs : ∀ s ∈ l0, s.size ≤ 1000000000) :
    Calls Tryd.prog 92 #[.slice A0 l0.length c0, .func (.func 93) #[] #[]] w fun e w' => e = .returned (.int .i64 (texC nmB l0)) ∧ Below w.heap.size w w' :=
  texts_calls (mayB nmB) _ (fun s W => enters_name s W) name_may A0 c0 l0 _ w hr0 hc0 hl0 (by rw [textsF_eq _ _ _ _ hs, texG_eq])
theorem texts_mark (A0 : Option Addr) (c0 : Nat) (l0 : List ByteArray) (w : World) (hr0 : Kd.C Kd.string w A0 l0.length l0) (hc0 : l0.length ≤ c0) (hl0 : l0.length ≤ 1000000) (hs : ∀ s ∈ l0, s.size ≤ 1000000000) :
    Calls Tryd.prog 92 #[.slice A0 l0.length c0, .func (.func 94) #[] #[]] w fun e w' => e = .returned (.int .i64 (texC mkB l0)) ∧ Below w.heap.size w w' :=
  texts_calls (mayB mkB) _ (fun s W => enters_mark s W) mark_may A0 c0 l0 _ w hr0 hc0 hl0 (by rw [textsF_eq _ _ _ _ hs, texG_eq])
theorem texC_range (p : ByteArray → Bool) (l : List ByteArray) : texC p l = 0 ∨ texC p l = 1 ∨ texC p l = 2 := by
  unfold texC; split
  · split
    · exact .inl rfl
    · exact .inr (.inr rfl)
  · exact .inr (.inl rfl)
set_option maxHeartbeats 4000000 in
set_option maxRecDepth 100000 in
theorem check_full (A0 : Option Addr) (c0 : Nat) (l0 : List ByteArray) (A1 : Option Addr) (c1 : Nat) (l1 : List ByteArray) (a2 : Int) (A3 : Option Addr) (c3 : Nat) (l3 : List GRule) (hok : gramOk l0 l1 a2 l3 = true)
    (w : World) (hr0 : Kd.C Kd.string w A0 l0.length l0) (hr1 : Kd.C Kd.string w A1 l1.length l1) (hr3 : Kd.C k32 w A3 l3.length l3) (hx : l0.length = 0 ∨ 2048 < l0.length ∨ 2048 < l1.length ∨ 8192 < l3.length) :
    Calls Tryd.prog 26 #[.agg #[.slice A0 l0.length c0, .slice A1 l1.length c1, .int .i64 a2, .slice A3 l3.length c3]] w fun e w' => e = .returned (.int .i64 11) ∧ Below w.heap.size w w' := by
  have hu := Tryd.underlying25
  simp only [gramOk, Bool.and_eq_true, decide_eq_true_eq] at hok
  have b0 := hok.1.1.1.1.1.1
  have b1 := hok.1.1.1.1.1.2
  have b3 := hok.1.1.1.1.2
  clear hok
  by_cases x0 : l0.length = 0
  · have e0 : ((l0.length : Int) == 0) = true := by simp [x0]
    have E0 := Lib.hid x0
    clear hx x0
    go_enter Tryd.func26, Tryd.ntmps26
    go_wp2
    go_ret
    exact ⟨rfl, (Below.refl _ _).alloc (Nat.le_refl _) _⟩
  have e0 : ((l0.length : Int) == 0) = false := by simp; exact fun h => x0 (by rw [h]; rfl)
  by_cases x1 : 2048 < l0.length
  · have e1 : decide ((2048 : Int) < (l0.length : Int)) = true := decide_eq_true (by omega)
    clear hx
    go_enter Tryd.func26, Tryd.ntmps26
    go_wp2
    go_ret
    exact ⟨rfl, (Below.refl _ _).alloc (Nat.le_refl _) _⟩
  have e1 : decide ((2048 : Int) < (l0.length : Int)) = false := decide_eq_false (by omega)
  by_cases x2 : 2048 < l1.length
  · have e2 : decide ((2048 : Int) < (l1.length : Int)) = true := decide_eq_true (by omega)
    clear hx
    go_enter Tryd.func26, Tryd.ntmps26
    go_wp2
    go_ret
    exact ⟨rfl, (Below.refl _ _).alloc (Nat.le_refl _) _⟩
  have e2 : decide ((2048 : Int) < (l1.length : Int)) = false := decide_eq_false (by omega)
  have x3 : 8192 < l3.length := by omega
  have e3 : decide ((8192 : Int) < (l3.length : Int)) = true := decide_eq_true (by omega)
  clear hx
  go_enter Tryd.func26, Tryd.ntmps26
  go_wp2
  go_ret
  exact ⟨rfl, (Below.refl _ _).alloc (Nat.le_refl _) _⟩
structure InB (w : World) (A0 : Option Addr) (c0 : Nat) (l0 : List ByteArray) (A1 : Option Addr) (c1 : Nat) (l1 : List ByteArray) (a2 : Int) (A3 : Option Addr) (c3 : Nat) (l3 : List GRule) (W : World) : Prop where
  box : InBox w.heap.size A0 c0 l0 A1 c1 l1 a2 A3 c3 l3 W
  bel : Below w.heap.size w W
theorem InB.step {w : World} {A0 : Option Addr} {c0 : Nat} {l0 : List ByteArray} {A1 : Option Addr} {c1 : Nat} {l1 : List ByteArray} {a2 : Int} {A3 : Option Addr} {c3 : Nat} {l3 : List GRule} {W W' : World} (h : InB w A0 c0 l0 A1 c1 l1 a2 A3 c3 l3 W) (hb : Below W.heap.size W W') : InB w A0 c0 l0 A1 c1 l1 a2 A3 c3 l3 W' :=
  ⟨h.box.below hb, h.bel.trans (hb.mono h.bel.size)⟩
theorem InB.c0 {w : World} {A0 : Option Addr} {c0 : Nat} {l0 : List ByteArray} {A1 : Option Addr} {c1 : Nat} {l1 : List ByteArray} {a2 : Int} {A3 : Option Addr} {c3 : Nat} {l3 : List GRule} {W : World} (h : InB w A0 c0 l0 A1 c1 l1 a2 A3 c3 l3 W) : W.cell? ⟨w.heap.size, 0, none⟩ = some (.slice A0 l0.length c0) := (blk_cell h.box.1 0).trans rfl
theorem InB.c1 {w : World} {A0 : Option Addr} {c0 : Nat} {l0 : List ByteArray} {A1 : Option Addr} {c1 : Nat} {l1 : List ByteArray} {a2 : Int} {A3 : Option Addr} {c3 : Nat} {l3 : List GRule} {W : World} (h : InB w A0 c0 l0 A1 c1 l1 a2 A3 c3 l3 W) : W.cell? ⟨w.heap.size, 1, none⟩ = some (.slice A1 l1.length c1) := (blk_cell h.box.1 1).trans rfl
theorem InB.c2 {w : World} {A0 : Option Addr} {c0 : Nat} {l0 : List ByteArray} {A1 : Option Addr} {c1 : Nat} {l1 : List ByteArray} {a2 : Int} {A3 : Option Addr} {c3 : Nat} {l3 : List GRule} {W : World} (h : InB w A0 c0 l0 A1 c1 l1 a2 A3 c3 l3 W) : W.cell? ⟨w.heap.size, 2, none⟩ = some (.int .i64 a2) := (blk_cell h.box.1 2).trans rfl
theorem InB.c3 {w : World} {A0 : Option Addr} {c0 : Nat} {l0 : List ByteArray} {A1 : Option Addr} {c1 : Nat} {l1 : List ByteArray} {a2 : Int} {A3 : Option Addr} {c3 : Nat} {l3 : List GRule} {W : World} (h : InB w A0 c0 l0 A1 c1 l1 a2 A3 c3 l3 W) : W.cell? ⟨w.heap.size, 3, none⟩ = some (.slice A3 l3.length c3) := (blk_cell h.box.1 3).trans rfl
theorem InB.r0 {w : World} {A0 : Option Addr} {c0 : Nat} {l0 : List ByteArray} {A1 : Option Addr} {c1 : Nat} {l1 : List ByteArray} {a2 : Int} {A3 : Option Addr} {c3 : Nat} {l3 : List GRule} {W : World} (h : InB w A0 c0 l0 A1 c1 l1 a2 A3 c3 l3 W) : Kd.C Kd.string W A0 l0.length l0 := h.box.2.1
theorem InB.r1 {w : World} {A0 : Option Addr} {c0 : Nat} {l0 : List ByteArray} {A1 : Option Addr} {c1 : Nat} {l1 : List ByteArray} {a2 : Int} {A3 : Option Addr} {c3 : Nat} {l3 : List GRule} {W : World} (h : InB w A0 c0 l0 A1 c1 l1 a2 A3 c3 l3 W) : Kd.C Kd.string W A1 l1.length l1 := h.box.2.2.1
theorem InB.r3 {w : World} {A0 : Option Addr} {c0 : Nat} {l0 : List ByteArray} {A1 : Option Addr} {c1 : Nat} {l1 : List ByteArray} {a2 : Int} {A3 : Option Addr} {c3 : Nat} {l3 : List GRule} {W : World} (h : InB w A0 c0 l0 A1 c1 l1 a2 A3 c3 l3 W) : Kd.C k32 W A3 l3.length l3 := h.box.2.2.2
set_option maxHeartbeats 8000000 in
set_option maxRecDepth 100000 in
theorem check_rest (A0 : Option Addr) (c0 : Nat) (l0 : List ByteArray) (A1 : Option Addr) (c1 : Nat) (l1 : List ByteArray) (a2 : Int) (A3 : Option Addr) (c3 : Nat) (l3 : List GRule) (hok : gramOk l0 l1 a2 l3 = true) (h0 : l0.length ≤ c0) (h1 : l1.length ≤ c1) (h3 : l3.length ≤ c3)
    (w : World) (hG : Laid w) (hr0 : Kd.C Kd.string w A0 l0.length l0) (hr1 : Kd.C Kd.string w A1 l1.length l1) (hr3 : Kd.C k32 w A3 l3.length l3) (hx : ¬ (l0.length = 0 ∨ 2048 < l0.length ∨ 2048 < l1.length ∨ 8192 < l3.length)) :
    Calls Tryd.prog 26 #[.agg #[.slice A0 l0.length c0, .slice A1 l1.length c1, .int .i64 a2, .slice A3 l3.length c3]] w fun e w' => e = .returned (.int .i64 (checkC nmB mkB l0 l1 a2 l3)) ∧ Below w.heap.size w w' := by
  have hu := Tryd.underlying25
  simp only [gramOk, Bool.and_eq_true, decide_eq_true_eq] at hok
  have b0 := hok.1.1.1.1.1.1
  have b1 := hok.1.1.1.1.1.2
  have b3 := hok.1.1.1.1.2
  have s0 : ∀ s ∈ l0, s.size ≤ 1000000000 := fun s hs => of_decide_eq_true (List.all_eq_true.1 hok.1.1.1.2 s hs)
  have s1 : ∀ s ∈ l1, s.size ≤ 1000000000 := fun s hs => of_decide_eq_true (List.all_eq_true.1 hok.1.1.2 s hs)
  have S0 := Lib.hid s0
  have S1 := Lib.hid s1
  have OKR := Lib.hid hok.2
  have HG := Lib.hid hG
  have HX : Hid (checkC nmB mkB l0 l1 a2 l3 = if texC nmB l0 = 1 ∨ texC mkB l1 = 1 then 1 else if texC nmB l0 = 2 ∨ texC mkB l1 = 2 then 2 else if a2 < 0 ∨ (l0.length : Int) ≤ a2 then 3 else rulesC l0.length l1.length l3) := Lib.hid (by unfold checkC; rw [if_neg hx])
  have ha := texC_range nmB l0
  have hb := texC_range mkB l1
  obtain ⟨a, hea⟩ : ∃ a, texC nmB l0 = a := ⟨_, rfl⟩
  obtain ⟨b, heb⟩ : ∃ b, texC mkB l1 = b := ⟨_, rfl⟩
  rw [hea] at ha HX
  rw [heb] at hb HX
  have HEA := Lib.hid hea
  have HEB := Lib.hid heb
  have HA := Lib.hid ha
  have HBB := Lib.hid hb
  have e0 : ((l0.length : Int) == 0) = false := by simp; intro h; exact hx (.inl (by rw [h]; rfl))
  have e1 : decide ((2048 : Int) < (l0.length : Int)) = false := decide_eq_false (by omega)
  have e2 : decide ((2048 : Int) < (l1.length : Int)) = false := decide_eq_false (by omega)
  have e3 : decide ((8192 : Int) < (l3.length : Int)) = false := decide_eq_false (by omega)
  have hbx : InBox w.heap.size A0 c0 l0 A1 c1 l1 a2 A3 c3 l3 (w.alloc (.cells #[.slice A0 l0.length c0, .slice A1 l1.length c1, .int .i64 a2, .slice A3 l3.length c3] 25)) := ⟨blk_new w _, Kd.C_alloc hr0 _, Kd.C_alloc hr1 _, Kd.C_alloc hr3 _⟩
  have hB0 : Below w.heap.size w (w.alloc (.cells #[.slice A0 l0.length c0, .slice A1 l1.length c1, .int .i64 a2, .slice A3 l3.length c3] 25)) := (Below.refl _ _).alloc (Nat.le_refl _) _
  have HBX := Lib.hid hbx
  have HB0 := Lib.hid hB0
  clear hok s0 s1 hG hx ha hb hea heb hbx hB0
  go_enter Tryd.func26, Tryd.ntmps26
  go_wp2_with fail
  have hIB : InB w A0 c0 l0 A1 c1 l1 a2 A3 c3 l3 (w.alloc (.cells #[.slice A0 l0.length c0, .slice A1 l1.length c1, .int .i64 a2, .slice A3 l3.length c3] 25)) := ⟨HBX.out, HB0.out⟩
  generalize w.alloc (.cells #[.slice A0 l0.length c0, .slice A1 l1.length c1, .int .i64 a2, .slice A3 l3.length c3] 25) = w1 at *
  clear HBX HB0
  have hIB1 : InB w A0 c0 l0 A1 c1 l1 a2 A3 c3 l3 w1.drew := ⟨hIB.box, hIB.bel.drew⟩
  have hz0 := hIB1.c0
  have hz1 := hIB1.c1
  go_region_held3 (fun w' => w'.cell? ⟨w.heap.size, 0, none⟩ = some (.slice A0 l0.length c0) ∧ w'.cell? ⟨w.heap.size, 1, none⟩ = some (.slice A1 l1.length c1) ∧ InB w A0 c0 l0 A1 c1 l1 a2 A3 c3 l3 w')
    (first | (refine ⟨?_, ?_, ?_⟩ <;> assumption) | go_keep)
    (first | (go_at_call 92; (with_reducible refine (texts_name A0 c0 l0 _ ?_ h0 b0 S0.out).mono ?_); (first | exact hIB2.box.2.1 | exact hIB1.box.2.1); rintro e w2 ⟨rfl, hb2⟩; (first | have hIB3 := hIB2.step hb2 | have hIB2 := hIB1.step hb2); (first | (have hy0 := hIB3.c0; have hy1 := hIB3.c1) | (have hx0 := hIB2.c0; have hx1 := hIB2.c1)); clear hb2) | (go_at_call 92; (with_reducible refine (texts_mark A1 c1 l1 _ ?_ h1 b1 S1.out).mono ?_); (first | exact hIB2.box.2.2.1 | exact hIB1.box.2.2.1); rintro e w3 ⟨rfl, hb3⟩; (first | have hIB3 := hIB2.step hb3 | have hIB2 := hIB1.step hb3); (first | (have hy0 := hIB3.c0; have hy1 := hIB3.c1) | (have hx0 := hIB2.c0; have hx1 := hIB2.c1)); clear hb3))
  rw [HEA.out, HEB.out]
  clear hz0 hz1 hx0 hx1 hy0 hy1 hIB hIB1 hIB2 HEA HEB
  have HI3 := Lib.hid hIB3
  clear hIB3
  have hB3 : Below w.heap.size w w3 := HI3.out.bel
  go_wp2_with fail
  go_loop [6, 37] (fun _ i => ∃ k : Nat, k ≤ 2 ∧ i = .int .i64 k ∧ (1 ≤ k → a ≠ 1 ∧ b ≠ 1) ∧ (2 ≤ k → a ≠ 2 ∧ b ≠ 2)) (fun _ i => 2 - (intOf i).toNat)
  case atStart => exact ⟨0, by omega, rfl, fun h => by omega, fun h => by omega⟩
  case round =>
    obtain ⟨k, hk, rfl, k1, k2⟩ := hrel
    have K1 := Lib.hid k1
    have K2 := Lib.hid k2
    clear k1 k2
    by_cases hk0 : k = 0
    · subst hk0
      by_cases ea : a = 1
      · have q1 : (a == 1) = true := by simp [ea]
        have EA := Lib.hid ea
        clear ea
        go_wp2
        go_ret
        exact ⟨by rw [HX.out, if_pos (.inl EA.out)]; rfl, hB3.alloc hB3.size _⟩
      have q1 : (a == 1) = false := by simp [ea]
      by_cases eb : b = 1
      · have q2 : (b == 1) = true := by simp [eb]
        have EB := Lib.hid eb
        clear eb
        go_wp2
        go_ret
        exact ⟨by rw [HX.out, if_pos (.inr EB.out)]; rfl, hB3.alloc hB3.size _⟩
      have q2 : (b == 1) = false := by simp [eb]
      go_wp2
      go_round
      case rel => exact ⟨1, by omega, by go_num, fun _ => ⟨ea, eb⟩, fun h => by omega⟩
      case measure => simp [intOf]
    by_cases hk1 : k = 1
    · subst hk1
      have hn1 := K1.out (by omega)
      by_cases ea : a = 2
      · have q1 : (a == 2) = true := by simp [ea]
        have EA := Lib.hid ea
        have HN := Lib.hid hn1
        clear ea hn1
        go_wp2
        go_ret
        exact ⟨by rw [HX.out, if_neg (fun h => h.elim HN.out.1 HN.out.2), if_pos (.inl EA.out)]; rfl, hB3.alloc hB3.size _⟩
      have q1 : (a == 2) = false := by simp [ea]
      by_cases eb : b = 2
      · have q2 : (b == 2) = true := by simp [eb]
        have EB := Lib.hid eb
        have HN := Lib.hid hn1
        clear eb hn1
        go_wp2
        go_ret
        exact ⟨by rw [HX.out, if_neg (fun h => h.elim HN.out.1 HN.out.2), if_pos (.inr EB.out)]; rfl, hB3.alloc hB3.size _⟩
      have q2 : (b == 2) = false := by simp [eb]
      have HN := Lib.hid hn1
      have HE := Lib.hid (show a ≠ 2 ∧ b ≠ 2 from ⟨ea, eb⟩)
      clear hn1 ea eb
      go_wp2
      go_round
      case rel => exact ⟨2, by omega, by go_num, fun _ => HN.out, fun _ => HE.out⟩
      case measure => simp [intOf]
    obtain rfl : k = 2 := by omega
    have HC : Hid (checkC nmB mkB l0 l1 a2 l3 = if a2 < 0 ∨ (l0.length : Int) ≤ a2 then 3 else rulesC l0.length l1.length l3) := Lib.hid (by
      rw [HX.out, if_neg (fun h => h.elim (K1.out (by omega)).1 (K1.out (by omega)).2), if_neg (fun h => h.elim (K2.out (by omega)).1 (K2.out (by omega)).2)])
    clear hk0 hk1 HX K1 K2 HA HBB
    have hI4 := HI3.out.step ((Below.refl _ _).alloc (Nat.le_refl _) (.cells #[.int .i64 1, .int .i64 2] 41))
    have hv0 := hI4.c0
    have hv1 := hI4.c1
    have hv2 := hI4.c2
    have hv3 := hI4.c3
    have HI4 := Lib.hid hI4
    clear hI4
    by_cases n1 : a2 < 0
    · clear hv1 hv3
      go_wp2
      go_ret
      exact ⟨by rw [HC.out, if_pos (.inl n1)]; rfl, hB3.alloc hB3.size _⟩
    have m1 : decide (a2 < 0) = false := decide_eq_false n1
    by_cases n2 : (l0.length : Int) ≤ a2
    · have m2 : decide ((l0.length : Int) ≤ a2) = true := decide_eq_true n2
      clear hv1 hv3
      go_wp2
      go_ret
      exact ⟨by rw [HC.out, if_pos (.inr n2)]; rfl, hB3.alloc hB3.size _⟩
    have m2 : decide ((l0.length : Int) ≤ a2) = false := decide_eq_false n2
    go_wp2_with fail
    refine (rules_calls A0 c0 l0 A1 c1 l1 a2 A3 c3 l3 h0 h1 h3 b3 b0 OKR.out _ (Laid.below HG.out HI4.out.bel) HI4.out.box.2.1 HI4.out.box.2.2.1 HI4.out.box.2.2.2).mono ?_
    rintro e w5 ⟨rfl, hb5⟩
    go_wp2_with fail
    go_ret
    exact ⟨by rw [HC.out, if_neg (by omega)]; rfl, HI4.out.bel.trans (hb5.mono HI4.out.bel.size)⟩
end Go.Proofs.YtmdjmbdeeodehaaDoor.G
end
section
namespace Go.Proofs.YtmdjmbdeeodehaaDoor.G
open Go.RowKit Go.Proofs.YtmdjmbdeeodehaaDoorW.PrintWords Go.Proofs.YtmdjmbdeeodehaaDoorW.PrintLast Go.Proofs.YtmdjmbdeeodehaaDoorW.PrintMore
attribute [local go_sem] max2_int min2_int max_two min_two max_three min_three max_four min_four
attribute [local go_sem] Go.Proofs.YtmdjmbdeeodehaaDoorOwn.isSome_setCell
set_option linter.unusedVariables false
set_option linter.unusedSimpArgs false
def gram_Grammar_Check.f (l0_0 : List ByteArray) (l0_1 : List ByteArray) (a0_2 : Int) (l0_3 : List GRule) : Option Int := if gramOk l0_0 l0_1 a0_2 l0_3 = true then some (checkC nmB mkB l0_0 l0_1 a0_2 l0_3) else none
theorem gram_Grammar_Check.calls (A0_0 : Option Addr) (c0_0 : Nat) (l0_0 : List ByteArray) (A0_1 : Option Addr) (c0_1 : Nat) (l0_1 : List ByteArray) (a0_2 : Int) (A0_3 : Option Addr) (c0_3 : Nat) (l0_3 : List GRule) (r : Int) (w : World) (hG : Laid w) (hr0_0 : Kd.C Kd.string w A0_0 l0_0.length l0_0) (hc0_0 : l0_0.length ≤ c0_0) (hr0_1 : Kd.C Kd.string w A0_1 l0_1.length l0_1) (hc0_1 : l0_1.length ≤ c0_1) (hr0_3 : Kd.C k32 w A0_3 l0_3.length l0_3) (hc0_3 : l0_3.length ≤ c0_3) (h : gram_Grammar_Check.f l0_0 l0_1 a0_2 l0_3 = some r) :
  Calls Tryd.prog 26 #[.agg #[.slice A0_0 l0_0.length c0_0, .slice A0_1 l0_1.length c0_1, .int .i64 a0_2, .slice A0_3 l0_3.length c0_3]] w fun e w' => e = .returned (.int .i64 r) ∧ Below w.heap.size w w' := by
 unfold gram_Grammar_Check.f at h
 split at h
 ·rename_i hok
  obtain rfl := Option.some.inj h
  by_cases hx : l0_0.length = 0 ∨ 2048 < l0_0.length ∨ 2048 < l0_1.length ∨ 8192 < l0_3.length
  ·have e : checkC nmB mkB l0_0 l0_1 a0_2 l0_3 = 11 := by unfold checkC; rw [if_pos hx]
   rw [e]
   exact check_full A0_0 c0_0 l0_0 A0_1 c0_1 l0_1 a0_2 A0_3 c0_3 l0_3 hok w hr0_0 hr0_1 hr0_3 hx
  ·exact check_rest A0_0 c0_0 l0_0 A0_1 c0_1 l0_1 a0_2 A0_3 c0_3 l0_3 hok hc0_0 hc0_1 hc0_3 w hG hr0_0 hr0_1 hr0_3 hx
 ·cases h
end Go.Proofs.YtmdjmbdeeodehaaDoor.G
end
section
namespace Go.Proofs.YtmdjmbdeeodehaaDoor.G
open Go.RowKit Go.Proofs.YtmdjmbdeeodehaaDoorW.PrintWords Go.Proofs.YtmdjmbdeeodehaaDoorW.PrintLast Go.Proofs.YtmdjmbdeeodehaaDoorW.PrintMore
attribute [local go_sem] max2_int min2_int max_two min_two max_three min_three max_four min_four
attribute [local go_sem] Go.Proofs.YtmdjmbdeeodehaaDoorOwn.isSome_setCell
set_option linter.unusedVariables false
set_option linter.unusedSimpArgs false
def wickerlaw01_Awake.f (k : Nat)  : Option (Bool) := (names_Quote.f (⟨#[97, 34, 98]⟩ : ByteArray)).bind fun t101 => (if t101.toList = ([34, 97, 92, 34, 98, 34] : List UInt8) then ((names_Fresh.f k (([(⟨#[83]⟩ : ByteArray), (⟨#[83, 45, 49]⟩ : ByteArray)] : List ByteArray)) (⟨#[83]⟩ : ByteArray)).bind fun t105 => (if t105.toList = ([83, 45, 50] : List UInt8) then ((names_Name.f k (⟨#[97, 45, 49]⟩ : ByteArray)).bind fun t106 => (if t106 = true then ((names_Name.f k (⟨#[49, 97]⟩ : ByteArray)).bind fun t107 => (some (!t107))) else (some false))) else (some false))) else (some false))
set_option maxHeartbeats 8000000 in
set_option maxRecDepth 100000 in
theorem wickerlaw01_Awake.calls (k : Nat)  (r : Bool) (w : World) (hG : Laid w) (h : wickerlaw01_Awake.f k  = some r) :
  Calls Tryd.prog 136 #[] w fun e w' => e = .returned (.bool r) ∧ Below w.heap.size w w' := by
 have HG := Aside0.mk hG
 clear hG
 have HB := Aside0.mk (Below.refl w.heap.size w)
 have H : ((names_Quote.f (⟨#[97, 34, 98]⟩ : ByteArray)).bind fun t101 => (if t101.toList = ([34, 97, 92, 34, 98, 34] : List UInt8) then ((names_Fresh.f k (([(⟨#[83]⟩ : ByteArray), (⟨#[83, 45, 49]⟩ : ByteArray)] : List ByteArray)) (⟨#[83]⟩ : ByteArray)).bind fun t105 => (if t105.toList = ([83, 45, 50] : List UInt8) then ((names_Name.f k (⟨#[97, 45, 49]⟩ : ByteArray)).bind fun t106 => (if t106 = true then ((names_Name.f k (⟨#[49, 97]⟩ : ByteArray)).bind fun t107 => (some (!t107))) else (some false))) else (some false))) else (some false))) = some r := h
 clear h
 replace H := Option.bind_eq_some_iff.mp H
 obtain ⟨t101, A10, H⟩ := H
 replace H : (if t101.toList = ([34, 97, 92, 34, 98, 34] : List UInt8) then ((names_Fresh.f k (([(⟨#[83]⟩ : ByteArray), (⟨#[83, 45, 49]⟩ : ByteArray)] : List ByteArray)) (⟨#[83]⟩ : ByteArray)).bind fun t105 => (if t105.toList = ([83, 45, 50] : List UInt8) then ((names_Name.f k (⟨#[97, 45, 49]⟩ : ByteArray)).bind fun t106 => (if t106 = true then ((names_Name.f k (⟨#[49, 97]⟩ : ByteArray)).bind fun t107 => (some (!t107))) else (some false))) else (some false))) else (some false)) = some r := H
 have A1 := Aside0.mk A10
 clear A10
 by_cases c2 : t101.toList = ([34, 97, 92, 34, 98, 34] : List UInt8)
 ·rw [if_pos c2] at H
  have c2b0 : (t101.toList == ([34, 97, 92, 34, 98, 34] : List UInt8)) = true := beq_iff_eq.mpr c2
  have c2b1 : (t101.toList != ([34, 97, 92, 34, 98, 34] : List UInt8)) = false := bne_eq_false_iff_eq.mpr c2
  clear c2
  obtain ⟨y102, hy102⟩ : ∃ y_ : List ByteArray, y_ = (([(⟨#[83]⟩ : ByteArray), (⟨#[83, 45, 49]⟩ : ByteArray)] : List ByteArray)) := ⟨_, rfl⟩
  replace H : ((names_Fresh.f k y102 (⟨#[83]⟩ : ByteArray)).bind fun t105 => (if t105.toList = ([83, 45, 50] : List UInt8) then ((names_Name.f k (⟨#[97, 45, 49]⟩ : ByteArray)).bind fun t106 => (if t106 = true then ((names_Name.f k (⟨#[49, 97]⟩ : ByteArray)).bind fun t107 => (some (!t107))) else (some false))) else (some false))) = some r := by first | (rw [hy102]; with_reducible exact H) | (have H2_ := (Option.bind_some _ _).symm.trans H; rw [hy102]; with_reducible exact H2_) | (have H2_ := (Option.bind_some _ _).symm.trans H; with_reducible exact H2_) | with_reducible exact H | (rw [hy102]; exact H) | exact H
  have Ny102 := Aside0.mk hy102
  clear hy102
  replace H := Option.bind_eq_some_iff.mp H
  obtain ⟨t105, A30, H⟩ := H
  replace H : (if t105.toList = ([83, 45, 50] : List UInt8) then ((names_Name.f k (⟨#[97, 45, 49]⟩ : ByteArray)).bind fun t106 => (if t106 = true then ((names_Name.f k (⟨#[49, 97]⟩ : ByteArray)).bind fun t107 => (some (!t107))) else (some false))) else (some false)) = some r := H
  have A3 := Aside0.mk A30
  clear A30
  by_cases c4 : t105.toList = ([83, 45, 50] : List UInt8)
  ·rw [if_pos c4] at H
   have c4b0 : (t105.toList == ([83, 45, 50] : List UInt8)) = true := beq_iff_eq.mpr c4
   have c4b1 : (t105.toList != ([83, 45, 50] : List UInt8)) = false := bne_eq_false_iff_eq.mpr c4
   clear c4
   replace H := Option.bind_eq_some_iff.mp H
   obtain ⟨t106, A50, H⟩ := H
   replace H : (if t106 = true then ((names_Name.f k (⟨#[49, 97]⟩ : ByteArray)).bind fun t107 => (some (!t107))) else (some false)) = some r := H
   have A5 := Aside0.mk A50
   clear A50
   by_cases c6 : t106 = true
   ·subst c6
    have H1 : ((names_Name.f k (⟨#[49, 97]⟩ : ByteArray)).bind fun t107 => (some (!t107))) = some r := by rw [if_pos rfl] at H; exact H
    clear H
    have H := H1
    clear H1
    replace H := Option.bind_eq_some_iff.mp H
    obtain ⟨t107, A70, H⟩ := H
    replace H : (some (!t107)) = some r := H
    have A7 := Aside0.mk A70
    clear A70
    obtain rfl := Option.some.inj H
    go_enter Tryd.func136, Tryd.ntmps136
    go_wp2_with (first | ((with_reducible refine gate_callee (f := 150) rfl ?_); refine goesL_ (some 1) rfl rfl Tryd.func150 (by kernel_rfl) rfl #[.string (⟨#[97, 34, 98]⟩ : ByteArray)] rfl (by (try simp only [List.map_toArray, List.map_cons, List.map_nil]); first | done | rfl | (simp only [List.length_drop, List.length_take]; rfl)) ?_; (with_reducible refine (names_Quote.calls (⟨#[97, 34, 98]⟩ : ByteArray) t101 _ A1.out).mono ?_); rintro e w8 ⟨rfl, hb⟩; refine ⟨_, rfl, ?_⟩; have n0_ := Aside0.mk (below_step (by repeat (first | (with_reducible first | exact HB.out | apply below_alloc | apply pw_below_drewN | apply below_drew1) | exact HB.out)) hb); clear HB; have HB := n0_; clear n0_; (try clear hb); (try clear hb2); (try clear hk); (try clear hi)) | ((with_reducible refine gate_dst (N := 4) rfl ?_); (try (refine gate_guard (by rfl) ?_; dsimp only)); refine Kd.R_lit Kd.string _ 9 ?hg (N := 4) ?hd (xs := ([(⟨#[83]⟩ : ByteArray), (⟨#[83, 45, 49]⟩ : ByteArray)] : List ByteArray)) (inner := [.string (⟨#[83]⟩ : ByteArray), .string (⟨#[83, 45, 49]⟩ : ByteArray)]) (ok := fun _ => True) (okp := fun _ => True) ?hr ?hp (fun _ hk => hk) trivial (Below.refl _ _) (Nat.le_refl _) (by simp) ?_; (case hd => rfl); (case hg => rfl); (case hr => first | (go_simp; done) | (go_simp; rfl)); (case hp => exact (Reps.one (show Kd.M Kd.string _ _ _ (⟨#[83]⟩ : ByteArray) [.string (⟨#[83]⟩ : ByteArray)] from rfl) (Reps.one (show Kd.M Kd.string _ _ _ (⟨#[83, 45, 49]⟩ : ByteArray) [.string (⟨#[83, 45, 49]⟩ : ByteArray)] from rfl) (Reps.none _ _)))); intro v103 w9 ho10 hb hg_ hnew_; clear hg_ hnew_; (first | rw [← Ny102.out] at ho10 | (simp only [Int.reduceToNat] at ho10; rw [← Ny102.out] at ho10)); have n0_ := Aside0.mk (Kd.R_lower ho10 (below_size (by repeat (first | (with_reducible first | exact HB.out | apply below_alloc | apply pw_below_drewN | apply below_drew1) | exact HB.out)))); have n1_ := Aside0.mk (below_step (by repeat (first | (with_reducible first | exact HB.out | apply below_alloc | apply pw_below_drewN | apply below_drew1) | exact HB.out)) hb); clear HB; have HO104 := n0_; have HB := n1_; clear n0_ n1_; clear hb ho10; obtain ⟨Ao11, co11, eo11⟩ := Kd.R_slice HO104.out; subst eo11) | (go_at_call 111; (with_reducible refine (names_Fresh.calls k _ _ y102 (⟨#[83]⟩ : ByteArray) t105 _ ?side1 ?side2 ?side3 A3.out).mono ?_); (case side1 => exact Laid.below HG.out (by repeat (first | (with_reducible first | exact HB.out | apply below_alloc | apply pw_below_drewN | apply below_drew1) | exact HB.out))); (case side2 => repeat (first | exact (Kd.R_reads' HO104.out).2.2 | (with_reducible refine Kd.C_alloc ?_ _) | (with_reducible refine Kd.C_drewN ?_ _) | (with_reducible refine Kd.C_drew ?_))); (case side3 => exact (Kd.R_reads' HO104.out).2.1); rintro e w12 ⟨rfl, hb⟩; have n0_ := Aside0.mk (Kd.R_below (by (with_reducible repeat (first | apply Kd.R_alloc | apply Kd.R_drewN | apply Kd.R_drew)); exact HO104.out) hb); have n1_ := Aside0.mk (below_step (by repeat (first | (with_reducible first | exact HB.out | apply below_alloc | apply pw_below_drewN | apply below_drew1) | exact HB.out)) hb); clear HO104; clear HB; have HO104 := n0_; have HB := n1_; clear n0_ n1_; (try clear hb); (try clear hb2); (try clear hk); (try clear hi)) | (go_at_call 93; (with_reducible refine (names_Name.calls k (⟨#[97, 45, 49]⟩ : ByteArray) true _ A5.out).mono ?_); rintro e w' ⟨rfl, ⟨nd, rfl⟩⟩) | (go_at_call 93; (with_reducible refine (names_Name.calls k (⟨#[49, 97]⟩ : ByteArray) t107 _ A7.out).mono ?_); rintro e w' ⟨rfl, ⟨nd, rfl⟩⟩))
    go_ret
    exact ⟨by first | rfl | (simp [errW_none, errW_some] <;> rfl) | (simp [*, errW_none, errW_some] <;> rfl), by repeat (first | (with_reducible first | exact HB.out | apply below_alloc | apply pw_below_drewN | apply below_drew1) | exact HB.out)⟩
   ·replace c6 := Bool.eq_false_iff.mpr c6
    subst c6
    have H1 : (some false) = some r := by rw [if_neg (show ¬ (false = true) by decide)] at H; exact H
    clear H
    have H := H1
    clear H1
    obtain rfl := Option.some.inj H
    go_enter Tryd.func136, Tryd.ntmps136
    go_wp2_with (first | ((with_reducible refine gate_callee (f := 150) rfl ?_); refine goesL_ (some 1) rfl rfl Tryd.func150 (by kernel_rfl) rfl #[.string (⟨#[97, 34, 98]⟩ : ByteArray)] rfl (by (try simp only [List.map_toArray, List.map_cons, List.map_nil]); first | done | rfl | (simp only [List.length_drop, List.length_take]; rfl)) ?_; (with_reducible refine (names_Quote.calls (⟨#[97, 34, 98]⟩ : ByteArray) t101 _ A1.out).mono ?_); rintro e w13 ⟨rfl, hb⟩; refine ⟨_, rfl, ?_⟩; have n0_ := Aside0.mk (below_step (by repeat (first | (with_reducible first | exact HB.out | apply below_alloc | apply pw_below_drewN | apply below_drew1) | exact HB.out)) hb); clear HB; have HB := n0_; clear n0_; (try clear hb); (try clear hb2); (try clear hk); (try clear hi)) | ((with_reducible refine gate_dst (N := 4) rfl ?_); (try (refine gate_guard (by rfl) ?_; dsimp only)); refine Kd.R_lit Kd.string _ 9 ?hg (N := 4) ?hd (xs := ([(⟨#[83]⟩ : ByteArray), (⟨#[83, 45, 49]⟩ : ByteArray)] : List ByteArray)) (inner := [.string (⟨#[83]⟩ : ByteArray), .string (⟨#[83, 45, 49]⟩ : ByteArray)]) (ok := fun _ => True) (okp := fun _ => True) ?hr ?hp (fun _ hk => hk) trivial (Below.refl _ _) (Nat.le_refl _) (by simp) ?_; (case hd => rfl); (case hg => rfl); (case hr => first | (go_simp; done) | (go_simp; rfl)); (case hp => exact (Reps.one (show Kd.M Kd.string _ _ _ (⟨#[83]⟩ : ByteArray) [.string (⟨#[83]⟩ : ByteArray)] from rfl) (Reps.one (show Kd.M Kd.string _ _ _ (⟨#[83, 45, 49]⟩ : ByteArray) [.string (⟨#[83, 45, 49]⟩ : ByteArray)] from rfl) (Reps.none _ _)))); intro v103 w14 ho15 hb hg_ hnew_; clear hg_ hnew_; (first | rw [← Ny102.out] at ho15 | (simp only [Int.reduceToNat] at ho15; rw [← Ny102.out] at ho15)); have n0_ := Aside0.mk (Kd.R_lower ho15 (below_size (by repeat (first | (with_reducible first | exact HB.out | apply below_alloc | apply pw_below_drewN | apply below_drew1) | exact HB.out)))); have n1_ := Aside0.mk (below_step (by repeat (first | (with_reducible first | exact HB.out | apply below_alloc | apply pw_below_drewN | apply below_drew1) | exact HB.out)) hb); clear HB; have HO104 := n0_; have HB := n1_; clear n0_ n1_; clear hb ho15; obtain ⟨Ao16, co16, eo16⟩ := Kd.R_slice HO104.out; subst eo16) | (go_at_call 111; (with_reducible refine (names_Fresh.calls k _ _ y102 (⟨#[83]⟩ : ByteArray) t105 _ ?side1 ?side2 ?side3 A3.out).mono ?_); (case side1 => exact Laid.below HG.out (by repeat (first | (with_reducible first | exact HB.out | apply below_alloc | apply pw_below_drewN | apply below_drew1) | exact HB.out))); (case side2 => repeat (first | exact (Kd.R_reads' HO104.out).2.2 | (with_reducible refine Kd.C_alloc ?_ _) | (with_reducible refine Kd.C_drewN ?_ _) | (with_reducible refine Kd.C_drew ?_))); (case side3 => exact (Kd.R_reads' HO104.out).2.1); rintro e w17 ⟨rfl, hb⟩; have n0_ := Aside0.mk (Kd.R_below (by (with_reducible repeat (first | apply Kd.R_alloc | apply Kd.R_drewN | apply Kd.R_drew)); exact HO104.out) hb); have n1_ := Aside0.mk (below_step (by repeat (first | (with_reducible first | exact HB.out | apply below_alloc | apply pw_below_drewN | apply below_drew1) | exact HB.out)) hb); clear HO104; clear HB; have HO104 := n0_; have HB := n1_; clear n0_ n1_; (try clear hb); (try clear hb2); (try clear hk); (try clear hi)) | (go_at_call 93; (with_reducible refine (names_Name.calls k (⟨#[97, 45, 49]⟩ : ByteArray) false _ A5.out).mono ?_); rintro e w' ⟨rfl, ⟨nd, rfl⟩⟩))
    go_ret
    exact ⟨by first | rfl | (simp [errW_none, errW_some] <;> rfl) | (simp [*, errW_none, errW_some] <;> rfl), by repeat (first | (with_reducible first | exact HB.out | apply below_alloc | apply pw_below_drewN | apply below_drew1) | exact HB.out)⟩
  ·rw [if_neg c4] at H
   have c4b0 : (t105.toList == ([83, 45, 50] : List UInt8)) = false := beq_eq_false_iff_ne.mpr c4
   have c4b1 : (t105.toList != ([83, 45, 50] : List UInt8)) = true := bne_iff_ne.mpr c4
   obtain rfl := Option.some.inj H
   go_enter Tryd.func136, Tryd.ntmps136
   go_wp2_with (first | ((with_reducible refine gate_callee (f := 150) rfl ?_); refine goesL_ (some 1) rfl rfl Tryd.func150 (by kernel_rfl) rfl #[.string (⟨#[97, 34, 98]⟩ : ByteArray)] rfl (by (try simp only [List.map_toArray, List.map_cons, List.map_nil]); first | done | rfl | (simp only [List.length_drop, List.length_take]; rfl)) ?_; (with_reducible refine (names_Quote.calls (⟨#[97, 34, 98]⟩ : ByteArray) t101 _ A1.out).mono ?_); rintro e w18 ⟨rfl, hb⟩; refine ⟨_, rfl, ?_⟩; have n0_ := Aside0.mk (below_step (by repeat (first | (with_reducible first | exact HB.out | apply below_alloc | apply pw_below_drewN | apply below_drew1) | exact HB.out)) hb); clear HB; have HB := n0_; clear n0_; (try clear hb); (try clear hb2); (try clear hk); (try clear hi)) | ((with_reducible refine gate_dst (N := 4) rfl ?_); (try (refine gate_guard (by rfl) ?_; dsimp only)); refine Kd.R_lit Kd.string _ 9 ?hg (N := 4) ?hd (xs := ([(⟨#[83]⟩ : ByteArray), (⟨#[83, 45, 49]⟩ : ByteArray)] : List ByteArray)) (inner := [.string (⟨#[83]⟩ : ByteArray), .string (⟨#[83, 45, 49]⟩ : ByteArray)]) (ok := fun _ => True) (okp := fun _ => True) ?hr ?hp (fun _ hk => hk) trivial (Below.refl _ _) (Nat.le_refl _) (by simp) ?_; (case hd => rfl); (case hg => rfl); (case hr => first | (go_simp; done) | (go_simp; rfl)); (case hp => exact (Reps.one (show Kd.M Kd.string _ _ _ (⟨#[83]⟩ : ByteArray) [.string (⟨#[83]⟩ : ByteArray)] from rfl) (Reps.one (show Kd.M Kd.string _ _ _ (⟨#[83, 45, 49]⟩ : ByteArray) [.string (⟨#[83, 45, 49]⟩ : ByteArray)] from rfl) (Reps.none _ _)))); intro v103 w19 ho20 hb hg_ hnew_; clear hg_ hnew_; (first | rw [← Ny102.out] at ho20 | (simp only [Int.reduceToNat] at ho20; rw [← Ny102.out] at ho20)); have n0_ := Aside0.mk (Kd.R_lower ho20 (below_size (by repeat (first | (with_reducible first | exact HB.out | apply below_alloc | apply pw_below_drewN | apply below_drew1) | exact HB.out)))); have n1_ := Aside0.mk (below_step (by repeat (first | (with_reducible first | exact HB.out | apply below_alloc | apply pw_below_drewN | apply below_drew1) | exact HB.out)) hb); clear HB; have HO104 := n0_; have HB := n1_; clear n0_ n1_; clear hb ho20; obtain ⟨Ao21, co21, eo21⟩ := Kd.R_slice HO104.out; subst eo21) | (go_at_call 111; (with_reducible refine (names_Fresh.calls k _ _ y102 (⟨#[83]⟩ : ByteArray) t105 _ ?side1 ?side2 ?side3 A3.out).mono ?_); (case side1 => exact Laid.below HG.out (by repeat (first | (with_reducible first | exact HB.out | apply below_alloc | apply pw_below_drewN | apply below_drew1) | exact HB.out))); (case side2 => repeat (first | exact (Kd.R_reads' HO104.out).2.2 | (with_reducible refine Kd.C_alloc ?_ _) | (with_reducible refine Kd.C_drewN ?_ _) | (with_reducible refine Kd.C_drew ?_))); (case side3 => exact (Kd.R_reads' HO104.out).2.1); rintro e w22 ⟨rfl, hb⟩; have n0_ := Aside0.mk (Kd.R_below (by (with_reducible repeat (first | apply Kd.R_alloc | apply Kd.R_drewN | apply Kd.R_drew)); exact HO104.out) hb); have n1_ := Aside0.mk (below_step (by repeat (first | (with_reducible first | exact HB.out | apply below_alloc | apply pw_below_drewN | apply below_drew1) | exact HB.out)) hb); clear HO104; clear HB; have HO104 := n0_; have HB := n1_; clear n0_ n1_; (try clear hb); (try clear hb2); (try clear hk); (try clear hi)))
   go_ret
   exact ⟨by first | rfl | (simp [errW_none, errW_some] <;> rfl) | (simp [*, errW_none, errW_some] <;> rfl), by repeat (first | (with_reducible first | exact HB.out | apply below_alloc | apply pw_below_drewN | apply below_drew1) | exact HB.out)⟩
 ·rw [if_neg c2] at H
  have c2b0 : (t101.toList == ([34, 97, 92, 34, 98, 34] : List UInt8)) = false := beq_eq_false_iff_ne.mpr c2
  have c2b1 : (t101.toList != ([34, 97, 92, 34, 98, 34] : List UInt8)) = true := bne_iff_ne.mpr c2
  obtain rfl := Option.some.inj H
  go_enter Tryd.func136, Tryd.ntmps136
  go_wp2_with (first | ((with_reducible refine gate_callee (f := 150) rfl ?_); refine goesL_ (some 1) rfl rfl Tryd.func150 (by kernel_rfl) rfl #[.string (⟨#[97, 34, 98]⟩ : ByteArray)] rfl (by (try simp only [List.map_toArray, List.map_cons, List.map_nil]); first | done | rfl | (simp only [List.length_drop, List.length_take]; rfl)) ?_; (with_reducible refine (names_Quote.calls (⟨#[97, 34, 98]⟩ : ByteArray) t101 _ A1.out).mono ?_); rintro e w23 ⟨rfl, hb⟩; refine ⟨_, rfl, ?_⟩; have n0_ := Aside0.mk (below_step (by repeat (first | (with_reducible first | exact HB.out | apply below_alloc | apply pw_below_drewN | apply below_drew1) | exact HB.out)) hb); clear HB; have HB := n0_; clear n0_; (try clear hb); (try clear hb2); (try clear hk); (try clear hi)))
  go_ret
  exact ⟨by first | rfl | (simp [errW_none, errW_some] <;> rfl) | (simp [*, errW_none, errW_some] <;> rfl), by repeat (first | (with_reducible first | exact HB.out | apply below_alloc | apply pw_below_drewN | apply below_drew1) | exact HB.out)⟩
end Go.Proofs.YtmdjmbdeeodehaaDoor.G
end
