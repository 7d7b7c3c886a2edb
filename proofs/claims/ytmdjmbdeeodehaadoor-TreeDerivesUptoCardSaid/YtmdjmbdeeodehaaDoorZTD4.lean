/- TreeDerives of the law03, where what it reads is of bulk at most 1048576: answers true: the leftmost derivation by the rules that a fitting tree uses ends in the tree's yield: part 5 of 6 of its proof, packed by a program of this session out of the texts TreeX, TreeY, TreeD, GLaw033, TreeQ, AppC, TreeB, TreeN, TreeA, TreeK, TreeR, GLaw031, TreeE, TreeG. -/
import Derived.Test.YtmdjmbdeeodehaaDoorZTD3
import Derived.Laws.EntriesVeiled
import Derived.Deep.RegionHeld3
import Derived.Lib.FrozenHead2
import Derived.Lib.OthersKept
import Derived.Laws.Append
import Derived.Deep.DeepCutAuto
import Derived.Deep.LoopGhost
import Derived.WalkSpells
section
set_option linter.unusedVariables false
set_option linter.unusedSimpArgs false
namespace Go.Proofs.YtmdjmbdeeodehaaDoor.G
open Go Go.Proofs Go.RowKit Go.Proofs.YtmdjmbdeeodehaaDoorW.PrintWords Go.Proofs.YtmdjmbdeeodehaaDoorW.PrintLast Go.Proofs.YtmdjmbdeeodehaaDoorW.PrintMore Go.Proofs.YtmdjmbdeeodehaaDoor.Pure
def sgn (l0 l1 : List ByteArray) (a2 : Int) (l3 : List GRule) (s : Int) : ByteArray := (gram_Grammar_Text.f l0 l1 a2 l3 s).getD ByteArray.empty
mutual
def txT (l0 l1 : List ByteArray) (a2 : Int) (l3 : List GRule) : TTree → List UInt8
  | ⟨r, s, ks⟩ => if r < 0 then (sgn l0 l1 a2 l3 s).data.toList else 40 :: ((rdOf ByteArray.empty l0 (ruleAt l3 r).f0).data.toList ++ (txTs l0 l1 a2 l3 ks ++ [41]))
def txTs (l0 l1 : List ByteArray) (a2 : Int) (l3 : List GRule) : List TTree → List UInt8
  | [] => []
  | k :: ks => 32 :: (txT l0 l1 a2 l3 k ++ txTs l0 l1 a2 l3 ks)
end
mutual
def txOk (l0 l1 : List ByteArray) (a2 : Int) (l3 : List GRule) : TTree → Bool
  | ⟨r, s, ks⟩ => if r < 0 then (gram_Grammar_Text.f l0 l1 a2 l3 s).isSome else decide (r < l3.length) && (decide (0 ≤ (ruleAt l3 r).f0 ∧ (ruleAt l3 r).f0 < l0.length) && txOks l0 l1 a2 l3 ks)
def txOks (l0 l1 : List ByteArray) (a2 : Int) (l3 : List GRule) : List TTree → Bool
  | [] => true
  | k :: ks => txOk l0 l1 a2 l3 k && txOks l0 l1 a2 l3 ks
end
theorem txT_eq (l0 l1 : List ByteArray) (a2 : Int) (l3 : List GRule) (t : TTree) : txT l0 l1 a2 l3 t = if t.f0 < 0 then (sgn l0 l1 a2 l3 t.f1).data.toList else 40 :: ((rdOf ByteArray.empty l0 (ruleAt l3 t.f0).f0).data.toList ++ (txTs l0 l1 a2 l3 t.f2 ++ [41])) := by cases t; simp [txT]
theorem txOk_eq (l0 l1 : List ByteArray) (a2 : Int) (l3 : List GRule) (t : TTree) : txOk l0 l1 a2 l3 t = if t.f0 < 0 then (gram_Grammar_Text.f l0 l1 a2 l3 t.f1).isSome else decide (t.f0 < l3.length) && (decide (0 ≤ (ruleAt l3 t.f0).f0 ∧ (ruleAt l3 t.f0).f0 < l0.length) && txOks l0 l1 a2 l3 t.f2) := by cases t; simp [txOk]
theorem txOks_mem {l0 l1 : List ByteArray} {a2 : Int} {l3 : List GRule} : ∀ {ks : List TTree}, txOks l0 l1 a2 l3 ks = true → ∀ k ∈ ks, txOk l0 l1 a2 l3 k = true
  | k :: ks, h, x, hx => by
    simp only [txOks, Bool.and_eq_true] at h
    rcases List.mem_cons.1 hx with rfl | hx
    · exact h.1
    · exact txOks_mem h.2 x hx
theorem builder_below {B b : Nat} {bs : List Value} {W W' : World} (h : Lib.IsBuilderF 174 5 B b bs W) (hb : Below W.heap.size W W') : Lib.IsBuilderF 174 5 B b bs W' := by
  have one : ∀ p, Lib.BuilderAtF 174 5 B b p bs W → Lib.BuilderAtF 174 5 B b p bs W' := fun p ⟨hB, v, hk, hown, hne⟩ =>
    ⟨hB, v, blk_below hk hb, hown.kept (grown_of_below hb none) (by cases hv : v.ownBlock <;> simp), hne⟩
  exact h.elim (fun x => .inl (one _ x)) (fun x => .inr (one _ x))
theorem builder_blk {B b : Nat} {bs : List Value} {W : World} (h : Lib.IsBuilderF 174 5 B b bs W) : ∃ cs, W.heap[b]? = some (.cells cs 174 (0, 0)) := by
  rcases h with ⟨_, v, hk, _⟩ | ⟨_, v, hk, _⟩
  · exact ⟨_, hk⟩
  · exact ⟨_, hk⟩
structure InTx (w0 : World) (gb : Nat) (A0 : Option Addr) (c0 : Nat) (l0 : List ByteArray) (A1 : Option Addr) (c1 : Nat) (l1 : List ByteArray) (a2 : Int) (A3 : Option Addr) (c3 : Nat) (l3 : List GRule) (wb : Nat) (l : List UInt8) (W : World) : Prop where
  bel : Below w0.heap.size w0 W
  g : w0.heap[gb]? = some (.cells #[.slice A0 l0.length c0, .slice A1 l1.length c1, .int .i64 a2, .slice A3 l3.length c3] 25 (0, 0))
  r0 : Kd.C Kd.string w0 A0 l0.length l0
  r1 : Kd.C Kd.string w0 A1 l1.length l1
  r3 : Kd.C k32 w0 A3 l3.length l3
  b : Lib.IsBuilderF 174 5 w0.heap.size w0.heap.size (Lib.byteCells l) W
  f : W.heap[wb]? = some (.cells #[.func (.func 115) #[] #[.pointer (some ⟨w0.heap.size, 0, none⟩), .pointer (some ⟨gb, 0, none⟩), .pointer (some ⟨wb, 0, none⟩)]] 161 (0, 0))
section
variable {w0 : World} {gb : Nat} {A0 : Option Addr} {c0 : Nat} {l0 : List ByteArray} {A1 : Option Addr} {c1 : Nat} {l1 : List ByteArray} {a2 : Int} {A3 : Option Addr} {c3 : Nat} {l3 : List GRule} {wb : Nat} {l : List UInt8} {W W' : World}
theorem InTx.step (h : InTx w0 gb A0 c0 l0 A1 c1 l1 a2 A3 c3 l3 wb l W) (hb : Below W.heap.size W W') : InTx w0 gb A0 c0 l0 A1 c1 l1 a2 A3 c3 l3 wb l W' := ⟨h.bel.trans (hb.mono h.bel.size), h.g, h.r0, h.r1, h.r3, builder_below h.b hb, blk_below h.f hb⟩
theorem InTx.gW (h : InTx w0 gb A0 c0 l0 A1 c1 l1 a2 A3 c3 l3 wb l W) : W.heap[gb]? = some (.cells #[.slice A0 l0.length c0, .slice A1 l1.length c1, .int .i64 a2, .slice A3 l3.length c3] 25 (0, 0)) := blk_below h.g h.bel
theorem InTx.y0 (h : InTx w0 gb A0 c0 l0 A1 c1 l1 a2 A3 c3 l3 wb l W) : W.cell? ⟨gb, 0, none⟩ = some (.slice A0 l0.length c0) := (blk_cell h.gW 0).trans rfl
theorem InTx.y1 (h : InTx w0 gb A0 c0 l0 A1 c1 l1 a2 A3 c3 l3 wb l W) : W.cell? ⟨gb, 1, none⟩ = some (.slice A1 l1.length c1) := (blk_cell h.gW 1).trans rfl
theorem InTx.y2 (h : InTx w0 gb A0 c0 l0 A1 c1 l1 a2 A3 c3 l3 wb l W) : W.cell? ⟨gb, 2, none⟩ = some (.int .i64 a2) := (blk_cell h.gW 2).trans rfl
theorem InTx.y3 (h : InTx w0 gb A0 c0 l0 A1 c1 l1 a2 A3 c3 l3 wb l W) : W.cell? ⟨gb, 3, none⟩ = some (.slice A3 l3.length c3) := (blk_cell h.gW 3).trans rfl
theorem InTx.f0 (h : InTx w0 gb A0 c0 l0 A1 c1 l1 a2 A3 c3 l3 wb l W) : W.cell? ⟨wb, 0, none⟩ = some (.func (.func 115) #[] #[.pointer (some ⟨w0.heap.size, 0, none⟩), .pointer (some ⟨gb, 0, none⟩), .pointer (some ⟨wb, 0, none⟩)]) := (blk_cell h.f 0).trans rfl
theorem kept_box {b t : Nat} {cs : Array Value} (h : Lib.OthersKept 5 (some b) W W') {k : Nat} (hk : W.heap[k]? = some (.cells cs t (0, 0))) (hkb : k ≠ b) (ht : t ≠ 5) : W'.heap[k]? = some (.cells cs t (0, 0)) :=
  h k _ hk (fun e => hkb (Option.some.inj e)) (fun c fz e => ht (by injection e))
theorem tws (h : InTx w0 gb A0 c0 l0 A1 c1 l1 a2 A3 c3 l3 wb l W) (s : ByteArray) (hl : l.length + s.size ≤ 100000000000000) :
    Calls Tryd.prog 116 #[.pointer (some ⟨w0.heap.size, 0, none⟩), .string s] W fun e w' => e = .returned (.tuple #[.int .i64 s.size, .nilIface]) ∧ InTx w0 gb A0 c0 l0 A1 c1 l1 a2 A3 c3 l3 wb (l ++ s.data.toList) w' ∧ Lib.OthersKept 5 (some w0.heap.size) W w' := by
  refine (Tryd.Builder_WriteString_k w0.heap.size w0.heap.size (Lib.byteCells l) s W h.b (by rw [Lib.byteCells_length]; omega) h.bel.size).mono ?_
  rintro e w' ⟨rfl, h1, hb, hk⟩
  obtain ⟨cs, hbk⟩ := builder_blk h.b
  refine ⟨rfl, ⟨h.bel.trans hb, h.g, h.r0, h.r1, h.r3, ?_, kept_box hk h.f (blk_ne h.f hbk (by decide)) (by decide)⟩, hk⟩
  rw [Lib.byteCells_append]; exact Or.inr h1
end
theorem txenters (u : Value) (bb gb wb : Nat) (W : World) : Sem.run Tryd.prog (callFunc 115 #[u, .pointer (some ⟨bb, 0, none⟩), .pointer (some ⟨gb, 0, none⟩), .pointer (some ⟨wb, 0, none⟩)]) W = .ok (.enter 115 #[u, .pointer (some ⟨bb, 0, none⟩), .pointer (some ⟨gb, 0, none⟩), .pointer (some ⟨wb, 0, none⟩)]) W := by kernel_rfl
set_option maxHeartbeats 8000000 in
set_option maxRecDepth 100000 in
theorem text1_calls : ∀ (n : Nat) (t : TTree) (htn : cntT t ≤ n) (w0 : World) (T : Option Addr) (tc : Nat) (htc : t.f2.length ≤ tc) (ht : Kd.C k55 w0 T t.f2.length t.f2) (gb : Nat) (A0 : Option Addr) (c0 : Nat) (l0 : List ByteArray) (A1 : Option Addr) (c1 : Nat) (l1 : List ByteArray) (a2 : Int) (A3 : Option Addr) (c3 : Nat) (l3 : List GRule) (h0 : l0.length ≤ c0) (h1 : l1.length ≤ c1) (h3 : l3.length ≤ c3) (hk : txOk l0 l1 a2 l3 t = true) (hq0 : l0.length ≤ 1000000) (hq3 : l3.length ≤ 1000000)
    (wb : Nat) (l : List UInt8) (hl : l.length + (txT l0 l1 a2 l3 t).length ≤ 10000000000000) (W : World) (hI : InTx w0 gb A0 c0 l0 A1 c1 l1 a2 A3 c3 l3 wb l W),
    Calls Tryd.prog 115 #[.agg #[.int .i64 t.f0, .int .i64 t.f1, .slice T t.f2.length tc], .pointer (some ⟨w0.heap.size, 0, none⟩), .pointer (some ⟨gb, 0, none⟩), .pointer (some ⟨wb, 0, none⟩)] W fun e w' => e = .returned (.tuple #[]) ∧ InTx w0 gb A0 c0 l0 A1 c1 l1 a2 A3 c3 l3 wb (l ++ txT l0 l1 a2 l3 t) w' := by
  intro n
  induction n with
  | zero => intro t htn; have := cntT_pos t; omega
  | succ n ih =>
    intro t htn w0 T tc htc ht gb A0 c0 l0 A1 c1 l1 a2 A3 c3 l3 h0 h1 h3 hk hq0 hq3 wb l hl W hI
    have hu := Tryd.underlying55
    have hu2 := Tryd.underlying25
    have HIH := Lib.hid ih
    have HTN := Lib.hid htn
    have HT := Lib.hid ht
    have HTC := Lib.hid htc
    have hB0 : Below W.heap.size W (W.alloc (.cells #[.int .i64 t.f0, .int .i64 t.f1, .slice T t.f2.length tc] 55)) := (Below.refl _ _).alloc (Nat.le_refl _) _
    have hI1 := hI.step hB0
    have hTW : Hid (∀ W', InTx w0 gb A0 c0 l0 A1 c1 l1 a2 A3 c3 l3 wb l W' → Kd.C k55 W' T t.f2.length t.f2) := Lib.hid (fun W' h => Kd.C_below ht h.bel)
    have HY := Lib.hid (txT_eq l0 l1 a2 l3 t)
    have HOK := Lib.hid ((txOk_eq l0 l1 a2 l3 t).symm.trans hk)
    obtain ⟨ys, hys⟩ : ∃ ys, ys = txT l0 l1 a2 l3 t := ⟨_, rfl⟩
    rw [← hys] at HY hl ⊢
    have HL := Lib.hid hl
    have hbx := blk_new W (.cells #[.int .i64 t.f0, .int .i64 t.f1, .slice T t.f2.length tc] 55)
    have HBX := Lib.hid hbx
    have HI1 := Lib.hid hI1
    have HWB : Hid (W.heap.size ≠ w0.heap.size) := Lib.hid (by
      obtain ⟨cs, hbk⟩ := builder_blk hI.b
      have := blk_lt hbk
      omega)
    by_cases hlf : t.f0 < 0
    · have HLF : Hid (tree_Tree_leaf.f t.f0 t.f1 t.f2 = some true) := Lib.hid (by unfold tree_Tree_leaf.f; rw [decide_eq_true hlf])
      have HE : Hid (ys = (sgn l0 l1 a2 l3 t.f1).data.toList) := Lib.hid (by rw [HY.out, if_pos hlf])
      have HSG : Hid (gram_Grammar_Text.f l0 l1 a2 l3 t.f1 = some (sgn l0 l1 a2 l3 t.f1)) := Lib.hid (by
        have := HOK.out
        rw [if_pos hlf] at this
        unfold sgn
        obtain ⟨x, hx⟩ := Option.isSome_iff_exists.1 this
        rw [hx]; rfl)
      obtain ⟨sg, hsg⟩ : ∃ sg, sg = sgn l0 l1 a2 l3 t.f1 := ⟨_, rfl⟩
      rw [← hsg] at HSG HE
      have hsz : l.length + sg.size ≤ 10000000000000 := by
        have h := HL.out
        rw [HE.out, Go.Proofs.YtmdjmbdeeodehaaDoorW.PrintWords.data_length] at h; exact h
      have HSZ := Lib.hid hsz
      clear hlf hys hI hI1 ih htn ht htc hB0 hl hbx hk hsg hsz
      go_enter Tryd.func115, Tryd.ntmps115
      go_wp2_with fail
      refine (tree_Tree_leaf.calls t.f0 t.f1 T tc t.f2 true _ (hTW.out _ HI1.out) HTC.out HLF.out).mono ?_
      rintro e w2 ⟨rfl, hb2⟩
      have hI2 := HI1.out.step hb2
      have hbx2 := blk_below HBX.out hb2
      have y1 : w2.cell? ⟨W.heap.size, 1, none⟩ = some (.int .i64 t.f1) := (blk_cell hbx2 1).trans rfl
      have z0 := hI2.y0
      have z1 := hI2.y1
      have z2 := hI2.y2
      have z3 := hI2.y3
      have HI2 := Lib.hid hI2
      clear hb2 hI2 HI1 HBX hbx2
      go_wp2_with fail
      refine (gram_Grammar_Text.calls A0 c0 l0 A1 c1 l1 a2 A3 c3 l3 t.f1 sg _ (Kd.C_below HI2.out.r0 HI2.out.bel) h0 (Kd.C_below HI2.out.r1 HI2.out.bel) h1 (Kd.C_below HI2.out.r3 HI2.out.bel) h3 HSG.out).mono ?_
      rintro e w3 ⟨rfl, hb3⟩
      have HI3 := Lib.hid (HI2.out.step hb3)
      clear hb3 HI2 y1 z0 z1 z2 z3
      go_wp2_with fail
      refine (tws HI3.out sg (by have := HSZ.out; omega)).mono ?_
      rintro e w4 ⟨rfl, hI4, -⟩
      rw [← HE.out] at hI4
      have HI4 := Lib.hid hI4
      clear hI4 HI3
      go_wp2
      first
        | exact bodyPost_end (v := .tuple #[]) (by simp [results, Tryd.results115, go_sem]) rfl ⟨rfl, HI4.out⟩
        | exact bodyPost_ret (v := .tuple #[]) (by simp [results, Tryd.results115, go_sem]) rfl ⟨rfl, HI4.out⟩
    · have HLF : Hid (tree_Tree_leaf.f t.f0 t.f1 t.f2 = some false) := Lib.hid (by unfold tree_Tree_leaf.f; rw [decide_eq_false hlf])
      have HE := Lib.hid (HY.out.trans (if_neg hlf))
      have hok := HOK.out
      rw [if_neg hlf, Bool.and_eq_true, Bool.and_eq_true, decide_eq_true_eq, decide_eq_true_eq] at hok
      obtain ⟨ho1, ⟨ho2, ho3⟩, ho4⟩ := hok
      have hp0 : 0 ≤ t.f0 := by omega
      obtain ⟨ad, R2, rc2, eA, hx0, -, -, -⟩ := at_T32 HI1.out.r3 t.f0 hp0 ho1
      subst eA
      obtain ⟨q2, hq2⟩ : ∃ q2, q2 = (ruleAt l3 t.f0).f0 := ⟨_, rfl⟩
      rw [show (rd_T32 l3 t.f0).f0 = q2 from hq2.symm] at hx0
      rw [← hq2] at HE ho2 ho3
      obtain ⟨nad, eN, hxn⟩ := Kd.at_string HI1.out.r0 q2 ho2 ho3
      subst eN
      obtain ⟨nm, hnm⟩ : ∃ nm, nm = rdOf ByteArray.empty l0 q2 := ⟨_, rfl⟩
      rw [← hnm] at hxn HE
      have HX0 := Lib.hid hx0
      have HXN := Lib.hid hxn
      have HKS := Lib.hid ho4
      have htl : t.f2.length ≤ 9223372036854775807 := Kd.C_max HT.out
      have hnl : l.length + (nm.size + (txTs l0 l1 a2 l3 t.f2).length + 2) ≤ 10000000000000 := by
        have h := HL.out
        rw [HE.out] at h
        simp only [List.length_cons, List.length_append, Go.Proofs.YtmdjmbdeeodehaaDoorW.PrintWords.data_length, List.length_nil] at h
        omega
      have HNL := Lib.hid hnl
      clear hlf hys hI hI1 ih htn ht htc hB0 hl hbx hk hnl hnm hx0 hxn ho4 HOK HY hq2
      go_enter Tryd.func115, Tryd.ntmps115
      go_wp2_with fail
      refine (tree_Tree_leaf.calls t.f0 t.f1 T tc t.f2 false _ (hTW.out _ HI1.out) HTC.out HLF.out).mono ?_
      rintro e w2 ⟨rfl, hb2⟩
      have hI2 := HI1.out.step hb2
      have hbx2 := blk_below HBX.out hb2
      have y0 : w2.cell? ⟨W.heap.size, 0, none⟩ = some (.int .i64 t.f0) := (blk_cell hbx2 0).trans rfl
      have z0 := hI2.y0
      have z3 := hI2.y3
      have x0 := (hI2.bel.cell (World.block_lt_of_cell? _ _ HX0.out)).trans HX0.out
      have xn := (hI2.bel.cell (World.block_lt_of_cell? _ _ HXN.out)).trans HXN.out
      have HI2 := Lib.hid hI2
      have HBX2 := Lib.hid hbx2
      clear hb2 hI2 HI1 HBX hbx2
      go_wp2_with fail
      have hd2 := HI2.out.step (below_drew (Below.refl w2.heap.size w2))
      clear y0 z0 z3 x0 xn
      have hs1 : (⟨#[40]⟩ ++ nm : ByteArray).size ≤ 9223372036854775807 := by have := HNL.out; rw [ByteArray.size_append, show (⟨#[40]⟩ : ByteArray).size = 1 from rfl]; omega
      have hs2 : 1 + nm.size ≤ 9223372036854775807 := by have := HNL.out; omega
      refine RegT.regionT (F := ?FX) (fun W1 => InTx w0 gb (some nad) c0 l0 A1 c1 l1 a2 (some ad) c3 l3 wb l W1 ∧ W1.heap[W.heap.size]? = some (.cells #[.int .i64 t.f0, .int .i64 t.f1, .slice T t.f2.length tc] 55 (0, 0))) [fun v _ => v = .pointer (some ⟨gb, 0, none⟩), fun v _ => v = .slice (some nad) l0.length c0, fun v _ => v = .pointer (some ⟨gb, 3, none⟩), fun v _ => v = .slice (some ad) l3.length c3, fun v _ => v = .pointer (some ⟨W.heap.size, 0, none⟩), fun v _ => v = .int .i64 t.f0, fun v _ => v = .pointer (some (ad.add (t.f0.toNat * 2))), fun v _ => v = .pointer (some (ad.add (t.f0.toNat * 2))), fun v _ => v = .int .i64 q2, fun v _ => v = .pointer (some (nad.add q2.toNat)), fun v _ => v = .string nm, fun v _ => v = .string ((⟨#[40]⟩ : ByteArray) ++ nm)] (fun i v => match i with  | _ => none) (fun i => match i with  | _ => false) 12 ?hFX (by kernel_rfl) (by kernel_rfl) (by kernel_rfl) (by kernel_rfl) (by kernel_rfl) (by simp) ⟨fun _ _ _ h _ => h, fun _ _ _ h _ => h, fun _ _ _ h _ => h, fun _ _ _ h _ => h, fun _ _ _ h _ => h, fun _ _ _ h _ => h, fun _ _ _ h _ => h, fun _ _ _ h _ => h, fun _ _ _ h _ => h, fun _ _ _ h _ => h, fun _ _ _ h _ => h, fun _ _ _ h _ => h, trivial⟩ ?hSX ⟨?o0X, ?o1X, ?o2X, ?o3X, ?o4X, ?o5X, ?o6X, ?o7X, ?o8X, ?o9X, ?o10X, ?o11X, trivial⟩ ?hendX
      case hFX => intro f; (try simp only [List.take_succ_cons, List.take_zero, RegT.fillIn, RegT.fv, Act.put, List.setIfInBounds_toArray, List.set_cons_zero, List.set_cons_succ]); exact rfl
      case hSX => exact ⟨hd2, blk_drew HBX2.out⟩
      case o0X =>
        intro f W1 hS hd ho_ K hK
        clear hd
        clear ho_
        (go_simp; exact hK.out (.pointer (some ⟨gb, 0, none⟩)) _ hS (Below.refl _ _) rfl (fun _ (h : (none : Option Nat) = some _) => by cases h) _ (by rfl))
      case o1X =>
        intro f W1 hS hd ho_ K hK
        obtain ⟨e14, -⟩ := hd
        clear ho_
        replace e14 : f 14 = .pointer (some ⟨gb, 0, none⟩) := e14
        have y0 : W1.cell? ⟨W.heap.size, 0, none⟩ = some (.int .i64 t.f0) := (blk_cell hS.2 0).trans rfl
        have z0 := hS.1.y0
        have z3 := hS.1.y3
        have x0 := (hS.1.bel.cell (World.block_lt_of_cell? _ _ HX0.out)).trans HX0.out
        have xn := (hS.1.bel.cell (World.block_lt_of_cell? _ _ HXN.out)).trans HXN.out
        (go_simp; exact hK.out (.slice (some nad) l0.length c0) _ hS (Below.refl _ _) rfl (fun _ (h : (none : Option Nat) = some _) => by cases h) _ (by first | (simp only [e14]; done) | (simp only [e14]; rfl) | rfl))
      case o2X =>
        intro f W1 hS hd ho_ K hK
        clear hd
        clear ho_
        (go_simp; exact hK.out (.pointer (some ⟨gb, 3, none⟩)) _ hS (Below.refl _ _) rfl (fun _ (h : (none : Option Nat) = some _) => by cases h) _ (by rfl))
      case o3X =>
        intro f W1 hS hd ho_ K hK
        obtain ⟨e16, -⟩ := hd
        clear ho_
        replace e16 : f 16 = .pointer (some ⟨gb, 3, none⟩) := e16
        have y0 : W1.cell? ⟨W.heap.size, 0, none⟩ = some (.int .i64 t.f0) := (blk_cell hS.2 0).trans rfl
        have z0 := hS.1.y0
        have z3 := hS.1.y3
        have x0 := (hS.1.bel.cell (World.block_lt_of_cell? _ _ HX0.out)).trans HX0.out
        have xn := (hS.1.bel.cell (World.block_lt_of_cell? _ _ HXN.out)).trans HXN.out
        (go_simp; exact hK.out (.slice (some ad) l3.length c3) _ hS (Below.refl _ _) rfl (fun _ (h : (none : Option Nat) = some _) => by cases h) _ (by first | (simp only [e16]; done) | (simp only [e16]; rfl) | rfl))
      case o4X =>
        intro f W1 hS hd ho_ K hK
        clear hd
        clear ho_
        (go_simp; exact hK.out (.pointer (some ⟨W.heap.size, 0, none⟩)) _ hS (Below.refl _ _) rfl (fun _ (h : (none : Option Nat) = some _) => by cases h) _ (by rfl))
      case o5X =>
        intro f W1 hS hd ho_ K hK
        obtain ⟨e18, -⟩ := hd
        clear ho_
        replace e18 : f 18 = .pointer (some ⟨W.heap.size, 0, none⟩) := e18
        have y0 : W1.cell? ⟨W.heap.size, 0, none⟩ = some (.int .i64 t.f0) := (blk_cell hS.2 0).trans rfl
        have z0 := hS.1.y0
        have z3 := hS.1.y3
        have x0 := (hS.1.bel.cell (World.block_lt_of_cell? _ _ HX0.out)).trans HX0.out
        have xn := (hS.1.bel.cell (World.block_lt_of_cell? _ _ HXN.out)).trans HXN.out
        (go_simp; exact hK.out (.int .i64 t.f0) _ hS (Below.refl _ _) rfl (fun _ (h : (none : Option Nat) = some _) => by cases h) _ (by first | (simp only [e18]; done) | (simp only [e18]; rfl) | rfl))
      case o6X =>
        intro f W1 hS hd ho_ K hK
        obtain ⟨e17, e19, -⟩ := hd
        clear ho_
        replace e17 : f 17 = .slice (some ad) l3.length c3 := e17
        replace e19 : f 19 = .int .i64 t.f0 := e19
        (go_simp; exact hK.out (.pointer (some (ad.add (t.f0.toNat * 2)))) _ hS (Below.refl _ _) rfl (fun _ (h : (none : Option Nat) = some _) => by cases h) _ (by first | (simp only [e17, e19]; done) | (simp only [e17, e19]; rfl) | rfl))
      case o7X =>
        intro f W1 hS hd ho_ K hK
        obtain ⟨e20, -⟩ := hd
        clear ho_
        replace e20 : f 20 = .pointer (some (ad.add (t.f0.toNat * 2))) := e20
        (go_simp; exact hK.out (.pointer (some (ad.add (t.f0.toNat * 2)))) _ hS (Below.refl _ _) rfl (fun _ (h : (none : Option Nat) = some _) => by cases h) _ (by first | (simp only [e20]; done) | (simp only [e20]; rfl) | rfl))
      case o8X =>
        intro f W1 hS hd ho_ K hK
        obtain ⟨e21, -⟩ := hd
        clear ho_
        replace e21 : f 21 = .pointer (some (ad.add (t.f0.toNat * 2))) := e21
        have y0 : W1.cell? ⟨W.heap.size, 0, none⟩ = some (.int .i64 t.f0) := (blk_cell hS.2 0).trans rfl
        have z0 := hS.1.y0
        have z3 := hS.1.y3
        have x0 := (hS.1.bel.cell (World.block_lt_of_cell? _ _ HX0.out)).trans HX0.out
        have xn := (hS.1.bel.cell (World.block_lt_of_cell? _ _ HXN.out)).trans HXN.out
        (go_simp; exact hK.out (.int .i64 q2) _ hS (Below.refl _ _) rfl (fun _ (h : (none : Option Nat) = some _) => by cases h) _ (by first | (simp only [e21]; done) | (simp only [e21]; rfl) | rfl))
      case o9X =>
        intro f W1 hS hd ho_ K hK
        obtain ⟨e15, e22, -⟩ := hd
        clear ho_
        replace e15 : f 15 = .slice (some nad) l0.length c0 := e15
        replace e22 : f 22 = .int .i64 q2 := e22
        (go_simp; exact hK.out (.pointer (some (nad.add q2.toNat))) _ hS (Below.refl _ _) rfl (fun _ (h : (none : Option Nat) = some _) => by cases h) _ (by first | (simp only [e15, e22]; done) | (simp only [e15, e22]; rfl) | rfl))
      case o10X =>
        intro f W1 hS hd ho_ K hK
        obtain ⟨e23, -⟩ := hd
        clear ho_
        replace e23 : f 23 = .pointer (some (nad.add q2.toNat)) := e23
        have y0 : W1.cell? ⟨W.heap.size, 0, none⟩ = some (.int .i64 t.f0) := (blk_cell hS.2 0).trans rfl
        have z0 := hS.1.y0
        have z3 := hS.1.y3
        have x0 := (hS.1.bel.cell (World.block_lt_of_cell? _ _ HX0.out)).trans HX0.out
        have xn := (hS.1.bel.cell (World.block_lt_of_cell? _ _ HXN.out)).trans HXN.out
        (go_simp; exact hK.out (.string nm) _ hS (Below.refl _ _) rfl (fun _ (h : (none : Option Nat) = some _) => by cases h) _ (by first | (simp only [e23]; done) | (simp only [e23]; rfl) | rfl))
      case o11X =>
        intro f W1 hS hd ho_ K hK
        obtain ⟨e24, -⟩ := hd
        clear ho_
        replace e24 : f 24 = .string nm := e24
        have hs3 : ¬ 9223372036854775807 < 1 + nm.size := by omega
        go_simp
        (try rw [if_neg hs3])
        (try go_simp)
        exact hK.out (.string ((⟨#[40]⟩ : ByteArray) ++ nm)) _ hS (Below.refl _ _) rfl (fun _ (h : (none : Option Nat) = some _) => by cases h) _ (by first | (simp only [e24]; done) | (simp only [e24]; rfl) | rfl)
      intro f W1 hS hr hbl
      have e25 := hr 11 _ _ (by omega) rfl rfl
      replace e25 : f 25 = .string ((⟨#[40]⟩ : ByteArray) ++ nm) := e25
      (try dsimp only)
      generalize f 25 = x25 at *
      subst e25
      try simp only [List.drop_succ_cons, List.drop_zero]
      have HBX3 := Lib.hid hS.2
      have HS3 := Lib.hid hS.1
      clear hr hbl hS hd2
      go_wp2_with fail
      with_reducible refine (tws HS3.out ((⟨#[40]⟩ : ByteArray) ++ nm) (by have := HNL.out; rw [ByteArray.size_append, show (⟨#[40]⟩ : ByteArray).size = 1 from rfl]; omega)).mono ?_
      rintro e w3 ⟨rfl, hI3, hk3⟩
      have hbx3 := kept_box hk3 HBX3.out HWB.out (by decide)
      have y2 : w3.cell? ⟨W.heap.size, 2, none⟩ = some (.slice T t.f2.length tc) := (blk_cell hbx3 2).trans rfl
      have HI3 : Hid (InTx w0 gb (some nad) c0 l0 A1 c1 l1 a2 (some ad) c3 l3 wb (l ++ (40 :: nm.data.toList)) w3) := Lib.hid (by
        rw [show (⟨#[40]⟩ ++ nm : ByteArray).data.toList = 40 :: nm.data.toList by rw [ByteArray.data_append]; simp] at hI3
        exact hI3)
      clear hk3 hI3 hbx3 HI2 HBX2 HBX3 HS3
      go_wp2
      clear y2
      go_loopw [30] (fun i wr => ∃ (j : Nat) (l' : List UInt8), j ≤ t.f2.length ∧ i = .int .i64 j ∧ Hid (l' ++ (txTs l0 l1 a2 l3 (t.f2.drop j) ++ [41]) = l ++ ys) ∧ Hid (InTx w0 gb (some nad) c0 l0 A1 c1 l1 a2 (some ad) c3 l3 wb l' wr)) (fun i _ => t.f2.length - (intOf i).toNat)
      case atStart => exact ⟨0, _, Nat.zero_le _, rfl, Lib.hid (by rw [HE.out, List.drop_zero]; simp), HI3⟩
      case round =>
        clear HI3
        obtain ⟨j, l', hj, rfl, HO, HI⟩ := hrel
        by_cases hjl : j < t.f2.length
        · obtain ⟨kad, K2, kc, e1, hk0, hk1, hk2, hkc, hkr⟩ := at_T55 HT.out (j : Int) (by omega) (by omega)
          subst e1
          obtain ⟨k, hk⟩ : ∃ k, k = t.f2[j] := ⟨_, rfl⟩
          rw [rdT_at _ j hjl, ← hk] at hk0 hk1 hk2 hkc hkr
          rw [Int.toNat_natCast] at hk0 hk1 hk2
          replace hk0 := (HI.out.bel.cell (World.block_lt_of_cell? _ _ hk0)).trans hk0
          replace hk1 := (HI.out.bel.cell (World.block_lt_of_cell? _ _ hk1)).trans hk1
          replace hk2 := (HI.out.bel.cell (World.block_lt_of_cell? _ _ hk2)).trans hk2
          have HO2 : Hid ((l' ++ [32] ++ txT l0 l1 a2 l3 k) ++ (txTs l0 l1 a2 l3 (t.f2.drop (j + 1)) ++ [41]) = l ++ ys) := Lib.hid (by
            have := HO.out
            rw [List.drop_eq_getElem_cons hjl, ← hk, txTs] at this
            rw [← this]; simp)
          have HCN : Hid (cntT k ≤ n) := Lib.hid (by
            have h1 := cntTs_mem (List.getElem_mem hjl)
            have h2 := cntT_eq t
            have h3 := HTN.out
            rw [← hk] at h1; omega)
          have HKO : Hid (txOk l0 l1 a2 l3 k = true) := Lib.hid (txOks_mem HKS.out k (by rw [hk]; exact List.getElem_mem _))
          have HLE : Hid (l'.length + 1 + (txT l0 l1 a2 l3 k).length ≤ 10000000000000) := Lib.hid (by
            have h1 := congrArg List.length HO2.out
            have h2 := HL.out
            simp only [List.length_append, List.length_singleton] at h1; omega)
          have HKR := Lib.hid hkr
          have HKC := Lib.hid hkc
          have HJ := Lib.hid hjl
          have hj0 : 0 ≤ (j : Int) := Int.natCast_nonneg _
          have hj1 : (j : Int) < (t.f2.length : Int) := by omega
          have hI3 := HI.out.step (W' := wr.alloc (.cells #[.int .i64 k.f0, .int .i64 k.f1, .slice K2 k.f2.length kc] 55)) ((Below.refl _ _).alloc (Nat.le_refl _) _)
          have hkb := blk_new wr (.cells #[.int .i64 k.f0, .int .i64 k.f1, .slice K2 k.f2.length kc] 55)
          have HKB : Hid (wr.heap.size ≠ w0.heap.size) := Lib.hid (by
            obtain ⟨cs, hbk⟩ := builder_blk HI.out.b
            have := blk_lt hbk
            omega)
          have HKX := Lib.hid hkb
          have HI3 := Lib.hid hI3
          have hen := fun (u : Value) (W : World) => txenters u w0.heap.size gb wb W
          clear hk hkr hkc hjl hj hI3 hkb
          go_wp2_with fail
          refine (tws HI3.out ⟨#[32]⟩ (by have := HLE.out; rw [show (⟨#[32]⟩ : ByteArray).size = 1 from rfl]; omega)).mono ?_
          rintro e w4 ⟨rfl, hI4, hk4⟩
          have hkb4 := kept_box hk4 HKX.out HKB.out (by decide)
          have k0 : w4.cell? ⟨wr.heap.size, 0, none⟩ = some (.int .i64 k.f0) := (blk_cell hkb4 0).trans rfl
          have k1 : w4.cell? ⟨wr.heap.size, 1, none⟩ = some (.int .i64 k.f1) := (blk_cell hkb4 1).trans rfl
          have k2 : w4.cell? ⟨wr.heap.size, 2, none⟩ = some (.slice K2 k.f2.length kc) := (blk_cell hkb4 2).trans rfl
          have f4 := hI4.f0
          have HI4 := Lib.hid hI4
          clear hkb4 hk4 hI4 HI3 hk0 hk1 hk2
          go_wp2_with fail
          refine (HIH.out k HCN.out w0 K2 kc HKC.out HKR.out gb _ c0 l0 A1 c1 l1 a2 _ c3 l3 h0 h1 h3 HKO.out hq0 hq3 wb (l' ++ [32]) (by have := HLE.out; simp only [List.length_append, List.length_singleton]; omega) _ HI4.out).mono ?_
          rintro e w5 ⟨rfl, hI5⟩
          have HI5 := Lib.hid hI5
          clear hI5 HI4 k0 k1 k2 f4 hen
          go_wp2
          go_roundw
          case rel => exact ⟨j + 1, _, HJ.out, by go_num, HO2, HI5⟩
          case measure => have := HJ.out; simp [intOf]; omega
        · obtain rfl : j = t.f2.length := by omega
          have HO2 : Hid (l' ++ [41] = l ++ ys) := Lib.hid (by have := HO.out; rwa [List.drop_length, txTs, List.nil_append] at this)
          have HLE : Hid (l'.length + 1 ≤ 10000000000000) := Lib.hid (by
            have h1 := congrArg List.length HO2.out
            have h2 := HL.out
            simp only [List.length_append, List.length_singleton] at h1; omega)
          clear hj hjl
          go_wp2_with fail
          refine (tws HI.out ⟨#[41]⟩ (by have := HLE.out; rw [show (⟨#[41]⟩ : ByteArray).size = 1 from rfl]; omega)).mono ?_
          rintro e w4 ⟨rfl, hI4, -⟩
          rw [show (⟨#[41]⟩ : ByteArray).data.toList = [41] from rfl, HO2.out] at hI4
          have HI4 := Lib.hid hI4
          clear hI4 HI
          go_wp2
          first
            | exact bodyPost_end (v := .tuple #[]) (by simp [results, Tryd.results115, go_sem]) rfl ⟨rfl, HI4.out⟩
            | exact bodyPost_ret (v := .tuple #[]) (by simp [results, Tryd.results115, go_sem]) rfl ⟨rfl, HI4.out⟩
set_option maxHeartbeats 8000000 in
set_option maxRecDepth 100000 in
theorem text_calls (A0 : Option Addr) (c0 : Nat) (l0 : List ByteArray) (A1 : Option Addr) (c1 : Nat) (l1 : List ByteArray) (a2 : Int) (A3 : Option Addr) (c3 : Nat) (l3 : List GRule) (hok : gramOk l0 l1 a2 l3 = true) (h0 : l0.length ≤ c0) (h1 : l1.length ≤ c1) (h3 : l3.length ≤ c3) (t : TTree) (T : Option Addr) (tc : Nat) (htc : t.f2.length ≤ tc) (hcnt : cntT t ≤ 1000000) (hsy : symOk t.f1 = true)
    (hk : treeC l0 l1 a2 l3 t = 0 → txOk l0 l1 a2 l3 t = true ∧ (txT l0 l1 a2 l3 t).length ≤ 10000000000000)
    (w : World) (hG : Laid w) (hr0 : Kd.C Kd.string w A0 l0.length l0) (hr1 : Kd.C Kd.string w A1 l1.length l1) (hr3 : Kd.C k32 w A3 l3.length l3) (ht : Kd.C k55 w T t.f2.length t.f2) :
    Calls Tryd.prog 60 #[.agg #[.slice A0 l0.length c0, .slice A1 l1.length c1, .int .i64 a2, .slice A3 l3.length c3], .agg #[.int .i64 t.f0, .int .i64 t.f1, .slice T t.f2.length tc]] w fun e w' => e = .returned (.string (if treeC l0 l1 a2 l3 t = 0 then ⟨(txT l0 l1 a2 l3 t).toArray⟩ else ByteArray.empty)) ∧ Below w.heap.size w w' := by
  have hu := Tryd.underlying25
  have hu2 := Tryd.underlying55
  have hI : InT w A0 c0 l0 A1 c1 l1 a2 A3 c3 l3 t T tc _ := InT.mk0 w hr0 hr1 hr3 ht
  have HG := Lib.hid hG
  have HCH := Lib.hid (fun (W : World) hG hr0 hr1 hr3 ht => treeCheck_calls A0 c0 l0 A1 c1 l1 a2 A3 c3 l3 hok h0 h1 h3 t T tc htc hcnt hsy W hG hr0 hr1 hr3 ht)
  have HB := Lib.hid (gram_bounds hok)
  have HK := Lib.hid hk
  obtain ⟨ch, hch⟩ : ∃ ch, ch = treeC l0 l1 a2 l3 t := ⟨_, rfl⟩
  rw [← hch] at HK HCH ⊢
  have hz0 := hI.g.c0
  have hz1 := hI.g.c1
  have hz2 := hI.g.c2
  have hz3 := hI.g.c3
  have y0 := hI.t0
  have y1 := hI.t1
  have y2 := hI.t2
  have HI := Lib.hid hI
  have HTC := Lib.hid htc
  clear hr0 hr1 hr3 ht hG hok hcnt hsy hI hch hk htc
  go_enter Tryd.func60, Tryd.ntmps60
  go_wp2_with fail
  refine (HCH.out _ (Laid.below HG.out HI.out.g.bel) HI.out.g.r0 HI.out.g.r1 HI.out.g.r3 HI.out.tr).mono ?_
  rintro e w2 ⟨rfl, hb2⟩
  have hI2 := HI.out.step hb2
  clear hb2 HI hz0 hz1 hz2 hz3 y0 y1 y2
  by_cases hne : ch ≠ 0
  · have hneb : (ch != 0) = true := bne_iff_ne.2 hne
    have HE : Hid (¬ ch = 0) := Lib.hid hne
    have HI2 := Lib.hid hI2
    clear hne hI2
    go_wp2
    go_ret
    try rw [if_neg HE.out]
    exact ⟨rfl, HI2.out.g.bel⟩
  replace hne := Decidable.not_not.1 hne
  subst hne
  have HPS : Hid ((if (0 : Int) = 0 then (⟨(txT l0 l1 a2 l3 t).toArray⟩ : ByteArray) else ByteArray.empty) = ⟨(txT l0 l1 a2 l3 t).toArray⟩) := Lib.hid (if_pos rfl)
  have y0 := hI2.t0
  have y1 := hI2.t1
  have y2 := hI2.t2
  have HI2 := Lib.hid hI2
  obtain ⟨hko, hkl⟩ := HK.out rfl
  have HKO := Lib.hid hko
  have HKL := Lib.hid hkl
  have hen := fun (u : Value) (bb gb wb : Nat) (W : World) => txenters u bb gb wb W
  have hbelt : w.heap.size + 1 < w2.heap.size := blk_lt hI2.tb
  have tb2 := blk_alloc (blk_alloc hI2.tb (.cells #[.pointer none, .slice none 0 0] 174)) (.cells #[.func (.func 115) #[] #[.pointer (some ⟨w2.heap.size, 0, none⟩), .pointer (some ⟨w.heap.size, 0, none⟩), .pointer (some ⟨w2.heap.size + 1, 0, none⟩)]] 161)
  have u0 : ((w2.alloc (.cells #[.pointer none, .slice none 0 0] 174)).alloc (.cells #[.func (.func 115) #[] #[.pointer (some ⟨w2.heap.size, 0, none⟩), .pointer (some ⟨w.heap.size, 0, none⟩), .pointer (some ⟨w2.heap.size + 1, 0, none⟩)]] 161)).cell? ⟨w.heap.size + 1, 0, none⟩ = some (.int .i64 t.f0) := (blk_cell tb2 0).trans rfl
  have u1 : ((w2.alloc (.cells #[.pointer none, .slice none 0 0] 174)).alloc (.cells #[.func (.func 115) #[] #[.pointer (some ⟨w2.heap.size, 0, none⟩), .pointer (some ⟨w.heap.size, 0, none⟩), .pointer (some ⟨w2.heap.size + 1, 0, none⟩)]] 161)).cell? ⟨w.heap.size + 1, 1, none⟩ = some (.int .i64 t.f1) := (blk_cell tb2 1).trans rfl
  have u2 : ((w2.alloc (.cells #[.pointer none, .slice none 0 0] 174)).alloc (.cells #[.func (.func 115) #[] #[.pointer (some ⟨w2.heap.size, 0, none⟩), .pointer (some ⟨w.heap.size, 0, none⟩), .pointer (some ⟨w2.heap.size + 1, 0, none⟩)]] 161)).cell? ⟨w.heap.size + 1, 2, none⟩ = some (.slice T t.f2.length tc) := (blk_cell tb2 2).trans rfl
  clear hI2 hko hkl tb2
  go_wp2_with fail
  have hI : InTx w2 w.heap.size A0 c0 l0 A1 c1 l1 a2 A3 c3 l3 (w2.heap.size + 1) [] ((w2.alloc (.cells #[.pointer none, .slice none 0 0] 174)).alloc (.cells #[.func (.func 115) #[] #[.pointer (some ⟨w2.heap.size, 0, none⟩), .pointer (some ⟨w.heap.size, 0, none⟩), .pointer (some ⟨w2.heap.size + 1, 0, none⟩)]] 161)) := by
    refine ⟨((Below.refl _ w2).alloc (Nat.le_refl _) _).alloc (by simp) _, HI2.out.g.box.1, HI2.out.g.r0, HI2.out.g.r1, HI2.out.g.r3, (Lib.IsBuilderF.of (Lib.fresh_isBuilder 174 5 w2)).alloc _, ?_⟩
    have := blk_new (w2.alloc (.cells #[.pointer none, .slice none 0 0] 174)) (.cells #[.func (.func 115) #[] #[.pointer (some ⟨w2.heap.size, 0, none⟩), .pointer (some ⟨w.heap.size, 0, none⟩), .pointer (some ⟨w2.heap.size + 1, 0, none⟩)]] 161)
    rwa [show (w2.alloc (.cells #[.pointer none, .slice none 0 0] 174)).heap.size = w2.heap.size + 1 by simp] at this
  refine (text1_calls _ t (Nat.le_refl _) w2 T tc HTC.out HI2.out.tr w.heap.size A0 c0 l0 A1 c1 l1 a2 A3 c3 l3 h0 h1 h3 HKO.out HB.out.1 HB.out.2.2.1 (w2.heap.size + 1) [] (by simpa using HKL.out) _ hI).mono ?_
  rintro e w5 ⟨rfl, hI5⟩
  rw [List.nil_append] at hI5
  have HI5 := Lib.hid hI5
  clear hI hI5 hen y0 y1 y2 u0 u1 u2
  go_wp2_with fail
  refine (Tryd.Builder_String_any_k w2.heap.size w2.heap.size _ _ HI5.out.b HI5.out.bel.size).mono ?_
  rintro e w6 ⟨rfl, -, hb6, -⟩
  have HB6 : Hid (Below w.heap.size w w6) := Lib.hid (HI2.out.g.bel.trans ((HI5.out.bel.mono HI2.out.g.bel.size).trans (hb6.mono HI2.out.g.bel.size)))
  clear hb6 HI5
  go_wp2
  go_ret
  exact ⟨by first | rfl | rw [HPS.out]; rfl, HB6.out⟩
end Go.Proofs.YtmdjmbdeeodehaaDoor.G
end
section
set_option linter.unusedVariables false
set_option linter.unusedSimpArgs false
namespace Go.Proofs.YtmdjmbdeeodehaaDoor.G
open Go Go.Proofs Go.RowKit Go.Proofs.YtmdjmbdeeodehaaDoorW.PrintWords Go.Proofs.YtmdjmbdeeodehaaDoorW.PrintLast Go.Proofs.YtmdjmbdeeodehaaDoorW.PrintMore Go.Proofs.YtmdjmbdeeodehaaDoor.Pure
mutual
def yieldT : TTree → List Int
  | ⟨r, s, ks⟩ => if r < 0 then [s] else yieldTs ks
def yieldTs : List TTree → List Int
  | [] => []
  | k :: ks => yieldT k ++ yieldTs ks
end
theorem yieldT_eq (t : TTree) : yieldT t = if t.f0 < 0 then [t.f1] else yieldTs t.f2 := by cases t; simp [yieldT]
mutual
theorem yieldT_len : ∀ t : TTree, (yieldT t).length ≤ cntT t
  | ⟨r, s, ks⟩ => by
    simp only [yieldT, cntT]
    have := yieldTs_len ks
    split
    · simp
    · omega
theorem yieldTs_len : ∀ l : List TTree, (yieldTs l).length ≤ cntTs l
  | [] => by simp [yieldTs]
  | k :: ks => by
    have := yieldT_len k
    have := yieldTs_len ks
    simp only [yieldTs, cntTs, List.length_append]; omega
end
structure InYl (w0 : World) (ob wb : Nat) (v : Value) (out : List Int) (W : World) : Prop where
  bel : Below w0.heap.size w0 W
  ho : w0.heap.size ≤ ob
  hw : w0.heap.size ≤ wb
  o : W.heap[ob]? = some (.cells #[v] 30 (0, 0))
  f : W.heap[wb]? = some (.cells #[.func (.func 106) #[] #[.pointer (some ⟨ob, 0, none⟩), .pointer (some ⟨wb, 0, none⟩)]] 161 (0, 0))
  row : Kd.R (Kd.int .i64) 52 W w0.heap.size (fun _ => True) v out
section
variable {w0 : World} {ob wb : Nat} {v : Value} {out : List Int} {W W' : World}
theorem InYl.step (h : InYl w0 ob wb v out W) (hb : Below W.heap.size W W') : InYl w0 ob wb v out W' := ⟨h.bel.trans (hb.mono h.bel.size), h.ho, h.hw, blk_below h.o hb, blk_below h.f hb, Kd.R_below h.row hb⟩
theorem InYl.o0 (h : InYl w0 ob wb v out W) : W.cell? ⟨ob, 0, none⟩ = some v := (blk_cell h.o 0).trans rfl
theorem InYl.f0 (h : InYl w0 ob wb v out W) : W.cell? ⟨wb, 0, none⟩ = some (.func (.func 106) #[] #[.pointer (some ⟨ob, 0, none⟩), .pointer (some ⟨wb, 0, none⟩)]) := (blk_cell h.f 0).trans rfl
theorem InYl.put {v2 : Value} {out2 : List Int} (h : InYl w0 ob wb v out W) (hb : Below w0.heap.size w0 W') (hg : W.grownBy W' v.ownBlock) (hr : Kd.R (Kd.int .i64) 52 W' w0.heap.size (fun _ => True) v2 out2) : InYl w0 ob wb v2 out2 (W'.setCell ⟨ob, 0, none⟩ v2) := by
  have ho2 := blk_grown h.o hg (Kd.R_ne h.row h.o (by decide))
  have hf2 := blk_grown h.f hg (Kd.R_ne h.row h.f (by decide))
  have hne : wb ≠ ob := blk_ne h.f h.o (by decide)
  exact ⟨hb.setCell h.ho _, h.ho, h.hw, blk_put (cs := #[v]) ho2 0 _ rfl, blk_far hf2 hne _, Kd.R_mono (Kd.R_far (p := ⟨ob, 0, none⟩) (Kd.R_types hr ho2 (by decide)) (fun _ hk => hk.2) _) (fun _ _ => trivial)⟩
end
theorem yenters (u : Value) (ob wb : Nat) (W : World) : Sem.run Tryd.prog (callFunc 106 #[u, .pointer (some ⟨ob, 0, none⟩), .pointer (some ⟨wb, 0, none⟩)]) W = .ok (.enter 106 #[u, .pointer (some ⟨ob, 0, none⟩), .pointer (some ⟨wb, 0, none⟩)]) W := by kernel_rfl
set_option maxHeartbeats 4000000 in
set_option maxRecDepth 100000 in
theorem yield1_calls : ∀ (n : Nat) (t : TTree) (htn : cntT t ≤ n) (w0 : World) (T : Option Addr) (tc : Nat) (htc : t.f2.length ≤ tc) (ht : Kd.C k55 w0 T t.f2.length t.f2) (ob wb : Nat) (v : Value) (out : List Int) (hl : out.length + (yieldT t).length ≤ 1000000) (W : World) (hI : InYl w0 ob wb v out W),
    Calls Tryd.prog 106 #[.agg #[.int .i64 t.f0, .int .i64 t.f1, .slice T t.f2.length tc], .pointer (some ⟨ob, 0, none⟩), .pointer (some ⟨wb, 0, none⟩)] W fun e w' => e = .returned (.tuple #[]) ∧ ∃ v', InYl w0 ob wb v' (out ++ yieldT t) w' := by
  intro n
  induction n with
  | zero => intro t htn; have := cntT_pos t; omega
  | succ n ih =>
    intro t htn w0 T tc htc ht ob wb v out hl W hI
    have hu := Tryd.underlying55
    have HIH := Lib.hid ih
    have HTN := Lib.hid htn
    have HT := Lib.hid ht
    have HTC := Lib.hid htc
    have hB0 : Below W.heap.size W (W.alloc (.cells #[.int .i64 t.f0, .int .i64 t.f1, .slice T t.f2.length tc] 55)) := (Below.refl _ _).alloc (Nat.le_refl _) _
    have hI1 := hI.step hB0
    have hTW : Hid (∀ W', InYl w0 ob wb v out W' → Kd.C k55 W' T t.f2.length t.f2) := Lib.hid (fun W' h => Kd.C_below ht h.bel)
    have HY := Lib.hid (yieldT_eq t)
    obtain ⟨ys, hys⟩ : ∃ ys, ys = yieldT t := ⟨_, rfl⟩
    rw [← hys] at HY hl ⊢
    have hbx := blk_new W (.cells #[.int .i64 t.f0, .int .i64 t.f1, .slice T t.f2.length tc] 55)
    by_cases hlf : t.f0 < 0
    · have HLF : Hid (tree_Tree_leaf.f t.f0 t.f1 t.f2 = some true) := Lib.hid (by unfold tree_Tree_leaf.f; rw [decide_eq_true hlf])
      have HE : Hid (ys = [t.f1]) := Lib.hid (by rw [HY.out, if_pos hlf])
      have hl2 : out.length + 1 ≤ 1000000 := by rw [HE.out] at hl; simpa using hl
      have HBX := Lib.hid hbx
      have HI1 := Lib.hid hI1
      clear hlf hys hI hI1 ih htn ht htc hB0 hl hbx
      go_enter Tryd.func106, Tryd.ntmps106
      go_wp2_with fail
      refine (tree_Tree_leaf.calls t.f0 t.f1 T tc t.f2 true _ (hTW.out _ HI1.out) HTC.out HLF.out).mono ?_
      rintro e w2 ⟨rfl, hb2⟩
      have hI2 := HI1.out.step hb2
      have hbx2 := blk_below HBX.out hb2
      have y1 : w2.cell? ⟨W.heap.size, 1, none⟩ = some (.int .i64 t.f1) := (blk_cell hbx2 1).trans rfl
      have z0 := hI2.o0
      have zf := blk_frozen hI2.o 0
      have HI2 := Lib.hid hI2
      have hsz : w0.heap.size ≤ w2.heap.size := HI2.out.bel.size
      clear hb2 hI2 HI1 HBX hbx2
      go_wp2_with (((with_reducible refine gate_dst (N := 12) rfl ?_); refine Kd.R_append (Kd.int .i64) (w0 := w0) w0.heap.size rfl (.tmp 8) (.tmp 11) 30 52 (.int .i64 0) 8 rfl Tryd.underlying30 info52 rfl (by decide) (by omega) v out t.f1 [.int .i64 t.f1] (fun _ => True) (fun _ => False) rfl ?aX ?aP (fun _ hk => hk.elim) ?aF ?aO ?aB ?aS ?aL ?_; (case aP => exact rfl); (case aX => first | rfl | (simp; done) | (go_simp; done) | (go_simp; simp; done)); (case aF => exact (fun _ _ => trivial)); (case aO => exact HI2.out.row); (case aB => exact HI2.out.bel); (case aS => exact hsz); (case aL => omega); intro v2 w6 ho hb hg hat; obtain ⟨A9, c9, e9⟩ := Kd.R_slice ho; subst e9; have hput := HI2.out.put hb hg ho; have zo := blk_grown HI2.out.o hg (Kd.R_ne HI2.out.row HI2.out.o (by decide)); have zc : w6.cell? ⟨ob, 0, none⟩ = some v := (blk_cell zo 0).trans rfl; have zg := blk_frozen zo 0; clear hat hg hb ho zo))
      rw [HE.out]
      clear zc zg
      simp only [List.length_append, List.length_singleton] at hput
      exact bodyPost_ret (v := .tuple #[]) (by simp [results, Tryd.results106, go_sem]) rfl ⟨rfl, _, hput⟩
    · have HLF : Hid (tree_Tree_leaf.f t.f0 t.f1 t.f2 = some false) := Lib.hid (by unfold tree_Tree_leaf.f; rw [decide_eq_false hlf])
      have HE : Hid (ys = yieldTs t.f2) := Lib.hid (by rw [HY.out, if_neg hlf])
      have HLL : Hid (out.length + ys.length ≤ 1000000) := Lib.hid hl
      have HBX := Lib.hid hbx
      have HI1 := Lib.hid hI1
      have htl : t.f2.length ≤ 9223372036854775807 := Kd.C_max HT.out
      clear hlf hys hI hI1 ih htn ht htc hB0 hl hbx
      go_enter Tryd.func106, Tryd.ntmps106
      go_wp2_with fail
      refine (tree_Tree_leaf.calls t.f0 t.f1 T tc t.f2 false _ (hTW.out _ HI1.out) HTC.out HLF.out).mono ?_
      rintro e w2 ⟨rfl, hb2⟩
      have hI2 := HI1.out.step hb2
      have hbx2 := blk_below HBX.out hb2
      have y2 : w2.cell? ⟨W.heap.size, 2, none⟩ = some (.slice T t.f2.length tc) := (blk_cell hbx2 2).trans rfl
      have HI2 := Lib.hid hI2
      clear hb2 hI2 HI1 HBX hbx2
      go_wp2
      clear y2
      go_loopw [16] (fun i wr => ∃ (j : Nat) (v1 : Value) (out1 : List Int), j ≤ t.f2.length ∧ i = .int .i64 j ∧ Hid (out1 ++ yieldTs (t.f2.drop j) = out ++ ys) ∧ Hid (InYl w0 ob wb v1 out1 wr)) (fun i _ => t.f2.length - (intOf i).toNat)
      case atStart => exact ⟨0, v, out, Nat.zero_le _, rfl, Lib.hid (by rw [HE.out, List.drop_zero]), HI2⟩
      case round =>
        clear HI2
        obtain ⟨j, v1, out1, hj, rfl, HO, HI⟩ := hrel
        by_cases hjl : j < t.f2.length
        · obtain ⟨kad, K2, kc, e1, hk0, hk1, hk2, hkc, hkr⟩ := at_T55 HT.out (j : Int) (by omega) (by omega)
          subst e1
          obtain ⟨k, hk⟩ : ∃ k, k = t.f2[j] := ⟨_, rfl⟩
          rw [rdT_at _ j hjl, ← hk] at hk0 hk1 hk2 hkc hkr
          rw [Int.toNat_natCast] at hk0 hk1 hk2
          replace hk0 := (HI.out.bel.cell (World.block_lt_of_cell? _ _ hk0)).trans hk0
          replace hk1 := (HI.out.bel.cell (World.block_lt_of_cell? _ _ hk1)).trans hk1
          replace hk2 := (HI.out.bel.cell (World.block_lt_of_cell? _ _ hk2)).trans hk2
          have HO2 : Hid ((out1 ++ yieldT k) ++ yieldTs (t.f2.drop (j + 1)) = out ++ ys) := Lib.hid (by have := HO.out; rw [List.drop_eq_getElem_cons hjl, ← hk, yieldTs, ← List.append_assoc] at this; exact this)
          have HCN : Hid (cntT k ≤ n) := Lib.hid (by
            have h1 := cntTs_mem (List.getElem_mem hjl)
            have h2 := cntT_eq t
            have h3 := HTN.out
            rw [← hk] at h1; omega)
          have HKR := Lib.hid hkr
          have HKC := Lib.hid hkc
          have HJ := Lib.hid hjl
          have hj0 : 0 ≤ (j : Int) := Int.natCast_nonneg _
          have hj1 : (j : Int) < (t.f2.length : Int) := by omega
          have hI3 := HI.out.step (W' := wr.alloc (.cells #[.int .i64 k.f0, .int .i64 k.f1, .slice K2 k.f2.length kc] 55)) ((Below.refl _ _).alloc (Nat.le_refl _) _)
          have hf3 := hI3.f0
          have HI3 := Lib.hid hI3
          have hen := fun (u : Value) (W : World) => yenters u ob wb W
          clear hk hkr hkc hjl hj hI3
          go_wp2_with fail
          refine (HIH.out k HCN.out w0 K2 kc HKC.out HKR.out ob wb v1 out1 (by
            have h1 := congrArg List.length HO2.out
            have h2 := HLL.out
            simp only [List.length_append] at h1; omega) _ HI3.out).mono ?_
          rintro e w5 ⟨rfl, v2, hI5⟩
          have HI5 := Lib.hid hI5
          clear hI5 HI3 hf3 hk0 hk1 hk2 hen
          go_wp2
          go_roundw
          case rel => exact ⟨j + 1, v2, out1 ++ yieldT k, HJ.out, by go_num, HO2, HI5⟩
          case measure => have := HJ.out; simp [intOf]; omega
        · obtain rfl : j = t.f2.length := by omega
          have HO2 : Hid (out1 = out ++ ys) := Lib.hid (by have := HO.out; rwa [List.drop_length, yieldTs, List.append_nil] at this)
          clear hj hjl
          go_wp2
          rw [← HO2.out]
          first
            | exact bodyPost_end (v := .tuple #[]) (by simp [results, Tryd.results106, go_sem]) rfl ⟨rfl, _, HI.out⟩
            | exact bodyPost_ret (v := .tuple #[]) (by simp [results, Tryd.results106, go_sem]) rfl ⟨rfl, _, HI.out⟩
set_option maxHeartbeats 4000000 in
set_option maxRecDepth 100000 in
theorem yield_calls (t : TTree) (hcnt : cntT t ≤ 1000000) (T : Option Addr) (tc : Nat) (htc : t.f2.length ≤ tc) (w : World) (ht : Kd.C k55 w T t.f2.length t.f2) :
    Calls Tryd.prog 38 #[.agg #[.int .i64 t.f0, .int .i64 t.f1, .slice T t.f2.length tc]] w fun e w' => ∃ v, e = .returned v ∧ Kd.R (Kd.int .i64) 52 w' w.heap.size (fun _ => True) v (yieldT t) ∧ Below w.heap.size w w' := by
  have hu := Tryd.underlying55
  have HT := Lib.hid ht
  have HTC := Lib.hid htc
  have HL : Hid ((yieldT t).length ≤ 1000000) := Lib.hid (Nat.le_trans (yieldT_len t) hcnt)
  have hen := fun (u : Value) (ob wb : Nat) (W : World) => yenters u ob wb W
  clear ht htc hcnt
  go_enter Tryd.func38, Tryd.ntmps38
  go_wp2_with fail
  have hI : InYl w (w.heap.size + 1) (w.heap.size + 1 + 1) (.slice none 0 0) [] (((w.alloc (.cells #[.int .i64 t.f0, .int .i64 t.f1, .slice T t.f2.length tc] 55)).alloc (.cells #[.slice none 0 0] 30)).alloc (.cells #[.func (.func 106) #[] #[.pointer (some ⟨w.heap.size + 1, 0, none⟩), .pointer (some ⟨w.heap.size + 1 + 1, 0, none⟩)]] 161)) := by
    refine ⟨(((Below.refl _ w).alloc (Nat.le_refl _) _).alloc (by simp) _).alloc (by simp; omega) _, by omega, by omega, ?_, ?_, Kd.R_nil _ _ _ _ _⟩
    · have := blk_alloc (blk_new (w.alloc (.cells #[.int .i64 t.f0, .int .i64 t.f1, .slice T t.f2.length tc] 55)) (.cells #[.slice none 0 0] 30)) (.cells #[.func (.func 106) #[] #[.pointer (some ⟨w.heap.size + 1, 0, none⟩), .pointer (some ⟨w.heap.size + 1 + 1, 0, none⟩)]] 161)
      rwa [show (w.alloc (.cells #[.int .i64 t.f0, .int .i64 t.f1, .slice T t.f2.length tc] 55)).heap.size = w.heap.size + 1 by simp] at this
    · have := blk_new ((w.alloc (.cells #[.int .i64 t.f0, .int .i64 t.f1, .slice T t.f2.length tc] 55)).alloc (.cells #[.slice none 0 0] 30)) (.cells #[.func (.func 106) #[] #[.pointer (some ⟨w.heap.size + 1, 0, none⟩), .pointer (some ⟨w.heap.size + 1 + 1, 0, none⟩)]] 161)
      rwa [show ((w.alloc (.cells #[.int .i64 t.f0, .int .i64 t.f1, .slice T t.f2.length tc] 55)).alloc (.cells #[.slice none 0 0] 30)).heap.size = w.heap.size + 1 + 1 by simp] at this
  refine (yield1_calls _ t (Nat.le_refl _) w T tc HTC.out HT.out (w.heap.size + 1) (w.heap.size + 1 + 1) (.slice none 0 0) [] (by simpa using HL.out) _ hI).mono ?_
  rintro e w5 ⟨rfl, v5, hI5⟩
  rw [List.nil_append] at hI5
  obtain ⟨A9, c9, e9⟩ := Kd.R_slice hI5.row
  subst e9
  have z0 := hI5.o0
  have HI5 := Lib.hid hI5
  clear hI hI5 hen
  go_wp2
  go_ret
  exact ⟨_, rfl, HI5.out.row, HI5.out.bel⟩
end Go.Proofs.YtmdjmbdeeodehaaDoor.G
end
section
set_option linter.unusedVariables false
set_option linter.unusedSimpArgs false
namespace Go.Proofs.YtmdjmbdeeodehaaDoor.G
open Go Go.Proofs Go.RowKit Go.Proofs.YtmdjmbdeeodehaaDoorW.PrintWords Go.Proofs.YtmdjmbdeeodehaaDoorW.PrintLast Go.Proofs.YtmdjmbdeeodehaaDoorW.PrintMore Go.Proofs.YtmdjmbdeeodehaaDoor.Pure
structure InQ (w : World) (A0 : Option Addr) (c0 : Nat) (l0 : List ByteArray) (A1 : Option Addr) (c1 : Nat) (l1 : List ByteArray) (a2 : Int) (Ao : Option Addr) (co : Nat) (m3 : List S87) (t : RTree) (T : Option Addr) (tc : Nat) (W : World) : Prop where
  v : InV w A0 l0.length c0 A1 l1.length c1 a2 Ao co m3 t T tc W
  r0 : Kd.C Kd.string W A0 l0.length l0
  r1 : Kd.C Kd.string W A1 l1.length l1
theorem InQ.step {w : World} {A0 : Option Addr} {c0 : Nat} {l0 : List ByteArray} {A1 : Option Addr} {c1 : Nat} {l1 : List ByteArray} {a2 : Int} {Ao : Option Addr} {co : Nat} {m3 : List S87} {t : RTree} {T : Option Addr} {tc : Nat} {W W' : World} (h : InQ w A0 c0 l0 A1 c1 l1 a2 Ao co m3 t T tc W) (hb : Below W.heap.size W W') : InQ w A0 c0 l0 A1 c1 l1 a2 Ao co m3 t T tc W' := ⟨h.v.step hb, Kd.C_below h.r0 hb, Kd.C_below h.r1 hb⟩
theorem InQ.mk0 {A0 : Option Addr} {c0 : Nat} {l0 : List ByteArray} {A1 : Option Addr} {c1 : Nat} {l1 : List ByteArray} {a2 : Int} {Ao : Option Addr} {co : Nat} {m3 : List S87} {t : RTree} {T : Option Addr} {tc : Nat} (w : World) (hr0 : Kd.C Kd.string w A0 l0.length l0) (hr1 : Kd.C Kd.string w A1 l1.length l1) (hm : Kd.C k87 w Ao m3.length m3) (ht : Kd.C k58 w T t.f2.length t.f2) :
    InQ w A0 c0 l0 A1 c1 l1 a2 Ao co m3 t T tc ((w.alloc (.cells #[.slice A0 l0.length c0, .slice A1 l1.length c1, .int .i64 a2, .slice Ao m3.length co] 63)).alloc (.cells #[.int .i64 t.f0, .int .i64 t.f1, .slice T t.f2.length tc] 58)) := by
  have h := InV.mk0 (A0 := A0) (n0 := l0.length) (c0 := c0) (A1 := A1) (n1 := l1.length) (c1 := c1) (a2 := a2) (c3 := co) (tc := tc) w hm ht
  exact ⟨h, Kd.C_below hr0 h.bel, Kd.C_below hr1 h.bel⟩
theorem rhas_f (l0 l1 : List ByteArray) (a2 : Int) (m3 : List S87) (s : Int) (hs : s < 0) (hl : l1.length ≤ 1000000) : wickerref02_Has.f l0 l1 a2 m3 s = some (decide (-1 - s < (l1.length : Int))) := by
  unfold wickerref02_Has.f
  rw [if_pos (by omega)]
  congr 1
  rw [show wrap64 (-(l1.length : Int)) = -(l1.length : Int) by unfold wrap64; omega, decide_eq_decide]
  omega
set_option maxHeartbeats 4000000 in
set_option maxRecDepth 100000 in
theorem rtreeCheck_calls (A0 : Option Addr) (c0 : Nat) (l0 : List ByteArray) (A1 : Option Addr) (c1 : Nat) (l1 : List ByteArray) (a2 : Int) (Ao : Option Addr) (co : Nat) (l3 : List GRule) (hok : gramOk l0 l1 a2 l3 = true) (h0 : l0.length ≤ c0) (h1 : l1.length ≤ c1) (h3 : (l3.map ofR).length ≤ co) (t : TTree) (rt : RTree) (hrt : rt = toR t) (T : Option Addr) (tc : Nat) (htc : rt.f2.length ≤ tc) (hcnt : cntT t ≤ 1000000)
    (w : World) (hr0 : Kd.C Kd.string w A0 l0.length l0) (hr1 : Kd.C Kd.string w A1 l1.length l1) (hm : Kd.C k87 w Ao (l3.map ofR).length (l3.map ofR)) (ht : Kd.C k58 w T rt.f2.length rt.f2) :
    Calls Tryd.prog 32 #[.agg #[.slice A0 l0.length c0, .slice A1 l1.length c1, .int .i64 a2, .slice Ao (l3.map ofR).length co], .agg #[.int .i64 rt.f0, .int .i64 rt.f1, .slice T rt.f2.length tc]] w fun e w' => e = .returned (.int .i64 (treeC l0 l1 a2 l3 t)) ∧ Below w.heap.size w w' := by
  have hu := Tryd.underlying63
  have hu2 := Tryd.underlying58
  have hb := gram_bounds hok
  have hI : InQ w A0 c0 l0 A1 c1 l1 a2 Ao co (l3.map ofR) rt T tc _ := InQ.mk0 w hr0 hr1 hm ht
  have HN : Hid ((l3.map ofR).length ≤ 1000000) := Lib.hid (by rw [List.length_map]; exact hb.2.2.1)
  have HO : Hid (∀ r ∈ l3.map ofR, r.f1.length ≤ 1000000) := Lib.hid (fun r hr => by
    obtain ⟨g, hg, rfl⟩ := List.mem_map.1 hr
    have := List.all_eq_true.1 hb.2.2.2.2.2.2 g hg
    simp only [ruleOk, Bool.and_eq_true, decide_eq_true_eq] at this
    exact this.1.2)
  obtain ⟨KC, hKC⟩ := Pure.Ev.out (ref_check_f l0 l1 a2 l3 hok)
  have HCH := Lib.hid (hKC KC (Nat.le_refl _))
  obtain ⟨ch, hch⟩ : ∃ ch, ch = checkC nmB mkB l0 l1 a2 l3 := ⟨_, rfl⟩
  have hcn : cntR rt = cntT t := by rw [hrt, cnt_toR]
  obtain ⟨K, hK⟩ := Pure.Ev.out (rcount_f _ rt (Nat.le_refl _) (by omega))
  have HK := Lib.hid (hK K (Nat.le_refl _))
  obtain ⟨rs, hrs⟩ : ∃ rs, rs = treeC l0 l1 a2 l3 t := ⟨_, rfl⟩
  have HRU : Hid (rs = if ch ≠ 0 then ch else if 65536 < cntR rt then 11 else if 0 ≤ rt.f0 then fitR (l3.map ofR) rt else if rt.f0 ≠ -1 ∨ 0 ≤ rt.f1 ∨ (l1.length : Int) ≤ -1 - rt.f1 ∨ 0 < rt.f2.length then 9 else 0) := Lib.hid (by
    have e0 : rt.f0 = t.f0 := by rw [hrt, toR_f0]
    have e1 : rt.f1 = t.f1 := by rw [hrt, toR_f1]
    have e2 : rt.f2.length = t.f2.length := by rw [hrt, toR_f2, toRs_length]
    have e3 : fitR (l3.map ofR) rt = fitT l3 t := by rw [hrt, fit_toR]
    rw [hrs, treeC, ← hch, hcn, e0, e1, e2, e3]
    by_cases x0 : ch ≠ 0
    · rw [if_pos x0, if_pos x0]
    rw [if_neg x0, if_neg x0]
    by_cases x1 : 65536 < cntT t
    · rw [if_pos x1, if_pos x1]
    rw [if_neg x1, if_neg x1]
    by_cases x2 : t.f0 < 0
    · rw [if_neg (not_not_intro x2), if_neg (show ¬ 0 ≤ t.f0 by omega)]
      by_cases x3 : ¬ t.f1 < 0 ∨ (l1.length : Int) ≤ -1 - t.f1
      · rw [if_pos x3, if_pos (by omega)]
      · rw [if_neg x3]
        by_cases x4 : t.f0 ≠ -1 ∨ 0 < t.f2.length
        · rw [if_pos x4, if_pos (by omega)]
        · rw [if_neg x4, if_neg (by omega)]
    · rw [if_pos x2, if_pos (show 0 ≤ t.f0 by omega)])
  rw [← hrs]
  rw [← hch] at HCH
  have hl1 : l1.length ≤ 1000000 := hb.2.1
  have HHAS := Lib.hid (fun hs => rhas_f l0 l1 a2 (l3.map ofR) rt.f1 hs hl1)
  generalize l3.map ofR = m3 at *
  have hz0 := hI.v.g0
  have hz1 := hI.v.g1
  have hz2 := hI.v.g2
  have hz3 := hI.v.g3
  have HI := Lib.hid hI
  clear hr0 hr1 hm ht hb hok hI hK hKC hrs hch hrt hcn hcnt
  go_enter Tryd.func32, Tryd.ntmps32
  go_wp2_with fail
  refine (wickerref02_Check.calls KC A0 c0 l0 A1 c1 l1 a2 Ao co m3 ch _ HI.out.r0 h0 HI.out.r1 h1 HI.out.v.r3 h3 HCH.out).mono ?_
  rintro e w2 ⟨rfl, hb2⟩
  have hI2 := HI.out.step hb2
  clear hb2 HI hz0 hz1 hz2 hz3
  by_cases hne : ch ≠ 0
  · have hneb : (ch != 0) = true := bne_iff_ne.2 hne
    have HE : Hid (rs = ch) := Lib.hid (by rw [HRU.out, if_pos hne])
    have HI2 := Lib.hid hI2
    clear hne hI2
    go_wp2
    go_ret
    rw [HE.out]
    exact ⟨rfl, HI2.out.v.bel⟩
  have hneb : (ch != 0) = false := by rw [Decidable.not_not.1 hne]; rfl
  have HE := Lib.hid (HRU.out.trans (if_neg hne))
  have y0 := hI2.v.t0
  have y1 := hI2.v.t1
  have y2 := hI2.v.t2
  have HI2 := Lib.hid hI2
  clear hne hI2 HRU
  go_wp2_with fail
  refine (wickerref03_Count.calls K rt.f0 rt.f1 T tc rt.f2 _ _ HI2.out.v.tr htc HK.out).mono ?_
  rintro e w3 ⟨rfl, hb3⟩
  have hI3 := HI2.out.step hb3
  have y0 := hI3.v.t0
  have y1 := hI3.v.t1
  have y2 := hI3.v.t2
  have z0 := hI3.v.g0
  have z1 := hI3.v.g1
  have z2 := hI3.v.g2
  have z3 := hI3.v.g3
  have HI3 := Lib.hid hI3
  clear hb3 HI2 hI3
  by_cases hgt : 65536 < cntR rt
  · have hgtb : decide ((cntR rt : Int) > 65536) = true := decide_eq_true (by omega)
    have HE2 : Hid (rs = 11) := Lib.hid (HE.out.trans (if_pos hgt))
    go_wp2
    go_ret
    rw [HE2.out]
    exact ⟨rfl, HI3.out.v.bel⟩
  have hgtb : decide ((cntR rt : Int) > 65536) = false := decide_eq_false (by omega)
  have HE2 := Lib.hid (HE.out.trans (if_neg hgt))
  by_cases hlf : 0 ≤ rt.f0
  · have hlfb : decide (rt.f0 ≥ 0) = true := decide_eq_true hlf
    have HE3 : Hid (rs = fitR m3 rt) := Lib.hid (HE2.out.trans (if_pos hlf))
    clear hlf
    go_wp2_with fail
    refine (fits_calls _ A0 l0.length c0 A1 l1.length c1 a2 Ao co m3 HN.out HO.out rt T tc (Nat.le_refl _) _ HI3.out.v.r3 HI3.out.v.tr).mono ?_
    rintro e w5 ⟨rfl, hb5⟩
    have HI5 := Lib.hid (HI3.out.step hb5)
    rw [← HE3.out]
    clear hb5 HI3 y0 y1 y2 z0 z1 z2 z3
    go_wp2
    go_ret
    exact ⟨rfl, HI5.out.v.bel⟩
  have hlfb : decide (rt.f0 ≥ 0) = false := decide_eq_false hlf
  have HE3 := Lib.hid (HE2.out.trans (if_neg hlf))
  clear hlf HE2 HE
  by_cases x0 : rt.f0 ≠ -1
  · have x0b : (rt.f0 != -1) = true := bne_iff_ne.2 x0
    have HE4 : Hid (rs = 9) := Lib.hid (HE3.out.trans (if_pos (Or.inl x0)))
    clear x0
    go_wp2
    go_ret
    rw [HE4.out]
    exact ⟨rfl, HI3.out.v.bel⟩
  have x0b : (rt.f0 != -1) = false := by rw [Decidable.not_not.1 x0]; rfl
  by_cases x1 : 0 ≤ rt.f1
  · have x1b : decide (rt.f1 ≥ 0) = true := decide_eq_true x1
    have HE4 : Hid (rs = 9) := Lib.hid (HE3.out.trans (if_pos (Or.inr (Or.inl x1))))
    clear x0 x1
    go_wp2
    go_ret
    rw [HE4.out]
    exact ⟨rfl, HI3.out.v.bel⟩
  have x1b : decide (rt.f1 ≥ 0) = false := decide_eq_false x1
  have hh := HHAS.out (by omega)
  obtain ⟨hs, hhs⟩ : ∃ hs, hs = decide (-1 - rt.f1 < (l1.length : Int)) := ⟨_, rfl⟩
  rw [← hhs] at hh
  have HH := Lib.hid hh
  clear hh
  cases hs with
  | false =>
    have HE4 : Hid (rs = 9) := Lib.hid (HE3.out.trans (if_pos (Or.inr (Or.inr (Or.inl (by have := of_decide_eq_false hhs.symm; omega))))))
    clear x0 x1 hhs
    go_wp2_with fail
    refine (wickerref02_Has.calls A0 c0 l0 A1 c1 l1 a2 Ao co m3 rt.f1 false _ HI3.out.r0 h0 HI3.out.r1 h1 HI3.out.v.r3 h3 HH.out).mono ?_
    rintro e w5 ⟨rfl, hb5⟩
    have HI5 := Lib.hid (HI3.out.step hb5)
    clear hb5 HI3 y0 y1 y2 z0 z1 z2 z3
    go_wp2
    go_ret
    rw [HE4.out]
    exact ⟨rfl, HI5.out.v.bel⟩
  | true =>
    by_cases x3 : 0 < rt.f2.length
    · have x3b : decide ((rt.f2.length : Int) > 0) = true := decide_eq_true (by omega)
      have HE4 : Hid (rs = 9) := Lib.hid (HE3.out.trans (if_pos (Or.inr (Or.inr (Or.inr x3)))))
      clear x0 x1 hhs
      go_wp2_with fail
      refine (wickerref02_Has.calls A0 c0 l0 A1 c1 l1 a2 Ao co m3 rt.f1 true _ HI3.out.r0 h0 HI3.out.r1 h1 HI3.out.v.r3 h3 HH.out).mono ?_
      rintro e w5 ⟨rfl, hb5⟩
      have hI5 := HI3.out.step hb5
      have y2 := hI5.v.t2
      have HI5 := Lib.hid hI5
      clear hb5 HI3 z0 z1 z2 z3 hI5
      go_wp2
      go_ret
      rw [HE4.out]
      exact ⟨rfl, HI5.out.v.bel⟩
    · have x3b : decide ((rt.f2.length : Int) > 0) = false := decide_eq_false (by omega)
      have HE4 : Hid (rs = 0) := Lib.hid (HE3.out.trans (if_neg (by have := of_decide_eq_true hhs.symm; omega)))
      clear x0 x1 hhs
      go_wp2_with fail
      refine (wickerref02_Has.calls A0 c0 l0 A1 c1 l1 a2 Ao co m3 rt.f1 true _ HI3.out.r0 h0 HI3.out.r1 h1 HI3.out.v.r3 h3 HH.out).mono ?_
      rintro e w5 ⟨rfl, hb5⟩
      have hI5 := HI3.out.step hb5
      have y2 := hI5.v.t2
      have HI5 := Lib.hid hI5
      clear hb5 HI3 z0 z1 z2 z3 hI5
      go_wp2
      go_ret
      rw [HE4.out]
      exact ⟨rfl, HI5.out.v.bel⟩
end Go.Proofs.YtmdjmbdeeodehaaDoor.G
end
section
namespace Go.Proofs.YtmdjmbdeeodehaaDoor.G
open Go.RowKit Go.Proofs.YtmdjmbdeeodehaaDoorW.PrintWords Go.Proofs.YtmdjmbdeeodehaaDoorW.PrintLast Go.Proofs.YtmdjmbdeeodehaaDoorW.PrintMore
attribute [local go_sem] max2_int min2_int max_two min_two max_three min_three max_four min_four
attribute [local go_sem] Go.Proofs.YtmdjmbdeeodehaaDoorOwn.isSome_setCell
set_option linter.unusedVariables false
set_option linter.unusedSimpArgs false
mutual
def wickerlaw03_used.l0 : Nat → List Int → List (S55) → Int → Int → Option (List Int)
 | 0, _, _, _, _ => none
 | k + 1, x3, x13, x14, x15 => if x15 < x14 then (if 0 ≤ x15 then (if x15 < (x13.length : Int) then ((wickerlaw03_used.f k ((rd_T55 x13 x15).f0) ((rd_T55 x13 x15).f1) ((rd_T55 x13 x15).f2)).bind fun t107 => (if x3.length + t107.length < 17592186044416 then (wickerlaw03_used.l0 k (x3 ++ t107) x13 x14 (wrap64 (x15 + 1))) else (none))) else (none)) else (none)) else (some x3)
def wickerlaw03_used.f : Nat → Int → Int → List (S55) → Option (List Int)
 | 0, _, _, _ => none
 | k + 1, a0_0, a0_1, l0_2 => if a0_0 < 0 then (some ([] : List Int)) else (wickerlaw03_used.l0 k (([a0_0] : List Int)) l0_2 (l0_2.length : Int) 0)
end
set_option maxHeartbeats 8000000 in
set_option maxRecDepth 100000 in
theorem wickerlaw03_used.calls (k : Nat) : ∀ (a0_0 : Int) (a0_1 : Int) (A0_2 : Option Addr) (c0_2 : Nat) (l0_2 : List (S55)) (r : List Int) (w : World) (hr0_2 : Kd.C k55 w A0_2 l0_2.length l0_2) (hc0_2 : l0_2.length ≤ c0_2) (h : wickerlaw03_used.f k a0_0 a0_1 l0_2 = some r),
  Calls Tryd.prog 37 #[.agg #[.int .i64 a0_0, .int .i64 a0_1, .slice A0_2 l0_2.length c0_2]] w fun e w' => ∃ v0_ : Value, e = .returned (v0_) ∧ Kd.R (Kd.int .i64) 3 w' w.heap.size (fun _ => True) v0_ r ∧ Below w.heap.size w w' := by
 induction k using Nat.strongRecOn with
 | _ k ih =>
 intro a0_0 a0_1 A0_2 c0_2 l0_2 r w hr0_2 hc0_2 h
 cases k with
 | zero => exact absurd h (by simp [wickerlaw03_used.f])
 | succ k =>
 simp only [wickerlaw03_used.f] at h
 have hu55 := Tryd.underlying55
 have HR0_2 := Aside0.mk hr0_2
 have HC0_2 := Aside0.mk hc0_2
 clear hr0_2 hc0_2
 have HB := Aside0.mk (Below.refl w.heap.size w)
 have H : (if a0_0 < 0 then (some ([] : List Int)) else (wickerlaw03_used.l0 k (([a0_0] : List Int)) l0_2 (l0_2.length : Int) 0)) = some r := h
 clear h
 by_cases c2 : a0_0 < 0
 ·rw [if_pos c2] at H
  have c2b0 : decide (a0_0 < 0) = true := decide_eq_true c2
  clear c2
  obtain rfl := Option.some.inj H
  go_enter Tryd.func37, Tryd.ntmps37
  go_wp2_with (first | ((with_reducible refine gate_dst (N := 1) rfl ?_); refine box_event ?hg (N := 1) ?hd (cs := #[.int .i64 a0_0, .int .i64 a0_1, .slice A0_2 l0_2.length c0_2]) (t := 55) ?hr ?_; (case hd => rfl); (case hg => rfl); (case hr => first | (go_simp; done) | (go_simp; rfl)); intro gb101 hg w3 hbox hb; have n0_ := Aside0.mk (below_step (by repeat (first | (with_reducible first | exact HB.out | apply below_alloc | apply pw_below_drewN | apply below_drew1) | exact HB.out)) hb); have n1_ := Aside0.mk (hbox); have n2_ := Aside0.mk ((by rw [hg]; exact (below_size (by repeat (first | (with_reducible first | exact HB.out | apply below_alloc | apply pw_below_drewN | apply below_drew1) | exact HB.out))) : w.heap.size ≤ gb101)); have n3_ := Aside0.mk ((by rw [hg]; exact (below_size (by repeat (first | (with_reducible first | exact HB.out | apply below_alloc | apply pw_below_drewN | apply below_drew1) | exact HB.out))) : w.heap.size ≤ gb101)); clear HB; have HB := n0_; have BK101 := n1_; have GW101 := n2_; have GE101 := n3_; clear n0_ n1_ n2_ n3_; clear hb hbox hg; have hcz4_0 : w3.cell? ⟨gb101, 0, none⟩ = some (.int .i64 a0_0) := (blk_cell BK101.out 0).trans rfl; have hcz4_1 : w3.cell? ⟨gb101, 1, none⟩ = some (.int .i64 a0_1) := (blk_cell BK101.out 1).trans rfl; have hcz4_2 : w3.cell? ⟨gb101, 2, none⟩ = some (.slice A0_2 l0_2.length c0_2) := (blk_cell BK101.out 2).trans rfl; have hfz4_0 := blk_frozen BK101.out 0; have hfz4_1 := blk_frozen BK101.out 1; have hfz4_2 := blk_frozen BK101.out 2))
  go_ret
  exact ⟨_, by first | rfl | (simp [errW_none, errW_some] <;> rfl) | (simp [*, errW_none, errW_some] <;> rfl), by first | exact Kd.R_nil _ _ _ _ _ | exact Kd.N_nil _ _ _ _ _ | exact Kd.V_nil _ _ _ _ _ | exact Kd.Q_nil _ _ _ _ _ | exact Kd.S_nil _ _ _ _ _, by repeat (first | (with_reducible first | exact HB.out | apply below_alloc | apply pw_below_drewN | apply below_drew1 | refine below_set ?_ GE101.out) | exact HB.out)⟩
 ·rw [if_neg c2] at H
  have c2b0 : decide (a0_0 < 0) = false := decide_eq_false c2
  clear c2
  obtain ⟨y102, hy102⟩ : ∃ y_ : List Int, y_ = (([a0_0] : List Int)) := ⟨_, rfl⟩
  replace H : (wickerlaw03_used.l0 k y102 l0_2 (l0_2.length : Int) 0) = some r := by first | (rw [hy102]; with_reducible exact H) | (have H2_ := (Option.bind_some _ _).symm.trans H; rw [hy102]; with_reducible exact H2_) | (have H2_ := (Option.bind_some _ _).symm.trans H; with_reducible exact H2_) | with_reducible exact H | (rw [hy102]; exact H) | exact H
  have Ny102 := Aside0.mk hy102
  clear hy102
  have H' := Aside0.mk H
  clear H
  go_enter Tryd.func37, Tryd.ntmps37
  go_wp2_with (first | ((with_reducible refine gate_dst (N := 1) rfl ?_); refine box_event ?hg (N := 1) ?hd (cs := #[.int .i64 a0_0, .int .i64 a0_1, .slice A0_2 l0_2.length c0_2]) (t := 55) ?hr ?_; (case hd => rfl); (case hg => rfl); (case hr => first | (go_simp; done) | (go_simp; rfl)); intro gb101 hg w5 hbox hb; have n0_ := Aside0.mk (below_step (by repeat (first | (with_reducible first | exact HB.out | apply below_alloc | apply pw_below_drewN | apply below_drew1) | exact HB.out)) hb); have n1_ := Aside0.mk (hbox); have n2_ := Aside0.mk ((by rw [hg]; exact (below_size (by repeat (first | (with_reducible first | exact HB.out | apply below_alloc | apply pw_below_drewN | apply below_drew1) | exact HB.out))) : w.heap.size ≤ gb101)); have n3_ := Aside0.mk ((by rw [hg]; exact (below_size (by repeat (first | (with_reducible first | exact HB.out | apply below_alloc | apply pw_below_drewN | apply below_drew1) | exact HB.out))) : w.heap.size ≤ gb101)); clear HB; have HB := n0_; have BK101 := n1_; have GW101 := n2_; have GE101 := n3_; clear n0_ n1_ n2_ n3_; clear hb hbox hg; have hcz6_0 : w5.cell? ⟨gb101, 0, none⟩ = some (.int .i64 a0_0) := (blk_cell BK101.out 0).trans rfl; have hcz6_1 : w5.cell? ⟨gb101, 1, none⟩ = some (.int .i64 a0_1) := (blk_cell BK101.out 1).trans rfl; have hcz6_2 : w5.cell? ⟨gb101, 2, none⟩ = some (.slice A0_2 l0_2.length c0_2) := (blk_cell BK101.out 2).trans rfl; have hfz6_0 := blk_frozen BK101.out 0; have hfz6_1 := blk_frozen BK101.out 1; have hfz6_2 := blk_frozen BK101.out 2) | ((with_reducible refine gate_dst (N := 11) rfl ?_); refine Kd.R_lit (Kd.int .i64) _ 3 ?hg (N := 11) ?hd (xs := ([a0_0] : List Int)) (inner := [.int .i64 a0_0]) (ok := fun _ => True) (okp := fun _ => True) ?hr ?hp (fun _ hk => hk) trivial (Below.refl _ _) (Nat.le_refl _) (by simp) ?_; (case hd => rfl); (case hg => rfl); (case hr => first | (go_simp; done) | (go_simp; rfl)); (case hp => exact (Reps.one (show Kd.M (Kd.int .i64) _ _ _ a0_0 [.int .i64 a0_0] from rfl) (Reps.none _ _))); intro v103 w7 ho8 hb hg_ hnew_; clear hg_ hnew_; (first | rw [← Ny102.out] at ho8 | (simp only [Int.reduceToNat] at ho8; rw [← Ny102.out] at ho8)); have n0_ := Aside0.mk (Kd.R_lower ho8 (below_size (by repeat (first | (with_reducible first | exact HB.out | apply below_alloc | apply pw_below_drewN | apply below_drew1 | refine below_set ?_ GE101.out) | exact HB.out)))); have n1_ := Aside0.mk (blk_below (g := gb101) (o := .cells #[.int .i64 a0_0, .int .i64 a0_1, .slice A0_2 l0_2.length c0_2] 55 (0, 0)) (by (with_reducible repeat (first | refine blk_drewN ?_ _ | refine blk_drew ?_ | refine blk_alloc ?_ _)); exact BK101.out) hb); have n2_ := Aside0.mk (below_step (by repeat (first | (with_reducible first | exact HB.out | apply below_alloc | apply pw_below_drewN | apply below_drew1 | refine below_set ?_ GE101.out) | exact HB.out)) hb); clear BK101; clear HB; have HO104 := n0_; have BK101 := n1_; have HB := n2_; clear n0_ n1_ n2_; clear hb ho8; have hcz9_0 : w7.cell? ⟨gb101, 0, none⟩ = some (.int .i64 a0_0) := (blk_cell BK101.out 0).trans rfl; have hcz9_1 : w7.cell? ⟨gb101, 1, none⟩ = some (.int .i64 a0_1) := (blk_cell BK101.out 1).trans rfl; have hcz9_2 : w7.cell? ⟨gb101, 2, none⟩ = some (.slice A0_2 l0_2.length c0_2) := (blk_cell BK101.out 2).trans rfl; have hfz9_0 := blk_frozen BK101.out 0; have hfz9_1 := blk_frozen BK101.out 1; have hfz9_2 := blk_frozen BK101.out 2))
  go_loopg [3, 15] k (fun kq v3 v15 w' => ∃ (x3_1 : List Int) (x15_1 : Int), v15 = .int .i64 x15_1 ∧ Aside0 (wickerlaw03_used.l0 kq x3_1 l0_2 (l0_2.length : Int) x15_1 = some r) ∧ Aside0 (kq ≤ k) ∧ Aside0 (Kd.R (Kd.int .i64) 3 w' w.heap.size (fun _ => True) v3 x3_1) ∧ Aside0 (w'.heap[gb101]? = some (.cells #[.int .i64 a0_0, .int .i64 a0_1, (.slice A0_2 l0_2.length c0_2)] 55 (0, 0))) ∧ Aside0 (Below w.heap.size w w'))
  case atStart => exact ⟨(y102), (0), (by first | rfl | (simp; done) | (simp [*]; done)), H', ⟨Nat.le_refl _⟩, ⟨by (with_reducible repeat (first | apply Kd.R_alloc | apply Kd.R_drewN | apply Kd.R_drew)); exact HO104.out⟩, ⟨by (with_reducible repeat (first | refine blk_drewN ?_ _ | refine blk_drew ?_ | refine blk_alloc ?_ _)); exact BK101.out⟩, ⟨by repeat (first | (with_reducible first | exact HB.out | apply below_alloc | apply pw_below_drewN | apply below_drew1 | refine below_set ?_ GE101.out) | exact HB.out)⟩⟩
  case round =>
   clear H'
   try clear c2
   try clear c2b0
   try clear p2
   try clear c3
   try clear hcz4_0
   try clear hcz4_1
   try clear hcz4_2
   try clear hcz6_0
   try clear hcz6_1
   try clear hcz6_2
   try clear hcz9_0
   try clear hcz9_1
   try clear hcz9_2
   try clear hfz4_0
   try clear hfz4_1
   try clear hfz4_2
   try clear hfz6_0
   try clear hfz6_1
   try clear hfz6_2
   try clear hfz9_0
   try clear hfz9_1
   try clear hfz9_2
   obtain ⟨x3_1, x15_1, rfl, HA, HK1, HO_3, BK101, HB⟩ := hrel
   cases gk with
   | zero => exact absurd HA.out (by simp [wickerlaw03_used.l0])
   | succ k1 =>
    have H := HA.out
    clear HA
    simp only [wickerlaw03_used.l0] at H
    by_cases c10 : x15_1 < (l0_2.length : Int)
    ·rw [if_pos c10] at H
     have c10b0 : decide (x15_1 < (l0_2.length : Int)) = true := decide_eq_true c10
     clear c10
     by_cases c11 : 0 ≤ x15_1
     ·rw [if_pos c11] at H
      have c11b0 : decide (0 ≤ x15_1) = true := decide_eq_true c11
      clear c11
      by_cases c12 : x15_1 < (l0_2.length : Int)
      ·rw [if_pos c12] at H
       have c12b0 : decide (x15_1 < (l0_2.length : Int)) = true := decide_eq_true c12
       clear c12
       replace H := Option.bind_eq_some_iff.mp H
       obtain ⟨t107, A130, H⟩ := H
       replace H : (if x3_1.length + t107.length < 17592186044416 then (wickerlaw03_used.l0 k1 (x3_1 ++ t107) l0_2 (l0_2.length : Int) (wrap64 (x15_1 + 1))) else (none)) = some r := H
       have A13 := Aside0.mk A130
       clear A130
       by_cases c14 : x3_1.length + t107.length < 17592186044416
       ·rw [if_pos c14] at H
        have LMc14 := Aside0.mk c14
        clear c14
        obtain ⟨y110, hy110⟩ : ∃ y_ : List Int, y_ = (x3_1 ++ t107) := ⟨_, rfl⟩
        replace H : (wickerlaw03_used.l0 k1 y110 l0_2 (l0_2.length : Int) (wrap64 (x15_1 + 1))) = some r := by first | (rw [hy110]; with_reducible exact H) | (have H2_ := (Option.bind_some _ _).symm.trans H; rw [hy110]; with_reducible exact H2_) | (have H2_ := (Option.bind_some _ _).symm.trans H; with_reducible exact H2_) | with_reducible exact H | (rw [hy110]; exact H) | exact H
        have Ny110 := Aside0.mk hy110
        clear hy110
        have H' := Aside0.mk H
        clear H
        have p105 : 0 ≤ (x15_1 : Int) := of_decide_eq_true (by first | (with_reducible assumption) | assumption)
        have q105 : x15_1 < (l0_2.length : Int) := of_decide_eq_true (by first | (with_reducible assumption) | assumption)
        obtain ⟨ad105, A105_2, c105_2, e105, hx105_0, hx105_1, hx105_2, hl105_2, hi105_2⟩ := at_T55 HR0_2.out x15_1 p105 q105
        cases e105
        replace hx105_0 := (HB.out.cell (World.block_lt_of_cell? w _ hx105_0)).trans hx105_0
        replace hx105_1 := (HB.out.cell (World.block_lt_of_cell? w _ hx105_1)).trans hx105_1
        replace hx105_2 := (HB.out.cell (World.block_lt_of_cell? w _ hx105_2)).trans hx105_2
        have HR105_2 := Aside0.mk hi105_2
        have HC105_2 := Aside0.mk hl105_2
        clear hi105_2 hl105_2
        replace p105 := eq_true p105
        replace q105 := eq_true q105
        go_wp2_with (first | ((with_reducible refine gate_dst (N := 5) rfl ?_); refine box_event ?hg (N := 5) ?hd (cs := #[.int .i64 0, .int .i64 0, .slice none 0 0]) (t := 55) ?hr ?_; (case hd => rfl); (case hg => rfl); (case hr => first | (go_simp; done) | (go_simp; rfl)); intro gb106 hg w15 hbox hb; have n0_ := Aside0.mk (Kd.R_below (by (with_reducible repeat (first | apply Kd.R_alloc | apply Kd.R_drewN | apply Kd.R_drew)); exact HO_3.out) hb); have n1_ := Aside0.mk (blk_below (g := gb101) (o := .cells #[.int .i64 a0_0, .int .i64 a0_1, .slice (some ad105) l0_2.length c0_2] 55 (0, 0)) (by (with_reducible repeat (first | refine blk_drewN ?_ _ | refine blk_drew ?_ | refine blk_alloc ?_ _)); exact BK101.out) hb); have n2_ := Aside0.mk (below_step (by repeat (first | (with_reducible first | exact HB.out | apply below_alloc | apply pw_below_drewN | apply below_drew1 | refine below_set ?_ GE101.out) | exact HB.out)) hb); have n3_ := Aside0.mk (hbox); have n4_ := Aside0.mk ((by rw [hg]; exact (below_size (by repeat (first | (with_reducible first | exact HB.out | apply below_alloc | apply pw_below_drewN | apply below_drew1 | refine below_set ?_ GE101.out) | exact HB.out))) : w.heap.size ≤ gb106)); have n5_ := Aside0.mk ((by rw [hg]; exact (below_size (by repeat (first | (with_reducible first | exact HB.out | apply below_alloc | apply pw_below_drewN | apply below_drew1 | refine below_set ?_ GE101.out) | exact HB.out))) : w.heap.size ≤ gb106)); have n6_ := Aside0.mk ((by rw [hg]; exact Nat.ne_of_lt (blk_lt (g := gb101) (o := .cells #[.int .i64 a0_0, .int .i64 a0_1, .slice (some ad105) l0_2.length c0_2] 55 (0, 0)) (by (with_reducible repeat (first | refine blk_drewN ?_ _ | refine blk_drew ?_ | refine blk_alloc ?_ _)); exact BK101.out)) : gb101 ≠ gb106)); have n7_ := Aside0.mk ((by rw [hg]; exact Nat.ne_of_gt (blk_lt (g := gb101) (o := .cells #[.int .i64 a0_0, .int .i64 a0_1, .slice (some ad105) l0_2.length c0_2] 55 (0, 0)) (by (with_reducible repeat (first | refine blk_drewN ?_ _ | refine blk_drew ?_ | refine blk_alloc ?_ _)); exact BK101.out)) : gb106 ≠ gb101)); clear HO_3; clear BK101; clear HB; have HO_3 := n0_; have BK101 := n1_; have HB := n2_; have BK106 := n3_; have GW106 := n4_; have GE106 := n5_; have NB101_106 := n6_; have NB106_101 := n7_; clear n0_ n1_ n2_ n3_ n4_ n5_ n6_ n7_; clear hb hbox hg; have hnb16 := NB106_101.out; have hnc16 := NB101_106.out; have hcz17_0 : w15.cell? ⟨gb106, 0, none⟩ = some (.int .i64 0) := (blk_cell BK106.out 0).trans rfl; have hcz17_1 : w15.cell? ⟨gb106, 1, none⟩ = some (.int .i64 0) := (blk_cell BK106.out 1).trans rfl; have hcz17_2 : w15.cell? ⟨gb106, 2, none⟩ = some (.slice none 0 0) := (blk_cell BK106.out 2).trans rfl; have hfz17_0 := blk_frozen BK106.out 0; have hfz17_1 := blk_frozen BK106.out 1; have hfz17_2 := blk_frozen BK106.out 2) | ((with_reducible refine gate_callee (f := 37) rfl ?_); refine goesL_ (some 21) rfl rfl Tryd.func37 (by kernel_rfl) rfl #[.agg #[.int .i64 ((rd_T55 l0_2 x15_1).f0), .int .i64 ((rd_T55 l0_2 x15_1).f1), .slice A105_2 ((rd_T55 l0_2 x15_1).f2).length c105_2]] rfl (by (try simp only [List.map_toArray, List.map_cons, List.map_nil]); first | done | rfl | (simp only [List.length_drop, List.length_take]; rfl)) ?_; (with_reducible refine (ih k1 (by have := HK1.out; omega) ((rd_T55 l0_2 x15_1).f0) ((rd_T55 l0_2 x15_1).f1) _ _ ((rd_T55 l0_2 x15_1).f2) t107 _ ?side1 ?side2 A13.out).mono ?_); (case side1 => exact Kd.C_below HR105_2.out (by repeat (first | (with_reducible first | exact HB.out | apply below_alloc | apply pw_below_drewN | apply below_drew1 | refine below_set ?_ GE101.out | refine below_set ?_ GE106.out) | exact HB.out))); (case side2 => exact HC105_2.out); rintro e w18 ⟨v108, rfl, ho0, hb⟩; refine ⟨_, rfl, ?_⟩; have n0_ := Aside0.mk (Kd.R_elder' (by (with_reducible repeat (first | apply Kd.R_alloc | apply Kd.R_drewN | apply Kd.R_drew)); exact (Kd.R_mono (Kd.R_far (p := ⟨gb106, 2, none⟩) (Kd.R_far (p := ⟨gb106, 1, none⟩) (Kd.R_far (p := ⟨gb106, 0, none⟩) (Kd.R_types HO_3.out BK106.out (by decide)) (fun _ hk => hk.2) (.int .i64 ((rd_T55 l0_2 x15_1).f0))) (fun _ hk => hk.2) (.int .i64 ((rd_T55 l0_2 x15_1).f1))) (fun _ hk => hk.2) (.slice A105_2 ((rd_T55 l0_2 x15_1).f2).length c105_2)) (fun _ h_ => h_.1))) (Kd.R_base ho0) hb); have n1_ := Aside0.mk (Kd.R_lower (Kd.R_new' ho0 (Kd.R_lt (by (with_reducible repeat (first | apply Kd.R_alloc | apply Kd.R_drewN | apply Kd.R_drew)); exact (Kd.R_mono (Kd.R_far (p := ⟨gb106, 2, none⟩) (Kd.R_far (p := ⟨gb106, 1, none⟩) (Kd.R_far (p := ⟨gb106, 0, none⟩) (Kd.R_types HO_3.out BK106.out (by decide)) (fun _ hk => hk.2) (.int .i64 ((rd_T55 l0_2 x15_1).f0))) (fun _ hk => hk.2) (.int .i64 ((rd_T55 l0_2 x15_1).f1))) (fun _ hk => hk.2) (.slice A105_2 ((rd_T55 l0_2 x15_1).f2).length c105_2)) (fun _ h_ => h_.1))))) (below_size (by repeat (first | (with_reducible first | exact HB.out | apply below_alloc | apply pw_below_drewN | apply below_drew1 | refine below_set ?_ GE101.out | refine below_set ?_ GE106.out) | exact HB.out)))); have n2_ := Aside0.mk (blk_below (g := gb101) (o := .cells #[.int .i64 a0_0, .int .i64 a0_1, .slice (some ad105) l0_2.length c0_2] 55 (0, 0)) (by (with_reducible repeat (first | refine blk_drewN ?_ _ | refine blk_drew ?_ | refine blk_alloc ?_ _)); refine blk_far ?_ NB101_106.out _; (with_reducible repeat (first | refine blk_drewN ?_ _ | refine blk_drew ?_ | refine blk_alloc ?_ _)); refine blk_far ?_ NB101_106.out _; (with_reducible repeat (first | refine blk_drewN ?_ _ | refine blk_drew ?_ | refine blk_alloc ?_ _)); refine blk_far ?_ NB101_106.out _; (with_reducible repeat (first | refine blk_drewN ?_ _ | refine blk_drew ?_ | refine blk_alloc ?_ _)); exact BK101.out) hb); have n3_ := Aside0.mk (blk_below (g := gb106) (o := .cells #[.int .i64 ((rd_T55 l0_2 x15_1).f0), .int .i64 ((rd_T55 l0_2 x15_1).f1), .slice A105_2 ((rd_T55 l0_2 x15_1).f2).length c105_2] 55 (0, 0)) (by (with_reducible repeat (first | refine blk_drewN ?_ _ | refine blk_drew ?_ | refine blk_alloc ?_ _)); refine blk_put (cs := #[.int .i64 ((rd_T55 l0_2 x15_1).f0), .int .i64 ((rd_T55 l0_2 x15_1).f1), .slice none 0 0]) ?_ 2 _ rfl; (with_reducible repeat (first | refine blk_drewN ?_ _ | refine blk_drew ?_ | refine blk_alloc ?_ _)); refine blk_put (cs := #[.int .i64 ((rd_T55 l0_2 x15_1).f0), .int .i64 0, .slice none 0 0]) ?_ 1 _ rfl; (with_reducible repeat (first | refine blk_drewN ?_ _ | refine blk_drew ?_ | refine blk_alloc ?_ _)); refine blk_put (cs := #[.int .i64 0, .int .i64 0, .slice none 0 0]) ?_ 0 _ rfl; (with_reducible repeat (first | refine blk_drewN ?_ _ | refine blk_drew ?_ | refine blk_alloc ?_ _)); exact BK106.out) hb); have n4_ := Aside0.mk (below_step (by repeat (first | (with_reducible first | exact HB.out | apply below_alloc | apply pw_below_drewN | apply below_drew1 | refine below_set ?_ GE101.out | refine below_set ?_ GE106.out) | exact HB.out)) hb); clear HO_3; clear BK101; clear BK106; clear HB; have HO_3 := n0_; have HO109 := n1_; have BK101 := n2_; have BK106 := n3_; have HB := n4_; clear n0_ n1_ n2_ n3_ n4_; (try clear hb); (try clear hb2); (try clear hk); (try clear hi); (try clear ho0); obtain ⟨Ao20, co20, eo20⟩ := Kd.R_slice HO109.out; subst eo20) | ((with_reducible refine gate_builtin (b := .append) (xs := #[.tmp 19, .tmp 21]) rfl ?_); at_builtin; refine Kd.R_append_rows (Kd.int .i64) (w0 := w) w.heap.size rfl (.tmp 19) (.tmp 21) 71 3 (.int .i64 0) 8 rfl Tryd.underlying71 info3 rfl (by decide) (by omega) u3 x3_1 t107 _ _ _ (fun k_ => some k_ ≠ (.slice Ao20 t107.length co20 : Value).ownBlock) (fun _ => False) rfl rfl ?aO ?aR (fun _ _ h => h) (fun _ h => h.elim) ?aF ?aB ?aS ?aL ?_; (case aR => repeat (first | exact (Kd.R_reads' HO109.out).2.2 | (with_reducible refine Kd.C_alloc ?_ _) | (with_reducible refine Kd.C_drewN ?_ _) | (with_reducible refine Kd.C_drew ?_))); (case aB => exact (by repeat (first | (with_reducible first | exact HB.out | apply below_alloc | apply pw_below_drewN | apply below_drew1 | refine below_set ?_ GE101.out | refine below_set ?_ GE106.out) | exact HB.out))); (case aF => exact (fun k_ hk => Kd.fresh' (Kd.R_lt (by (with_reducible repeat (first | apply Kd.R_alloc | apply Kd.R_drewN | apply Kd.R_drew)); exact HO109.out)) k_ hk)); (case aO => exact (by (with_reducible repeat (first | apply Kd.R_alloc | apply Kd.R_drewN | apply Kd.R_drew)); exact Kd.R_mono HO_3.out (fun _ hk => hk.2))); (case aS => exact (below_size (by repeat (first | (with_reducible first | exact HB.out | apply below_alloc | apply pw_below_drewN | apply below_drew1 | refine below_set ?_ GE101.out | refine below_set ?_ GE106.out) | exact HB.out)))); (case aL => have := LMc14.out; omega); intro v111 w19 ho hb hg hat; rw [← Ny110.out] at ho; have n0_ := Aside0.mk (blk_grown (g := gb101) (o := .cells #[.int .i64 a0_0, .int .i64 a0_1, .slice (some ad105) l0_2.length c0_2] 55 (0, 0)) (by (with_reducible repeat (first | refine blk_drewN ?_ _ | refine blk_drew ?_ | refine blk_alloc ?_ _)); exact BK101.out) hg (Kd.R_ne HO_3.out BK101.out (by decide))); have n1_ := Aside0.mk (blk_grown (g := gb106) (o := .cells #[.int .i64 ((rd_T55 l0_2 x15_1).f0), .int .i64 ((rd_T55 l0_2 x15_1).f1), .slice A105_2 ((rd_T55 l0_2 x15_1).f2).length c105_2] 55 (0, 0)) (by (with_reducible repeat (first | refine blk_drewN ?_ _ | refine blk_drew ?_ | refine blk_alloc ?_ _)); exact BK106.out) hg (Kd.R_ne HO_3.out BK106.out (by decide))); have n2_ := Aside0.mk (Kd.R_after (ok := (fun _ => True)) (by (with_reducible repeat (first | apply Kd.R_alloc | apply Kd.R_drewN | apply Kd.R_drew)); exact HO109.out) hg hat); have n3_ := Aside0.mk (hb); have n4_ := Aside0.mk (ho); clear BK101; clear BK106; clear HO109; clear HB; clear HO_3; have BK101 := n0_; have BK106 := n1_; have HO109 := n2_; have HB := n3_; have HO112 := n4_; clear n0_ n1_ n2_ n3_ n4_; clear ho hb hg hat))
        go_roundg k1
        case measure => have := HK1.out; omega
        case rel => exact ⟨(y110), (wrap64 (x15_1 + 1)), (by first | rfl | (simp; done) | (simp [*]; done)), H', ⟨by have := HK1.out; omega⟩, ⟨by (with_reducible repeat (first | apply Kd.R_alloc | apply Kd.R_drewN | apply Kd.R_drew)); exact Kd.R_mono HO112.out (fun _ hk => trivial)⟩, ⟨by (with_reducible repeat (first | refine blk_drewN ?_ _ | refine blk_drew ?_ | refine blk_alloc ?_ _)); exact BK101.out⟩, ⟨by repeat (first | (with_reducible first | exact HB.out | apply below_alloc | apply pw_below_drewN | apply below_drew1 | refine below_set ?_ GE101.out | refine below_set ?_ GE106.out) | exact HB.out)⟩⟩
       ·rw [if_neg c14] at H
        exact absurd H (by simp)
      ·rw [if_neg c12] at H
       exact absurd H (by simp)
     ·rw [if_neg c11] at H
      exact absurd H (by simp)
    ·rw [if_neg c10] at H
     have c10b0 : decide (x15_1 < (l0_2.length : Int)) = false := decide_eq_false c10
     clear c10
     obtain rfl := Option.some.inj H
     go_wp2
     go_ret
     exact ⟨_, by first | rfl | (simp [errW_none, errW_some] <;> rfl) | (simp [*, errW_none, errW_some] <;> rfl), by (with_reducible repeat (first | apply Kd.R_alloc | apply Kd.R_drewN | apply Kd.R_drew)); exact HO_3.out, by repeat (first | (with_reducible first | exact HB.out | apply below_alloc | apply pw_below_drewN | apply below_drew1 | refine below_set ?_ GE101.out) | exact HB.out)⟩
end Go.Proofs.YtmdjmbdeeodehaaDoor.G
end
section
set_option linter.unusedVariables false
set_option linter.unusedSimpArgs false
set_option linter.unusedSectionVars false
namespace Go.Proofs.YtmdjmbdeeodehaaDoor.G
open Go Go.Proofs Go.RowKit Go.Proofs.YtmdjmbdeeodehaaDoorW.PrintWords Go.Proofs.YtmdjmbdeeodehaaDoor.Pure
theorem check_zero2 {l0 l1 : List ByteArray} {a2 : Int} {l3 : List GRule} (h : checkC nmB mkB l0 l1 a2 l3 = 0) :
    1 ≤ l0.length ∧ l0.length ≤ 2048 ∧ l1.length ≤ 2048 ∧ l3.length ≤ 8192 ∧ 0 ≤ a2 ∧ a2 < l0.length ∧ (∀ r ∈ l3, 0 ≤ r.f0 ∧ r.f0 < l0.length ∧ r.f1.length ≤ 64 ∧ ∀ s ∈ r.f1, hasB l0.length l1.length s = true) ∧ l3.Nodup := by
  unfold checkC at h
  split at h
  · cases h
  rename_i h1
  split at h
  · cases h
  split at h
  · cases h
  split at h
  · cases h
  rename_i h4
  have hr : (∀ r ∈ l3, ruleC l0.length l1.length r = 0) ∧ l3.Nodup := by
    unfold rulesC at h
    split at h
    · rename_i r hf
      have := List.find?_some hf
      simp [h] at this
    · rename_i hf
      refine ⟨fun r hr => ?_, ?_⟩
      · have := List.find?_eq_none.1 hf r hr
        simpa using this
      · split at h
        · assumption
        · cases h
  refine ⟨by omega, by omega, by omega, by omega, by omega, by omega, fun r hm => ?_, hr.2⟩
  have h5 := hr.1 r hm
  unfold ruleC at h5
  split at h5
  · cases h5
  rename_i h6
  split at h5
  · cases h5
  rename_i h7
  have h8 : r.f1.all (hasB l0.length l1.length) = true := by
    by_cases h9 : r.f1.all (hasB l0.length l1.length) = true
    · exact h9
    · exact absurd (.inr (.inr h9)) h6
  exact ⟨by omega, by omega, by omega, fun s hs => List.all_eq_true.1 h8 s hs⟩
def okT (l3 : List GRule) (t : TTree) : Prop := (t.f0 < 0 ∧ symOk t.f1 = true) ∨ fitT l3 t = 0
theorem fitT_node {l3 : List GRule} {t : TTree} (h : fitT l3 t = 0) : 0 ≤ t.f0 ∧ t.f0 < l3.length ∧ t.f1 = 0 ∧ (ruleAt l3 t.f0).f1.length = t.f2.length ∧ fitTs l3 (ruleAt l3 t.f0).f1 t.f2 = 0 := by
  have h1 := fitT_in h
  obtain ⟨r, s, ks⟩ := t
  simp only [fitT] at h
  split at h
  · cases h
  · split at h
    · cases h
    · rename_i h2
      exact ⟨h1.1, h1.2.1, h1.2.2, by simp only at h2 ⊢; omega, h⟩
theorem rule_mem (l3 : List GRule) (r : Int) (h0 : 0 ≤ r) (h1 : r < l3.length) : ruleAt l3 r ∈ l3 := by
  obtain ⟨n, rfl⟩ : ∃ n : Nat, r = n := ⟨r.toNat, by omega⟩
  have hn : n < l3.length := by omega
  rw [ruleAt, rd_T32, Int.toNat_natCast, List.getD_eq_getElem?_getD, List.getElem?_eq_getElem hn]
  exact List.getElem_mem hn
end Go.Proofs.YtmdjmbdeeodehaaDoor.G
end
section
set_option linter.unusedVariables false
set_option linter.unusedSimpArgs false
namespace Go.Proofs.YtmdjmbdeeodehaaDoor.AppC
open Go Go.Proofs Go.RowKit Go.Proofs.YtmdjmbdeeodehaaDoorW.PrintWords
section
variable {P : Program} {α : Type}
theorem run_full (d : Kd α) {W : World} (t ty e : TypeId) (z : Value) (bytes : Nat) (ht : P.underlying t = some (.slice e)) (hinfo : (P.info? e).map (fun i => (i.zero, i.size, i.bytes)) = some (some z, d.sz, bytes)) (hz : z.cells.size = d.sz) (hb0 : 0 < bytes)
    (B : Option Addr) (n : Nat) (l : List α) (A : Option Addr) (m c : Nat) (ys : List α) (HB : Kd.C d W B n l) (HA : Kd.C d W A m ys) (hl : (n + m) * bytes ≤ 140737488355328) :
    ∃ A1 c1 w1, (Builtin.append_ #[t, t] ty #[.slice B n n, .slice A m c]).run P W = .ok (.slice A1 (n + m) c1) w1 ∧ n + m ≤ c1 ∧ Kd.C d w1 A1 (n + m) (l ++ ys) ∧ Below W.heap.size W w1 ∧ (0 < m → A1 = some ⟨W.heap.size, 0, none⟩ ∧ W.heap.size < w1.heap.size) := by
  obtain ⟨i0, hi, hzz⟩ := Option.map_eq_some_iff.1 hinfo
  simp only [Prod.mk.injEq] at hzz
  obtain ⟨hz0, hz1, hz2⟩ := hzz
  have hlen : n + m ≤ 140737488355328 := Nat.le_trans (Nat.le_mul_of_pos_right _ hb0) hl
  rcases Nat.eq_zero_or_pos m with h0 | h0
  · subst h0
    obtain rfl : ys = [] := List.eq_nil_of_length_eq_zero HA.1
    refine ⟨B, n, W, ?_, Nat.le_refl _, by rw [List.append_nil]; exact HB, Below.refl _ _, fun h => absurd h (by omega)⟩
    cases A with
    | none => cases B <;> simp [Builtin.append_, run_underlying ht, sizeOf, typeInfo, hi, Builtin.lenOf, Builtin.firstCells, storeCells]
    | some ad =>
      have hf := run_firstCells_some (P := P) W i0.size 0 ad 0 c [] (by simp) (by simp)
      cases B <;> simp [Builtin.append_, run_underlying ht, sizeOf, typeInfo, hi, Builtin.lenOf, hf, storeCells]
  obtain ⟨ad, rfl, _⟩ := HA.2.2 h0
  obtain ⟨news, hnr, hnc⟩ := ReadsRow.inner_ HA
  have hnl : news.length = m * d.sz := by rw [hnr.1, HA.1]
  have fin : ∀ (olds : List Value) (cp : Nat), Reps (d.K W) d.sz l olds → n + m ≤ cp → ∀ cur : Array Value, (∀ (j : Nat) (u : Value), (olds ++ news)[j]? = some u → cur[j]? = some u) → Kd.C d (W.drew.alloc (.cells cur e)) (some ⟨W.heap.size, 0, none⟩) (n + m) (l ++ ys) := by
    intro olds cp hor hcp cur hcur
    have hb : Below W.heap.size W (W.drew.alloc (.cells cur e)) := (below_drew (Below.refl _ _)).alloc (Nat.le_refl _) _
    have hrep := Kd.reps_append hor hnr
    refine ⟨by rw [List.length_append, HB.1, HA.1], by omega, fun _ => ⟨_, rfl, fun j p hj => ?_⟩⟩
    have hjl : j < (l ++ ys).length := (List.getElem?_eq_some_iff.1 hj).1
    have hK := hrep.2 j p hj
    refine ⟨_, d.K_len hK, d.K_below hb hK, fun i u hu => ?_⟩
    rw [List.getElem?_take] at hu
    split at hu
    · rw [List.getElem?_drop] at hu
      rw [add_plain]
      have hk := heap_alloc_new W.drew (.cells cur e)
      have h2 : (W.drew.alloc (.cells cur e)).heap[W.heap.size]? = some (.cells cur e (0, 0)) := hk
      rw [blk_cell h2]
      exact hcur _ _ hu
    · cases hu
  have hgl : ∀ (olds : List Value) (x : Array Value), ∀ (j : Nat) (u : Value), (olds ++ news)[j]? = some u → (olds.toArray ++ news.toArray ++ x)[j]? = some u := by
    intro olds x j u hu
    have hj := (List.getElem?_eq_some_iff.1 hu).1
    rw [Array.getElem?_append_left (by simpa using hj)]
    simpa using hu
  rcases B with _ | b
  · have hn0 : n = 0 := by
      rcases Nat.eq_zero_or_pos n with h | h
      · exact h
      · obtain ⟨ad, h2, _⟩ := HB.2.2 h; cases h2
    subst hn0
    obtain rfl : l = [] := List.eq_nil_of_length_eq_zero HB.1
    have hr := run_append_nil (P := P) W t ty e i0 z ht hi hz0 ad m c news (by rw [hz1]; exact hnl) hnc h0 (by omega) (by rw [hz2]; rw [Nat.zero_add] at hl; omega)
    refine ⟨_, grownCap W m 0 e, _, by rw [Nat.zero_add]; exact hr, by rw [Nat.zero_add]; exact grownCap_ge W m 0 e, fin [] _ (Reps.none _ _) (by rw [Nat.zero_add]; exact grownCap_ge W m 0 e) _ (fun j u hu => ?_), (below_drew (Below.refl _ _)).alloc (Nat.le_refl _) _, fun _ => ⟨rfl, by simp⟩⟩
    have := hgl [] (Builtin.zeroCells z.cells (grownCap W m 0 e - m)) j u hu
    simpa using this
  · obtain ⟨olds, hor, hoc⟩ := ReadsRow.inner_ HB
    have hol : olds.length = n * d.sz := by rw [hor.1, HB.1]
    have hr := run_append_grow (P := P) W t ty e i0 z ht hi hz0 b n n olds (by rw [hz1]; exact hol) hoc ad m c news (by rw [hz1]; exact hnl) hnc (by omega) (by omega) (by rw [hz2]; exact growslice_fits (by omega) hl)
    exact ⟨_, _, _, hr, grownCap_ge W (n + m) n e, fin olds _ hor (grownCap_ge W (n + m) n e) _ (hgl olds _), (below_drew (Below.refl _ _)).alloc (Nat.le_refl _) _, fun _ => ⟨rfl, by simp⟩⟩
variable {ops : Array Oper} {o : Oper} {a : Act} {K : Act → World → Prop} {Q : Exit → Act → World → Prop}
theorem step_full (d : Kd α) {W : World} (hw : Region.wanted o (yielded ops a.tmps) = true) (s x : Operand) (t e : TypeId) (z : Value) (bytes : Nat)
    (ho : o.op = .call { callee := .builtin .append, args := #[s, x], argTypes := #[t, t] })
    (ht : P.underlying t = some (.slice e)) (hinfo : (P.info? e).map (fun i => (i.zero, i.size, i.bytes)) = some (some z, d.sz, bytes)) (hz : z.cells.size = d.sz) (hb0 : 0 < bytes)
    (B : Option Addr) (n : Nat) (l : List α) (A : Option Addr) (m c : Nat) (ys : List α) (hs : a.eval s = .slice B n n) (hx : a.eval x = .slice A m c) (HB : Kd.C d W B n l) (HA : Kd.C d W A m ys) (hl : (n + m) * bytes ≤ 140737488355328)
    (h : ∀ A1 c1 w1, n + m ≤ c1 → Kd.C d w1 A1 (n + m) (l ++ ys) → Below W.heap.size W w1 → (0 < m → A1 = some ⟨W.heap.size, 0, none⟩ ∧ W.heap.size < w1.heap.size) → K (a.put o.dst (.slice A1 (n + m) c1)) w1) :
    if Region.wanted o (yielded ops a.tmps) = true then Oper.wp P o a W K Q else K (a.put o.dst undef) W := by
  obtain ⟨A1, c1, w1, hr, h1, h2, h3, h4⟩ := run_full (P := P) d t o.type e z bytes ht hinfo hz hb0 B n l A m c ys HB HA hl
  rw [if_pos hw]
  unfold Oper.wp execOp
  simp only [ho, resolve, invoke, builtin, Sem.run_bind, Sem.run_pure, Result.andThen_ok, List.map_toArray, List.map_cons, List.map_nil, hs, hx, hr]
  exact h A1 c1 w1 h1 h2 h3 h4
theorem row_full (d : Kd α) {rest : List Oper} {W : World} (hgd : o.guard = none) (s x : Operand) (t e : TypeId) (z : Value) (bytes : Nat)
    (ho : o.op = .call { callee := .builtin .append, args := #[s, x], argTypes := #[t, t] })
    (ht : P.underlying t = some (.slice e)) (hinfo : (P.info? e).map (fun i => (i.zero, i.size, i.bytes)) = some (some z, d.sz, bytes)) (hz : z.cells.size = d.sz) (hb0 : 0 < bytes)
    (B : Option Addr) (n : Nat) (l : List α) (A : Option Addr) (m c : Nat) (ys : List α) (hs : a.eval s = .slice B n n) (hx : a.eval x = .slice A m c) (HB : Kd.C d W B n l) (HA : Kd.C d W A m ys) (hl : (n + m) * bytes ≤ 140737488355328)
    (h : ∀ A1 c1 w1, n + m ≤ c1 → Kd.C d w1 A1 (n + m) (l ++ ys) → Below W.heap.size W w1 → (0 < m → A1 = some ⟨W.heap.size, 0, none⟩ ∧ W.heap.size < w1.heap.size) → wpList P ops Q rest (a.put o.dst (.slice A1 (n + m) c1)) w1) : wpList P ops Q (o :: rest) a W := by
  obtain ⟨A1, c1, w1, hr, h1, h2, h3, h4⟩ := run_full (P := P) d t o.type e z bytes ht hinfo hz hb0 B n l A m c ys HB HA hl
  refine wpList_plain hgd fun K hK => ?_
  unfold Oper.wp execOp
  simp only [ho, resolve, invoke, builtin, Sem.run_bind, Sem.run_pure, Result.andThen_ok, List.map_toArray, List.map_cons, List.map_nil, hs, hx, hr]
  exact hK _ _ (h A1 c1 w1 h1 h2 h3 h4)
theorem one_C (d : Kd α) (W : World) (e : TypeId) (x : α) (cs : List Value) (hk : d.K W x cs) : Kd.C d (W.alloc (.cells cs.toArray e)) (some ⟨W.heap.size, 0, none⟩) 1 [x] := by
  have hb : Below W.heap.size W (W.alloc (.cells cs.toArray e)) := (Below.refl _ _).alloc (Nat.le_refl _) _
  refine ⟨rfl, by omega, fun _ => ⟨_, rfl, fun j p hj => ?_⟩⟩
  have hj0 : j = 0 := by have := (List.getElem?_eq_some_iff.1 hj).1; simpa using this
  subst hj0
  have : x = p := by simpa using hj
  subst this
  refine ⟨cs, d.K_len hk, d.K_below hb hk, fun i u hu => ?_⟩
  rw [Nat.zero_mul, Nat.zero_add, add_plain, blk_cell (heap_alloc_new W _)]
  simpa using hu
theorem lit_C (d : Kd α) (W : World) (e : TypeId) (l : List α) (cs : List Value) (hk : Reps (d.K W) d.sz l cs) (hm : l.length ≤ 9223372036854775807) : Kd.C d (W.alloc (.cells cs.toArray e)) (some ⟨W.heap.size, 0, none⟩) l.length l := by
  have hb : Below W.heap.size W (W.alloc (.cells cs.toArray e)) := (Below.refl _ _).alloc (Nat.le_refl _) _
  refine ⟨rfl, hm, fun _ => ⟨_, rfl, fun j p hj => ?_⟩⟩
  have hK := hk.2 j p hj
  refine ⟨_, d.K_len hK, d.K_below hb hK, fun i u hu => ?_⟩
  rw [List.getElem?_take] at hu
  split at hu
  · rw [List.getElem?_drop] at hu
    rw [add_plain, blk_cell (heap_alloc_new W _)]
    simpa using hu
  · cases hu
def elder (d : Kd α) (ws : World) : Kd α where
  sz := d.sz
  E := []
  K := fun _ x cs => d.K ws x cs
  M := fun _ _ _ x cs => d.K ws x cs
  K_len := fun h => d.K_len h
  K_one := fun h => d.K_one h
  K_below := fun _ h => h
  K_of_M := fun h => h
  M_mono := fun _ h => h
  M_bound := fun h => h
  M_move := fun _ h => h
  M_lower := fun _ h => h
theorem C_elder {d : Kd α} {ws W : World} {A : Option Addr} {n : Nat} {l : List α} (h : Kd.C d ws A n l) (hb : Below ws.heap.size ws W) : Kd.C (elder d ws) W A n l := h.imp_ hb (fun _ _ hp => hp)
theorem elder_C {d : Kd α} {ws W : World} {A : Option Addr} {n : Nat} {l : List α} (h : Kd.C (elder d ws) W A n l) (hb : Below ws.heap.size ws W) : Kd.C d W A n l := ReadsRow.imp_ h (Below.refl _ _) (fun _ _ hp => d.K_below hb hp)
theorem elder_far {d : Kd α} {ws W : World} {A : Option Addr} {n : Nat} {l : List α} {b : Nat} (h : Kd.C (elder d ws) W A n l) (hne : ∀ ad, A = some ad → n ≠ 0 → ad.block ≠ b) (j : Nat) (v : Value) : Kd.C (elder d ws) (W.setCell ⟨b, j, none⟩ v) A n l :=
  ⟨h.1, h.2.1, fun hn => by
    obtain ⟨ad, e, hc⟩ := h.2.2 hn
    refine ⟨ad, e, fun j p hj => ?_⟩
    obtain ⟨c, hs, hr, hcell⟩ := hc j p hj
    refine ⟨c, hs, hr, fun i u hu => ?_⟩
    have hne2 := hne ad e (by omega)
    refine (World.cell?_setCell_other W _ _ v (fun he => hne2 ?_)).trans (hcell i u hu)
    have h2 := congrArg Addr.block he
    have h3 : ∀ m, (ad.add m).block = ad.block := fun m => by unfold Addr.add; split <;> rfl
    rw [h3] at h2
    exact h2.symm⟩
theorem C_drop {d : Kd α} {W : World} {A : Option Addr} {n c : Nat} {l : List α} (h : Kd.C d W A n l) (k : Nat) (hk : k ≤ n) (hc : n ≤ c) : Kd.C d W (if c = k then A else A.map (·.add (k * d.sz))) (n - k) (l.drop k) := by
  refine ⟨by rw [List.length_drop, h.1], by have := h.2.1; omega, fun hp => ?_⟩
  obtain ⟨ad, rfl, hcell⟩ := h.2.2 (by omega)
  rw [if_neg (by omega)]
  refine ⟨ad.add (k * d.sz), rfl, fun j p hj => ?_⟩
  rw [List.getElem?_drop] at hj
  obtain ⟨cs, hs, hr, hcc⟩ := hcell (k + j) p hj
  refine ⟨cs, hs, hr, fun i u hu => ?_⟩
  have h1 := hcc i u hu
  have ha : ∀ x y : Nat, (ad.add x).add y = ad.add (x + y) := fun x y => by
    unfold Addr.add
    by_cases h1 : x = 0 <;> by_cases h2 : y = 0 <;> simp [h1, h2, Nat.add_assoc]
  rw [ha, show k * d.sz + (j * d.sz + i) = (k + j) * d.sz + i by rw [Nat.add_mul]; omega]
  exact h1
theorem C_take {d : Kd α} {W : World} {A : Option Addr} {n : Nat} {l : List α} (h : Kd.C d W A n l) (k : Nat) (hk : k ≤ n) : Kd.C d W A k (l.take k) := by
  refine ⟨by rw [List.length_take, h.1]; omega, by have := h.2.1; omega, fun hp => ?_⟩
  obtain ⟨ad, e, hc⟩ := h.2.2 (by omega)
  refine ⟨ad, e, fun j p hj => ?_⟩
  rw [List.getElem?_take] at hj
  split at hj
  · exact hc j p hj
  · cases hj
theorem C_empty (d : Kd α) (W : World) (A : Option Addr) : Kd.C d W A 0 [] := ⟨rfl, by omega, fun h => absurd h (by omega)⟩
end
end Go.Proofs.YtmdjmbdeeodehaaDoor.AppC
end
section
set_option linter.unusedVariables false
set_option linter.unusedSimpArgs false
namespace Go.Proofs.YtmdjmbdeeodehaaDoor.G
open Go Go.Proofs Go.Proofs.YtmdjmbdeeodehaaDoor Go.RowKit Go.Proofs.YtmdjmbdeeodehaaDoorW.PrintWords Go.Proofs.YtmdjmbdeeodehaaDoorW.PrintLast Go.Proofs.YtmdjmbdeeodehaaDoorW.PrintMore Go.Proofs.YtmdjmbdeeodehaaDoor.Pure
attribute [local go_sem] max2_int min2_int max_two min_two
abbrev SPart := S157
def bkN (n : Nat) (p : SPart) : Nat := if 0 < p.f2 then (if (n : Int) < p.f2 then n else p.f2.toNat) else 0
theorem bkN_le (n : Nat) (p : SPart) : bkN n p ≤ n := by unfold bkN; split <;> (try split) <;> omega
def bStep (st : List TTree) (p : SPart) : List TTree := st.take (st.length - bkN st.length p) ++ [⟨p.f0, p.f1, st.drop (st.length - bkN st.length p)⟩]
def bAll : List SPart → List TTree → List TTree
  | [], st => st
  | p :: l, st => bAll l (bStep st p)
theorem infoT : (Tryd.prog.info? 55).map (fun i => (i.zero, i.size, i.bytes)) = some (some (.agg #[.int .i64 0, .int .i64 0, .slice none 0 0]), 3, 40) := by kernel_rfl
theorem infoR : (Tryd.prog.info? 58).map (fun i => (i.zero, i.size, i.bytes)) = some (some (.agg #[.int .i64 0, .int .i64 0, .slice none 0 0]), 3, 40) := by kernel_rfl
theorem stepP {pb : Nat} {o : Obj} {ws W W' : World} (h : W.heap[pb]? = some o ∧ Below ws.heap.size ws W) (hb : Below W.heap.size W W') : W'.heap[pb]? = some o ∧ Below ws.heap.size ws W' := ⟨blk_below h.1 hb, h.2.trans (hb.mono h.2.size)⟩
theorem fresh_of {W w1 : World} {A1 : Option Addr} {k c1 : Nat} (hnew : 0 < k → A1 = some ⟨W.heap.size, 0, none⟩ ∧ W.heap.size < w1.heap.size) {q : Nat} (hq : RegT.blS (.slice A1 k c1) = some q) : W.heap.size ≤ q ∧ q < w1.heap.size := by
  cases A1 with
  | none => cases hq
  | some a =>
    have hq' : (if k = 0 then none else some a.block) = some q := hq
    by_cases h0 : k = 0
    · rw [if_pos h0] at hq'; cases hq'
    · rw [if_neg h0] at hq'
      obtain ⟨h1, h2⟩ := hnew (by omega)
      injection h1 with h1
      injection hq' with hq'
      rw [h1] at hq'
      have hq2 : W.heap.size = q := hq'
      omega
theorem inh_of {f : Tmp → Value} {i d : Nat} {A : Option Addr} {k c : Nat} {x y : Value} (e : f d = .slice A k c) : ∀ q, RegT.blL 2 (.agg #[x, y, .slice A k c]) = some q → RegT.blS (f d) = some q := fun q h => by rw [e]; exact h
theorem ap_of {A : Option Addr} {k c b : Nat} {x y : Value} (h : ∀ q, RegT.blL 2 (.agg #[x, y, .slice A k c]) = some q → RegT.blP (.pointer (some ⟨b, 0, none⟩)) ≠ some q) : ∀ ad, A = some ad → k ≠ 0 → ad.block ≠ b := by
  intro ad e hk he
  subst e
  refine h ad.block ?_ (by rw [he]; rfl)
  show (if k = 0 then none else some ad.block) = some ad.block
  rw [if_neg hk]
def okB (w : World) : Nat → Prop := fun k => w.heap.size + 1 < k
def farA (w : World) (A : Option Addr) (n : Nat) : Prop := ∀ ad, A = some ad → n ≠ 0 → okB w ad.block
def feet {α : Type} (d : Kd α) (ok : Nat → Prop) : Kd α where
  sz := d.sz
  E := []
  K := fun W x cs => Kd.FK d W ok x cs
  M := fun _ _ _ _ _ => False
  K_len := fun h => d.K_len (Kd.FK_now h)
  K_one := fun h => d.K_one (Kd.FK_now h)
  K_below := fun hb h => Kd.FK_below h hb
  K_of_M := fun h => h.elim
  M_mono := fun _ h => h
  M_bound := fun h => h
  M_move := fun _ h => h
  M_lower := fun _ h => h
theorem F_of {α : Type} {d : Kd α} {ok : Nat → Prop} {W : World} {A : Option Addr} {n : Nat} {l : List α} (h : Kd.C (feet d ok) W A n l) (hA : ∀ ad, A = some ad → n ≠ 0 → ok ad.block) : Kd.F d W ok A n l := fun W' hW =>
  ⟨h.1, h.2.1, fun hn => by
    obtain ⟨ad, e, hc⟩ := h.2.2 hn
    refine ⟨ad, e, fun j p hj => ?_⟩
    obtain ⟨c, hs, hr, hcell⟩ := hc j p hj
    refine ⟨c, hs, hr W' hW, fun i u hu => ?_⟩
    have h1 := hcell i u hu
    have h2 := World.block_lt_of_cell? W _ h1
    have hb : ∀ m, (ad.add m).block = ad.block := fun m => by unfold Addr.add; split <;> rfl
    rw [hb] at h2
    have h3 := hW _ (hA ad e (by omega)) h2
    rw [← h1]
    show W'.cell? (ad.add (j * d.sz + i)) = W.cell? (ad.add (j * d.sz + i))
    simp [World.cell?, hb, h3]⟩
theorem far_new {w W w1 : World} {A1 : Option Addr} {m n : Nat} (hnew : 0 < m → A1 = some ⟨W.heap.size, 0, none⟩ ∧ W.heap.size < w1.heap.size) (hm : n ≠ 0 → 0 < m) (h : okB w W.heap.size) : farA w A1 n := fun ad e hn => by
  obtain ⟨h1, _⟩ := hnew (hm hn)
  rw [h1] at e
  injection e with e
  rw [← e]
  exact h
theorem results_two {P : Program} {fn : Func} {p q : Tmp} {ty ty2 : TypeId} (h : fn.results = #[.cell p ty, .cell q ty2]) (tmps : Array Value) (w : World) (g g2 : Nat) (t t2 : TypeId) (cs cs2 : Array Value) (d d2 : TypeDesc)
    (hp : tmps.getD p undef = .pointer (some ⟨g, 0, none⟩)) (hg : w.heap[g]? = some (.cells cs t (0, 0))) (hu : P.underlying ty = some d) (hd : (match d with | .struct _ | .array _ _ => true | _ => false) = true) (hi : (P.info? ty).map (·.size) = some cs.size)
    (hp2 : tmps.getD q undef = .pointer (some ⟨g2, 0, none⟩)) (hg2 : w.heap[g2]? = some (.cells cs2 t2 (0, 0))) (hu2 : P.underlying ty2 = some d2) (hd2 : (match d2 with | .struct _ | .array _ _ => true | _ => false) = true) (hi2 : (P.info? ty2).map (·.size) = some cs2.size) :
    (results fn tmps).run P w = .ok (.tuple #[.agg cs, .agg cs2]) w := by
  have hp' : tmps[p]?.getD undef = .pointer (some ⟨g, 0, none⟩) := by simpa using hp
  have hp2' : tmps[q]?.getD undef = .pointer (some ⟨g2, 0, none⟩) := by simpa using hp2
  simp [results, h, hp', hp2', asAddr, run_loadVar_row w g t ty cs _ d hg hu hd hi, run_loadVar_row w g2 t2 ty2 cs2 _ d2 hg2 hu2 hd2 hi2]
theorem boxed {α : Type} {d : Kd α} {ws W : World} {b t k : Nat} {A : Option Addr} {l : List α} {z0 z1 z2 x0 x1 x2 : Value} (hb : Below ws.heap.size ws W) (hg : ws.heap.size ≤ b) (hz : W.heap[b]? = some (.cells #[z0, z1, z2] t (0, 0))) (hC : Kd.C (AppC.elder d ws) W A k l) (hap : ∀ ad, A = some ad → k ≠ 0 → ad.block ≠ b) :
    Below ws.heap.size ws (((W.setCell ⟨b, 0, none⟩ x0).setCell ⟨b, 1, none⟩ x1).setCell ⟨b, 2, none⟩ x2) ∧ (((W.setCell ⟨b, 0, none⟩ x0).setCell ⟨b, 1, none⟩ x1).setCell ⟨b, 2, none⟩ x2).heap[b]? = some (.cells #[x0, x1, x2] t (0, 0)) ∧ Kd.C d (((W.setCell ⟨b, 0, none⟩ x0).setCell ⟨b, 1, none⟩ x1).setCell ⟨b, 2, none⟩ x2) A k l := by
  have h1 : Below ws.heap.size ws (((W.setCell ⟨b, 0, none⟩ x0).setCell ⟨b, 1, none⟩ x1).setCell ⟨b, 2, none⟩ x2) := ((hb.setCell hg _).setCell hg _).setCell hg _
  exact ⟨h1, blk_set (blk_set (blk_set hz 0 x0) 1 x1) 2 x2, AppC.elder_C (AppC.elder_far (AppC.elder_far (AppC.elder_far hC hap 0 x0) hap 1 x1) hap 2 x2) h1⟩
structure InX11 (w ws : World) (p : SPart) (k : Nat) (st : List TTree) (rs : List RTree) (A B : Option Addr) (x : TTree) (y : RTree) (bx by_ : Nat) (Tx : Option Addr) (tcx : Nat) (Ty : Option Addr) (tcy : Nat) (W : World) : Prop where
  bel : Below ws.heap.size ws W
  big : okB w ws.heap.size ∧ ws.heap.size ≤ W.heap.size
  s : Kd.F k55 W (okB w) A st.length st
  r : Kd.F k58 W (okB w) B st.length rs
  bx : W.heap[bx]? = some (.cells #[.int .i64 p.f0, .int .i64 p.f1, .slice Tx k tcx] 55 (0, 0))
  by_ : W.heap[by_]? = some (.cells #[.int .i64 p.f0, .int .i64 p.f1, .slice Ty k tcy] 58 (0, 0))
  xc : Kd.F k55 W (okB w) Tx k x.f2 ∧ k ≤ tcx ∧ x.f0 = p.f0 ∧ x.f1 = p.f1
  yc : Kd.F k58 W (okB w) Ty k y.f2 ∧ k ≤ tcy ∧ y.f0 = p.f0 ∧ y.f1 = p.f1
section
variable {w ws : World} {p : SPart} {k : Nat} {st : List TTree} {rs : List RTree} {A B : Option Addr} {x : TTree} {y : RTree} {bx by_ : Nat} {Tx : Option Addr} {tcx : Nat} {Ty : Option Addr} {tcy : Nat} {W W' : World}
theorem InX11.step (h : InX11 w ws p k st rs A B x y bx by_ Tx tcx Ty tcy W) (hb : Below W.heap.size W W') : InX11 w ws p k st rs A B x y bx by_ Tx tcx Ty tcy W' := ⟨h.bel.trans (hb.mono h.bel.size), ⟨h.big.1, Nat.le_trans h.big.2 hb.size⟩, Kd.F_below h.s hb, Kd.F_below h.r hb, blk_below h.bx hb, blk_below h.by_ hb, ⟨Kd.F_below h.xc.1 hb, h.xc.2⟩, ⟨Kd.F_below h.yc.1 hb, h.yc.2⟩⟩
theorem InX11.x0 (h : InX11 w ws p k st rs A B x y bx by_ Tx tcx Ty tcy W) : W.cell? ⟨bx, 0, none⟩ = some (.int .i64 p.f0) := (blk_cell h.bx 0).trans rfl
theorem InX11.x1 (h : InX11 w ws p k st rs A B x y bx by_ Tx tcx Ty tcy W) : W.cell? ⟨bx, 1, none⟩ = some (.int .i64 p.f1) := (blk_cell h.bx 1).trans rfl
theorem InX11.x2 (h : InX11 w ws p k st rs A B x y bx by_ Tx tcx Ty tcy W) : W.cell? ⟨bx, 2, none⟩ = some (.slice Tx k tcx) := (blk_cell h.bx 2).trans rfl
theorem InX11.y0 (h : InX11 w ws p k st rs A B x y bx by_ Tx tcx Ty tcy W) : W.cell? ⟨by_, 0, none⟩ = some (.int .i64 p.f0) := (blk_cell h.by_ 0).trans rfl
theorem InX11.y1 (h : InX11 w ws p k st rs A B x y bx by_ Tx tcx Ty tcy W) : W.cell? ⟨by_, 1, none⟩ = some (.int .i64 p.f1) := (blk_cell h.by_ 1).trans rfl
theorem InX11.y2 (h : InX11 w ws p k st rs A B x y bx by_ Tx tcx Ty tcy W) : W.cell? ⟨by_, 2, none⟩ = some (.slice Ty k tcy) := (blk_cell h.by_ 2).trans rfl
theorem InX11.xk (h : InX11 w ws p k st rs A B x y bx by_ Tx tcx Ty tcy W) : (feet k55 (okB w)).K W x [.int .i64 p.f0, .int .i64 p.f1, .slice Tx k tcx] := by
  have e := Kd.F_len h.xc.1
  have := k55_mkF W (okB w) x (A2 := Tx) (c2 := tcx) (by rw [e]; exact h.xc.2.1) (by rw [e]; exact h.xc.1)
  rw [h.xc.2.2.1, h.xc.2.2.2, e] at this; exact this
theorem InX11.yk (h : InX11 w ws p k st rs A B x y bx by_ Tx tcx Ty tcy W) : (feet k58 (okB w)).K W y [.int .i64 p.f0, .int .i64 p.f1, .slice Ty k tcy] := by
  have e := Kd.F_len h.yc.1
  have := k58_mkF W (okB w) y (A2 := Ty) (c2 := tcy) (by rw [e]; exact h.yc.2.1) (by rw [e]; exact h.yc.1)
  rw [h.yc.2.2.1, h.yc.2.2.2, e] at this; exact this
theorem InX11.sk (h : InX11 w ws p k st rs A B x y bx by_ Tx tcx Ty tcy W) (k : Nat) : Kd.C (feet k55 (okB w)) W A (st.length - k) (st.take (st.length - k)) := AppC.C_take (d := feet k55 (okB w)) (Kd.F_rows h.s) _ (Nat.sub_le _ _)
theorem InX11.rk (h : InX11 w ws p k st rs A B x y bx by_ Tx tcx Ty tcy W) (k : Nat) : Kd.C (feet k58 (okB w)) W B (st.length - k) (rs.take (st.length - k)) := AppC.C_take (d := feet k58 (okB w)) (Kd.F_rows h.r) _ (Nat.sub_le _ _)
end
theorem cut_tail {α : Type} (d : Kd α) (t e : TypeId) {i : TypeInfo} (ht : Tryd.prog.underlying t = some (.slice e)) (hi : Tryd.prog.info? e = some i) (hsz : i.size = d.sz) (A : Option Addr) (n c k : Nat) (hk : k ≤ n) (hc : n ≤ c) :
    ∃ A2 c2, (∀ W : World, (Instr.slice t (.slice A n c) (some (.int .i64 ((n : Int) - (k : Int)))) none none).run Tryd.prog W = .ok (.slice A2 k c2) W) ∧ ∀ (W : World) (l : List α), Kd.C d W A n l → Kd.C d W A2 k (l.drop (n - k)) := by
  have h1 := cut_from (P := Tryd.prog) t e .i64 ht hi d.sz hsz A n c ((n : Int) - (k : Int)) (by omega) (by omega)
  have e1 : ((n : Int) - (k : Int)).toNat = n - k := by omega
  refine ⟨if c = n - k then A else A.map (·.add ((n - k) * d.sz)), c - (n - k), fun W => ?_, fun W l h => ?_⟩
  · have := h1 W
    rw [e1, show n - (n - k) = k by omega] at this
    exact this
  · have := AppC.C_drop h (n - k) (Nat.sub_le _ _) hc
    rwa [show n - (n - k) = k by omega] at this
theorem cut_head (t e : TypeId) {i : TypeInfo} (ht : Tryd.prog.underlying t = some (.slice e)) (hi : Tryd.prog.info? e = some i) (A : Option Addr) (n c k : Nat) (hk : k ≤ n) (hc : n ≤ c) (W : World) :
    (Instr.slice t (.slice A n c) none (some (.int .i64 ((n : Int) - (k : Int)))) (some (.int .i64 ((n : Int) - (k : Int))))).run Tryd.prog W = .ok (.slice A (n - k) (n - k)) W := by
  have hel : Tryd.prog.elem t = e := by simp [Program.elem, ht]
  have hu : Tryd.prog.underlying t = some (.slice (Tryd.prog.elem t)) := by rw [hel]; exact ht
  have ha : (A.map fun x => x.add 0) = A := by cases A <;> simp [Addr.add]
  rw [run_slice_hm W t A n c hu .i64 .i64 ((n : Int) - (k : Int)) ((n : Int) - (k : Int)) (by omega) (Int.le_refl _) (by omega), hel]
  have e1 : ((n : Int) - (k : Int)).toNat = n - k := by omega
  simp [sizeOf, typeInfo, hi, sliced, Result.andThen, ha, e1]
structure InBd (w : World) (st : List TTree) (A : Option Addr) (ca : Nat) (B : Option Addr) (cb : Nat) (W : World) : Prop where
  bel : Below w.heap.size w W
  z2 : W.heap[w.heap.size]? = some (.cells #[.int .i64 0, .int .i64 0, .slice none 0 0] 55 (0, 0))
  z3 : W.heap[w.heap.size + 1]? = some (.cells #[.int .i64 0, .int .i64 0, .slice none 0 0] 58 (0, 0))
  a : Kd.F k55 W (okB w) A st.length st ∧ st.length ≤ ca
  b : Kd.F k58 W (okB w) B st.length (toRs st) ∧ st.length ≤ cb
theorem InBd.step {w : World} {st : List TTree} {A : Option Addr} {ca : Nat} {B : Option Addr} {cb : Nat} {W W' : World} (h : InBd w st A ca B cb W) (hb : Below W.heap.size W W') : InBd w st A ca B cb W' := ⟨h.bel.trans (hb.mono h.bel.size), blk_below h.z2 hb, blk_below h.z3 hb, ⟨Kd.F_below h.a.1 hb, h.a.2⟩, ⟨Kd.F_below h.b.1 hb, h.b.2⟩⟩
theorem sub_wrap (n k : Nat) (h : k ≤ n) (hn : n ≤ 2000000) : IntKind.i64.wrap ((n : Int) - (k : Int)) = (n : Int) - (k : Int) := IntWalk.i64_in _ (by omega)
theorem at_farT {w W : World} {A : Option Addr} {n : Nat} {l : List TTree} (h : Kd.F k55 W (okB w) A n l) (m : Nat) (hm : m < n) : ∃ (ad : Addr) (T : Option Addr) (tc : Nat), A = some ad ∧ W.cell? (ad.add (m * 3)) = some (.int .i64 (l.getD m z55).f0) ∧ W.cell? ⟨(ad.add (m * 3)).block, (ad.add (m * 3)).off + 1, none⟩ = some (.int .i64 (l.getD m z55).f1) ∧ W.cell? ⟨(ad.add (m * 3)).block, (ad.add (m * 3)).off + 2, none⟩ = some (.slice T (l.getD m z55).f2.length tc) ∧ (l.getD m z55).f2.length ≤ tc ∧ Kd.F k55 W (okB w) T (l.getD m z55).f2.length (l.getD m z55).f2 ∧ okB w (ad.add (m * 3)).block := by
  obtain ⟨ad, c, e, _, hK, hc0, hin⟩ := Kd.F_get h z55 (m : Int) (by omega) (by omega)
  rw [Int.toNat_natCast] at hK hc0
  have hc : ∀ j u, c[j]? = some u → W.cell? (ad.add (m * 3 + j)) = some u := hc0
  obtain ⟨A2, c2, rfl, l2, g2⟩ := k55_openF hK
  have hb : ∀ m, (ad.add m).block = ad.block := fun m => by unfold Addr.add; split <;> rfl
  exact ⟨ad, A2, c2, e, hc 0 _ rfl, by rw [← add_field _ _ 1 (by omega)]; exact hc 1 _ rfl, by rw [← add_field _ _ 2 (by omega)]; exact hc 2 _ rfl, l2, g2, by rw [hb]; exact hin (by decide)⟩
theorem at_farR {w W : World} {A : Option Addr} {n : Nat} {l : List RTree} (h : Kd.F k58 W (okB w) A n l) (m : Nat) (hm : m < n) : ∃ (ad : Addr) (T : Option Addr) (tc : Nat), A = some ad ∧ W.cell? (ad.add (m * 3)) = some (.int .i64 (l.getD m z58).f0) ∧ W.cell? ⟨(ad.add (m * 3)).block, (ad.add (m * 3)).off + 1, none⟩ = some (.int .i64 (l.getD m z58).f1) ∧ W.cell? ⟨(ad.add (m * 3)).block, (ad.add (m * 3)).off + 2, none⟩ = some (.slice T (l.getD m z58).f2.length tc) ∧ (l.getD m z58).f2.length ≤ tc ∧ Kd.F k58 W (okB w) T (l.getD m z58).f2.length (l.getD m z58).f2 ∧ okB w (ad.add (m * 3)).block := by
  obtain ⟨ad, c, e, _, hK, hc0, hin⟩ := Kd.F_get h z58 (m : Int) (by omega) (by omega)
  rw [Int.toNat_natCast] at hK hc0
  have hc : ∀ j u, c[j]? = some u → W.cell? (ad.add (m * 3 + j)) = some u := hc0
  obtain ⟨A2, c2, rfl, l2, g2⟩ := k58_openF hK
  have hb : ∀ m, (ad.add m).block = ad.block := fun m => by unfold Addr.add; split <;> rfl
  exact ⟨ad, A2, c2, e, hc 0 _ rfl, by rw [← add_field _ _ 1 (by omega)]; exact hc 1 _ rfl, by rw [← add_field _ _ 2 (by omega)]; exact hc 2 _ rfl, l2, g2, by rw [hb]; exact hin (by decide)⟩
structure InEnd (w : World) (t : TTree) (u : RTree) (pa pb : Addr) (T : Option Addr) (tc : Nat) (R : Option Addr) (rc : Nat) (W : World) : Prop where
  bel : Below w.heap.size w W
  z2 : ∃ z0 z1 z2, W.heap[w.heap.size]? = some (.cells #[z0, z1, z2] 55 (0, 0))
  z3 : W.heap[w.heap.size + 1]? = some (.cells #[.int .i64 0, .int .i64 0, .slice none 0 0] 58 (0, 0))
  x0 : W.cell? pa = some (.int .i64 t.f0)
  x1 : W.cell? ⟨pa.block, pa.off + 1, none⟩ = some (.int .i64 t.f1)
  x2 : W.cell? ⟨pa.block, pa.off + 2, none⟩ = some (.slice T t.f2.length tc)
  y0 : W.cell? pb = some (.int .i64 u.f0)
  y1 : W.cell? ⟨pb.block, pb.off + 1, none⟩ = some (.int .i64 u.f1)
  y2 : W.cell? ⟨pb.block, pb.off + 2, none⟩ = some (.slice R u.f2.length rc)
  far : okB w pa.block ∧ okB w pb.block
  c : Kd.F k55 W (okB w) T t.f2.length t.f2 ∧ t.f2.length ≤ tc
  r : Kd.F k58 W (okB w) R u.f2.length u.f2 ∧ u.f2.length ≤ rc
theorem InEnd.drew {w : World} {t : TTree} {u : RTree} {pa pb : Addr} {T : Option Addr} {tc : Nat} {R : Option Addr} {rc : Nat} {W : World} (h : InEnd w t u pa pb T tc R rc W) : InEnd w t u pa pb T tc R rc W.drew := ⟨below_drew h.bel, h.z2, h.z3, h.x0, h.x1, h.x2, h.y0, h.y1, h.y2, h.far, ⟨Kd.F_drew h.c.1, h.c.2⟩, ⟨Kd.F_drew h.r.1, h.r.2⟩⟩
theorem InEnd.set {w : World} {t : TTree} {u : RTree} {pa pb : Addr} {T : Option Addr} {tc : Nat} {R : Option Addr} {rc : Nat} {W : World} (h : InEnd w t u pa pb T tc R rc W) (i : Nat) (v : Value) (hi : i < 3) : InEnd w t u pa pb T tc R rc (W.setCell ⟨w.heap.size, i, none⟩ v) := by
  obtain ⟨z0, z1, z2, hz⟩ := h.z2
  have far : ∀ p : Addr, okB w p.block → (⟨w.heap.size, i, none⟩ : Addr) ≠ p := fun p hp e => by unfold okB at hp; rw [← e] at hp; simp only at hp; omega
  have h1 := blk_set hz i v
  refine ⟨h.bel.setCell (Nat.le_refl _) _, ?_, blk_far h.z3 (by simp) v, ?_, ?_, ?_, ?_, ?_, ?_, h.far, ⟨Kd.F_far h.c.1 (fun k hk e => by unfold okB at hk; simp only at e; omega) v, h.c.2⟩, ⟨Kd.F_far h.r.1 (fun k hk e => by unfold okB at hk; simp only at e; omega) v, h.r.2⟩⟩
  · match i, hi with
    | 0, _ => exact ⟨_, _, _, h1⟩
    | 1, _ => exact ⟨_, _, _, h1⟩
    | 2, _ => exact ⟨_, _, _, h1⟩
  all_goals rw [World.cell?_setCell_other]
  · exact h.x0
  · exact far _ h.far.1
  · exact h.x1
  · exact far _ h.far.1
  · exact h.x2
  · exact far _ h.far.1
  · exact h.y0
  · exact far _ h.far.2
  · exact h.y1
  · exact far _ h.far.2
  · exact h.y2
  · exact far _ h.far.2
set_option maxHeartbeats 16000000 in
set_option maxRecDepth 100000 in
theorem build_calls (Pp : Option Addr) (pc : Nat) (l : List SPart) (hl : l.length ≤ 2000000) (w : World) (hr : Kd.C k157 w Pp l.length l) (fin : List TTree) (hfin : bAll l [] = fin) (hne : fin ≠ []) :
    Calls Tryd.prog 29 #[.slice Pp l.length pc] w fun e w' => ∃ (t : TTree) (T : Option Addr) (tc : Nat) (R : Option Addr) (rc : Nat), fin.getLast? = some t ∧ e = .returned (.tuple #[.agg #[.int .i64 t.f0, .int .i64 t.f1, .slice T t.f2.length tc], .agg #[.int .i64 (toR t).f0, .int .i64 (toR t).f1, .slice R (toR t).f2.length rc]]) ∧ (Kd.C k55 w' T t.f2.length t.f2 ∧ t.f2.length ≤ tc) ∧ (Kd.C k58 w' R (toR t).f2.length (toR t).f2 ∧ (toR t).f2.length ≤ rc) ∧ Below w.heap.size w w' := by
  have hu := Tryd.underlying55
  have hu2 := Tryd.underlying58
  have hu3 := Tryd.underlying157
  obtain ⟨iT, hiT, -, hsT, -⟩ := info_parts infoT
  obtain ⟨iR, hiR, -, hsR, -⟩ := info_parts infoR
  have HIT := Lib.hid hiT
  have HIR := Lib.hid hiR
  have HST := Lib.hid hsT
  have HSR := Lib.hid hsR
  have HR := Lib.hid hr
  have HF := Lib.hid hfin
  have HNE := Lib.hid hne
  clear hr hfin hne hiT hiR hsT hsR
  go_enter Tryd.func29, Tryd.ntmps29
  go_wp2_with fail
  have hI0 : InBd w [] none 0 none 0 ((w.alloc (.cells #[.int .i64 0, .int .i64 0, .slice none 0 0] 55)).alloc (.cells #[.int .i64 0, .int .i64 0, .slice none 0 0] 58)) := by
    have h3 := blk_new (w.alloc (.cells #[.int .i64 0, .int .i64 0, .slice none 0 0] 55)) (.cells #[.int .i64 0, .int .i64 0, .slice none 0 0] 58)
    rw [show (w.alloc (.cells #[.int .i64 0, .int .i64 0, .slice none 0 0] 55)).heap.size = w.heap.size + 1 by simp] at h3
    exact ⟨((Below.refl _ w).alloc (Nat.le_refl _) _).alloc (by simp) _, blk_alloc (blk_new w _) _, h3, ⟨Kd.F_nil _ _ _, Nat.le_refl _⟩, ⟨Kd.F_nil _ _ _, Nat.le_refl _⟩⟩
  have HI0 := Lib.hid hI0
  clear hI0
  go_loopw [4, 5, 13] (fun a b i wr => ∃ (j : Nat) (st : List TTree) (A : Option Addr) (ca : Nat) (B : Option Addr) (cb : Nat), a = .slice A st.length ca ∧ b = .slice B st.length cb ∧ i = .int .i64 j ∧ j ≤ l.length ∧ Hid (bAll (l.drop j) st = fin) ∧ Hid (st.length ≤ j) ∧ Hid (InBd w st A ca B cb wr)) (fun _ _ i _ => l.length - (intOf i).toNat)
  case atStart => exact ⟨0, [], none, 0, none, 0, rfl, rfl, rfl, Nat.zero_le _, HF, Lib.hid (Nat.le_refl _), HI0⟩
  case round =>
    clear HI0 HF
    obtain ⟨j, st, A, ca, B, cb, rfl, rfl, rfl, hj, HO, HSJ, HI⟩ := hrel
    by_cases hjl : j < l.length
    · obtain ⟨pad, e1, hp0, hp1, hp2⟩ := at_T157 HR.out (j : Int) (by omega) (by omega)
      subst e1
      obtain ⟨p, hp⟩ : ∃ p, p = l[j] := ⟨_, rfl⟩
      have hrdp : rd_T157 l (j : Int) = p := by rw [hp, rd_T157, Int.toNat_natCast, List.getD_eq_getElem?_getD, List.getElem?_eq_getElem hjl]; rfl
      rw [hrdp, Int.toNat_natCast] at hp0 hp1 hp2
      replace hp0 := (HI.out.bel.cell (World.block_lt_of_cell? _ _ hp0)).trans hp0
      replace hp1 := (HI.out.bel.cell (World.block_lt_of_cell? _ _ hp1)).trans hp1
      replace hp2 := (HI.out.bel.cell (World.block_lt_of_cell? _ _ hp2)).trans hp2
      have HO2 : Hid (bAll (l.drop (j + 1)) (bStep st p) = fin) := Lib.hid (by have := HO.out; rwa [List.drop_eq_getElem_cons hjl, ← hp, bAll] at this)
      have HJ := Lib.hid hjl
      have hj0 : 0 ≤ (j : Int) := Int.natCast_nonneg _
      have hj1 : (j : Int) < (l.length : Int) := by omega
      have hn : st.length ≤ 2000000 := by have := HSJ.out; omega
      obtain ⟨k, hk⟩ : ∃ k, k = bkN st.length p := ⟨_, rfl⟩
      have hkn : k ≤ st.length := by rw [hk]; exact bkN_le _ _
      have HKB := Lib.hid hk
      have hpb := blk_new wr (.cells #[.int .i64 p.f0, .int .i64 p.f1, .int .i64 p.f2] 157)
      have HPB := Lib.hid hpb
      have HI1 := Lib.hid (HI.out.step (W' := wr.alloc (.cells #[.int .i64 p.f0, .int .i64 p.f1, .int .i64 p.f2] 157)) ((Below.refl _ _).alloc (Nat.le_refl _) _))
      have q2 : (wr.alloc (.cells #[.int .i64 p.f0, .int .i64 p.f1, .int .i64 p.f2] 157)).cell? ⟨wr.heap.size, 2, none⟩ = some (.int .i64 p.f2) := (blk_cell hpb 2).trans rfl
      clear hp hrdp hk hpb
      go_upto_if 19 with fail
      go_cut [8] (fun s8 wx => s8 = .int .i64 (k : Int) ∧ wx = wr.alloc (.cells #[.int .i64 p.f0, .int .i64 p.f1, .int .i64 p.f2] 157))
      case first =>
        by_cases h0 : 0 < p.f2
        · have h0b : decide (p.f2 > 0) = true := decide_eq_true h0
          have hmin : (if (st.length : Int) < p.f2 then (st.length : Int) else p.f2) = (k : Int) := by
            have := HKB.out
            unfold bkN at this
            rw [if_pos h0] at this
            split at this <;> (rename_i h; (first | rw [if_pos h] | rw [if_neg h])); all_goals omega
          go_wp2
          go_meet
          exact ⟨rfl, rfl⟩
        · have h0b : decide (p.f2 > 0) = false := decide_eq_false h0
          have hk0 : Hid ((k : Int) = 0) := Lib.hid (by have := HKB.out; unfold bkN at this; rw [if_neg h0] at this; omega)
          go_wp2
          go_meet
          exact ⟨by rw [hk0.out], rfl⟩
      case rest =>
      obtain ⟨rfl, rfl⟩ := hcut
      clear hp0 hp1 hp2 q2
      generalize hws : wr.alloc (.cells #[.int .i64 p.f0, .int .i64 p.f1, .int .i64 p.f2] 157) = ws at *
      generalize hpbg : wr.heap.size = pb at *
      have hsz : ws.heap.size = pb + 1 := by rw [← hws, ← hpbg]; simp
      have HWS : Hid (pb < ws.heap.size) := Lib.hid (by omega)
      have HBW : Hid (okB w ws.heap.size) := Lib.hid (by have h1 := blk_lt HI.out.z3; unfold okB; omega)
      clear hws hpbg hsz
      obtain ⟨A2, c2, hcut, hcutC⟩ := cut_tail (AppC.elder (feet k55 (okB w)) ws) 53 55 Tryd.underlying53 HIT.out HST.out A st.length ca k hkn HI1.out.a.2
      replace hcutC := fun (W : World) (hb : Below ws.heap.size ws W) => hcutC W st (AppC.C_elder (Kd.F_rows HI1.out.a.1) hb)
      go_wp2_with fail
      refine RegT.regionT (F := ?FT) (fun W => W.heap[pb]? = some (.cells #[.int .i64 p.f0, .int .i64 p.f1, .int .i64 p.f2] 157 (0, 0)) ∧ Below ws.heap.size ws W) [fun v _ => v = .pointer (some ⟨pb, 0, none⟩), fun v _ => v = .int .i64 p.f0, fun v _ => v = .pointer (some ⟨pb, 1, none⟩), fun v _ => v = .int .i64 p.f1, fun v _ => ∃ b, v = .slice (some ⟨b, 0, none⟩) 0 0, fun v _ => v = .slice A st.length ca, fun v _ => v = .slice A st.length ca, fun v _ => v = .int .i64 (st.length : Int), fun v _ => v = .int .i64 (k : Int), fun v _ => v = .int .i64 ((st.length : Int) - (k : Int)), fun v _ => v = .slice A2 k c2, fun v W => ∃ A' c', v = .slice A' k c' ∧ k ≤ c' ∧ Kd.C (AppC.elder (feet k55 (okB w)) ws) W A' k (st.drop (st.length - k)) ∧ farA w A' k, fun v W => ∃ A' c', v = .agg #[.int .i64 p.f0, .int .i64 p.f1, .slice A' k c'] ∧ k ≤ c' ∧ Kd.C (AppC.elder (feet k55 (okB w)) ws) W A' k (st.drop (st.length - k)) ∧ farA w A' k, fun v W => ∃ b, v = .pointer (some ⟨b, 0, none⟩) ∧ ws.heap.size ≤ b ∧ W.heap[b]? = some (.cells #[.int .i64 0, .int .i64 0, .slice none 0 0] 55 (0, 0))] (fun i v => match i with | 11 => RegT.blS v | 12 => RegT.blL 2 v | 13 => RegT.blP v | _ => none) (fun i => match i with | 13 => true | _ => false) 14 ?hFT (by kernel_rfl) (by kernel_rfl) (by kernel_rfl) (by kernel_rfl) (by kernel_rfl) (by simp) ⟨fun _ _ _ h _ => h, fun _ _ _ h _ => h, fun _ _ _ h _ => h, fun _ _ _ h _ => h, fun _ _ _ h _ => h, fun _ _ _ h _ => h, fun _ _ _ h _ => h, fun _ _ _ h _ => h, fun _ _ _ h _ => h, fun _ _ _ h _ => h, fun _ _ _ h _ => h, fun _ _ _ ⟨A', c', h1, h2, h3, h4⟩ hb => ⟨A', c', h1, h2, Kd.C_below h3 hb, h4⟩, fun _ _ _ ⟨A', c', h1, h2, h3, h4⟩ hb => ⟨A', c', h1, h2, Kd.C_below h3 hb, h4⟩, fun _ _ _ ⟨b, h1, h2, h3⟩ hb => ⟨b, h1, h2, blk_below h3 hb⟩, trivial⟩ ?hST ⟨?o0T, ?o1T, ?o2T, ?o3T, ?o4T, ?o5T, ?o6T, ?o7T, ?o8T, ?o9T, ?o10T, ?o11T, ?o12T, ?o13T, trivial⟩ ?hendT
      case hFT => intro f; (try simp only [List.take_succ_cons, List.take_zero, RegT.fillIn, RegT.fv, Act.put, List.setIfInBounds_toArray, List.set_cons_zero, List.set_cons_succ]); exact rfl
      case hST => exact ⟨blk_drew HPB.out, below_drew (Below.refl _ _)⟩
      case o0T =>
        intro f W1 hS hd ho_ K hK
        clear hd
        clear ho_
        (go_simp; exact hK.out (.pointer (some ⟨pb, 0, none⟩)) _ hS (Below.refl _ _) rfl (fun _ (h : (none : Option Nat) = some _) => by cases h) _ (by rfl))
      case o1T =>
        intro f W1 hS hd ho_ K hK
        obtain ⟨e25, -⟩ := hd
        clear ho_
        replace e25 : f 25 = .pointer (some ⟨pb, 0, none⟩) := e25
        have q0 : W1.cell? ⟨pb, 0, none⟩ = some (.int .i64 p.f0) := (blk_cell hS.1 0).trans rfl
        have q1 : W1.cell? ⟨pb, 1, none⟩ = some (.int .i64 p.f1) := (blk_cell hS.1 1).trans rfl
        (go_simp; exact hK.out (.int .i64 p.f0) _ hS (Below.refl _ _) rfl (fun _ (h : (none : Option Nat) = some _) => by cases h) _ (by first | (simp only [e25]; done) | (simp only [e25]; rfl) | rfl))
      case o2T =>
        intro f W1 hS hd ho_ K hK
        clear hd
        clear ho_
        (go_simp; exact hK.out (.pointer (some ⟨pb, 1, none⟩)) _ hS (Below.refl _ _) rfl (fun _ (h : (none : Option Nat) = some _) => by cases h) _ (by rfl))
      case o3T =>
        intro f W1 hS hd ho_ K hK
        obtain ⟨e27, -⟩ := hd
        clear ho_
        replace e27 : f 27 = .pointer (some ⟨pb, 1, none⟩) := e27
        have q0 : W1.cell? ⟨pb, 0, none⟩ = some (.int .i64 p.f0) := (blk_cell hS.1 0).trans rfl
        have q1 : W1.cell? ⟨pb, 1, none⟩ = some (.int .i64 p.f1) := (blk_cell hS.1 1).trans rfl
        (go_simp; exact hK.out (.int .i64 p.f1) _ hS (Below.refl _ _) rfl (fun _ (h : (none : Option Nat) = some _) => by cases h) _ (by first | (simp only [e27]; done) | (simp only [e27]; rfl) | rfl))
      case o4T =>
        intro f W1 hS hd ho_ K hK
        clear hd
        clear ho_
        go_simp
        exact hK.out (.slice (some ⟨W1.heap.size, 0, none⟩) 0 0) _ (stepP hS ((Below.refl _ _).alloc (Nat.le_refl _) _)) ((Below.refl _ _).alloc (Nat.le_refl _) _) ⟨_, rfl⟩ (fun _ (h : (none : Option Nat) = some _) => by cases h) _ (by rfl)
      case o5T =>
        intro f W1 hS hd ho_ K hK
        clear hd
        clear ho_
        (go_simp; exact hK.out (.slice A st.length ca) _ hS (Below.refl _ _) rfl (fun _ (h : (none : Option Nat) = some _) => by cases h) _ (by rfl))
      case o6T =>
        intro f W1 hS hd ho_ K hK
        clear hd
        clear ho_
        (go_simp; exact hK.out (.slice A st.length ca) _ hS (Below.refl _ _) rfl (fun _ (h : (none : Option Nat) = some _) => by cases h) _ (by rfl))
      case o7T =>
        intro f W1 hS hd ho_ K hK
        obtain ⟨e31, -⟩ := hd
        clear ho_
        replace e31 : f 31 = .slice A st.length ca := e31
        (go_simp; exact hK.out (.int .i64 (st.length : Int)) _ hS (Below.refl _ _) rfl (fun _ (h : (none : Option Nat) = some _) => by cases h) _ (by first | (simp only [e31]; done) | (simp only [e31]; rfl) | rfl))
      case o8T =>
        intro f W1 hS hd ho_ K hK
        clear hd
        clear ho_
        (go_simp; exact hK.out (.int .i64 (k : Int)) _ hS (Below.refl _ _) rfl (fun _ (h : (none : Option Nat) = some _) => by cases h) _ (by rfl))
      case o9T =>
        intro f W1 hS hd ho_ K hK
        obtain ⟨e32, e33, -⟩ := hd
        clear ho_
        replace e32 : f 32 = .int .i64 (st.length : Int) := e32
        replace e33 : f 33 = .int .i64 (k : Int) := e33
        have hw := sub_wrap st.length k hkn (by omega)
        (go_simp; exact hK.out (.int .i64 ((st.length : Int) - (k : Int))) _ hS (Below.refl _ _) rfl (fun _ (h : (none : Option Nat) = some _) => by cases h) _ (by first | (simp only [e32, e33, hw]; done) | (simp only [e32, e33, hw]; rfl) | rfl))
      case o10T =>
        intro f W1 hS hd ho_ K hK
        obtain ⟨e30, e34, -⟩ := hd
        clear ho_
        replace e30 : f 30 = .slice A st.length ca := e30
        replace e34 : f 34 = .int .i64 ((st.length : Int) - (k : Int)) := e34
        (go_simp; exact hK.out (.slice A2 k c2) _ hS (Below.refl _ _) rfl (fun _ (h : (none : Option Nat) = some _) => by cases h) _ (by first | (simp only [e30, e34]; done) | (simp only [e30, e34]; rfl) | rfl))
      case o11T =>
        intro f W1 hS hd ho_ K hK
        obtain ⟨e29, e35, -⟩ := hd
        clear ho_
        obtain ⟨b29, e29⟩ := e29
        replace e35 : f 35 = .slice A2 k c2 := e35
        refine AppC.step_full (AppC.elder (feet k55 (okB w)) ws) (by rfl) (.tmp 29) (.tmp 35) 53 55 (.agg #[.int .i64 0, .int .i64 0, .slice none 0 0]) 40 (by rfl) Tryd.underlying53 infoT rfl (by omega) (some ⟨b29, 0, none⟩) 0 [] A2 k c2 (st.drop (st.length - k)) e29 e35 (AppC.C_empty _ _ _) (hcutC _ hS.2) (by omega) ?_
        intro A1 c1 w1 hc hC hb hnew
        rw [List.nil_append] at hC
        simp only [Nat.zero_add] at hc hC ⊢
        exact hK.out (.slice A1 k c1) _ (stepP hS hb) hb ⟨A1, c1, rfl, hc, hC, far_new hnew (fun h => by omega) (by have := HBW.out; have := hS.2.size; unfold okB at *; omega)⟩ (fun q hq => Or.inl (fresh_of hnew hq)) _ (by first | (simp only [e29, e35]; done) | (simp only [e29, e35]; rfl) | rfl)
      case o12T =>
        intro f W1 hS hd ho_ K hK
        obtain ⟨e26, e28, e36, -⟩ := hd
        clear ho_
        replace e26 : f 26 = .int .i64 p.f0 := e26
        replace e28 : f 28 = .int .i64 p.f1 := e28
        obtain ⟨A36, c36, e36, hc36, hC36, hF36⟩ := e36
        have hil := inh_of (f := f) (x := .int .i64 p.f0) (y := .int .i64 p.f1) (i := 11) (d := 36) (A := A36) (k := k) (c := c36) e36
        go_simp
        exact hK.out (.agg #[.int .i64 p.f0, .int .i64 p.f1, .slice A36 k c36]) _ hS (Below.refl _ _) ⟨_, _, rfl, hc36, hC36, hF36⟩ (fun q hq => Or.inr ⟨rfl, (11, 36), by simp [RegT.deps, Region.binds], rfl, hil q hq⟩) _ (by first | (simp only [e26, e28, e36]; done) | (simp only [e26, e28, e36]; rfl) | rfl)
      case o13T =>
        intro f W1 hS hd ho_ K hK
        clear hd
        clear ho_
        have hsz := hS.2.size
        have hnz := blk_new W1 (.cells #[.int .i64 0, .int .i64 0, .slice none 0 0] 55)
        go_simp
        exact hK.out (.pointer (some ⟨W1.heap.size, 0, none⟩)) _ (stepP hS ((Below.refl _ _).alloc (Nat.le_refl _) _)) ((Below.refl _ _).alloc (Nat.le_refl _) _) ⟨_, rfl, hsz, hnz⟩ (fun q hq => Or.inl (by have hq : some W1.heap.size = some q := hq; injection hq with hq; subst hq; exact ⟨Nat.le_refl _, by simp⟩)) _ (by rfl)
      case hendT =>
        intro f W1 hS hr hbl
        have e37 := hr 12 _ _ (by omega) rfl rfl
        obtain ⟨A37, c37, e37, hc37, hC37, hF37⟩ := e37
        have e9 := hr 13 _ _ (by omega) rfl rfl
        obtain ⟨b9, e9, hg9, hz9⟩ := e9
        have hap := fun q => hbl 12 13 _ _ 37 9 q (by decide) rfl (by omega) (by omega) rfl rfl rfl rfl
        simp only [e37, e9] at hap
        (try dsimp only)
        generalize f 37 = x37 at *
        subst e37
        generalize f 9 = x9 at *
        subst e9
        try simp only [List.drop_succ_cons, List.drop_zero]
        clear hcut hcutC
        have hfz := fun i => blk_frozen hz9 i
        have hf0 := hfz 0
        have hf1 := hfz 1
        have hf2 := hfz 2
        have hy0 : W1.cell? ⟨b9, 0, none⟩ = some (.int .i64 0) := (blk_cell hz9 0).trans rfl
        have hy1 : W1.cell? ⟨b9, 1, none⟩ = some (.int .i64 0) := (blk_cell hz9 1).trans rfl
        have hy2 : W1.cell? ⟨b9, 2, none⟩ = some (.slice none 0 0) := (blk_cell hz9 2).trans rfl
        obtain ⟨hb2, hx2, hc2⟩ := boxed (x0 := .int .i64 p.f0) (x1 := .int .i64 p.f1) (x2 := .slice A37 k c37) hS.2 hg9 hz9 hC37 (ap_of hap)
        have HB2 := Lib.hid hb2
        have HX2 := Lib.hid hx2
        have HC2 := Lib.hid (F_of hc2 hF37)
        clear hfz hb2 hx2 hc2 hap hbl hr hC37 hF37
        have HBW2 : Hid (okB w ((((W1.setCell ⟨b9, 0, none⟩ (.int .i64 p.f0)).setCell ⟨b9, 1, none⟩ (.int .i64 p.f1)).setCell ⟨b9, 2, none⟩ (.slice A37 k c37)).heap.size)) := Lib.hid (by have := HBW.out; have := HB2.out.size; unfold okB at *; omega)
        have HPB2 := Lib.hid (blk_below HPB.out HB2.out)
        generalize hw2 : ((W1.setCell ⟨b9, 0, none⟩ (.int .i64 p.f0)).setCell ⟨b9, 1, none⟩ (.int .i64 p.f1)).setCell ⟨b9, 2, none⟩ (.slice A37 k c37) = w2 at HB2 HX2 HC2 HPB2 HBW2
        obtain ⟨rs, hrs⟩ : ∃ rs, rs = toRs st := ⟨_, rfl⟩
        have HRS := Lib.hid hrs
        obtain ⟨B2, d2, hcut, hcutRC⟩ := cut_tail (AppC.elder (feet k58 (okB w)) w2) 56 58 Tryd.underlying56 HIR.out HSR.out B st.length cb k hkn HI1.out.b.2
        replace hcutRC := fun (W : World) (hb : Below w2.heap.size w2 W) => hcutRC W rs (AppC.C_elder (Kd.F_rows (by rw [hrs]; exact Kd.F_below HI1.out.b.1 HB2.out)) hb)
        clear hrs
        have hw2' := hw2
        go_wp2_with fail
        (try rw [hw2])
        clear hw2 hw2' hS hz9 hf0 hf1 hf2 hy0 hy1 hy2
        clear W1
        refine RegT.regionT (F := ?FR) (fun W => W.heap[pb]? = some (.cells #[.int .i64 p.f0, .int .i64 p.f1, .int .i64 p.f2] 157 (0, 0)) ∧ Below w2.heap.size w2 W) [fun v _ => v = .pointer (some ⟨pb, 0, none⟩), fun v _ => v = .int .i64 p.f0, fun v _ => v = .pointer (some ⟨pb, 1, none⟩), fun v _ => v = .int .i64 p.f1, fun v _ => ∃ b, v = .slice (some ⟨b, 0, none⟩) 0 0, fun v _ => v = .slice B st.length cb, fun v _ => v = .slice B st.length cb, fun v _ => v = .int .i64 (st.length : Int), fun v _ => v = .int .i64 (k : Int), fun v _ => v = .int .i64 ((st.length : Int) - (k : Int)), fun v _ => v = .slice B2 k d2, fun v W => ∃ A' c', v = .slice A' k c' ∧ k ≤ c' ∧ Kd.C (AppC.elder (feet k58 (okB w)) w2) W A' k (rs.drop (st.length - k)) ∧ farA w A' k, fun v W => ∃ A' c', v = .agg #[.int .i64 p.f0, .int .i64 p.f1, .slice A' k c'] ∧ k ≤ c' ∧ Kd.C (AppC.elder (feet k58 (okB w)) w2) W A' k (rs.drop (st.length - k)) ∧ farA w A' k, fun v W => ∃ b, v = .pointer (some ⟨b, 0, none⟩) ∧ w2.heap.size ≤ b ∧ W.heap[b]? = some (.cells #[.int .i64 0, .int .i64 0, .slice none 0 0] 58 (0, 0))] (fun i v => match i with | 11 => RegT.blS v | 12 => RegT.blL 2 v | 13 => RegT.blP v | _ => none) (fun i => match i with | 13 => true | _ => false) 14 ?hFR (by kernel_rfl) (by kernel_rfl) (by kernel_rfl) (by kernel_rfl) (by kernel_rfl) (by simp) ⟨fun _ _ _ h _ => h, fun _ _ _ h _ => h, fun _ _ _ h _ => h, fun _ _ _ h _ => h, fun _ _ _ h _ => h, fun _ _ _ h _ => h, fun _ _ _ h _ => h, fun _ _ _ h _ => h, fun _ _ _ h _ => h, fun _ _ _ h _ => h, fun _ _ _ h _ => h, fun _ _ _ ⟨A', c', h1, h2, h3, h4⟩ hb => ⟨A', c', h1, h2, Kd.C_below h3 hb, h4⟩, fun _ _ _ ⟨A', c', h1, h2, h3, h4⟩ hb => ⟨A', c', h1, h2, Kd.C_below h3 hb, h4⟩, fun _ _ _ ⟨b, h1, h2, h3⟩ hb => ⟨b, h1, h2, blk_below h3 hb⟩, trivial⟩ ?hSR ⟨?o0R, ?o1R, ?o2R, ?o3R, ?o4R, ?o5R, ?o6R, ?o7R, ?o8R, ?o9R, ?o10R, ?o11R, ?o12R, ?o13R, trivial⟩ ?hendR
        case hFR => intro f; (try simp only [List.take_succ_cons, List.take_zero, RegT.fillIn, RegT.fv, Act.put, List.setIfInBounds_toArray, List.set_cons_zero, List.set_cons_succ]); exact rfl
        case hSR => exact ⟨blk_drew HPB2.out, below_drew (Below.refl _ _)⟩
        case o0R =>
          intro f W1 hS hd ho_ K hK
          clear hd
          clear ho_
          (go_simp; exact hK.out (.pointer (some ⟨pb, 0, none⟩)) _ hS (Below.refl _ _) rfl (fun _ (h : (none : Option Nat) = some _) => by cases h) _ (by rfl))
        case o1R =>
          intro f W1 hS hd ho_ K hK
          obtain ⟨e38, -⟩ := hd
          clear ho_
          replace e38 : f 38 = .pointer (some ⟨pb, 0, none⟩) := e38
          have q0 : W1.cell? ⟨pb, 0, none⟩ = some (.int .i64 p.f0) := (blk_cell hS.1 0).trans rfl
          have q1 : W1.cell? ⟨pb, 1, none⟩ = some (.int .i64 p.f1) := (blk_cell hS.1 1).trans rfl
          (go_simp; exact hK.out (.int .i64 p.f0) _ hS (Below.refl _ _) rfl (fun _ (h : (none : Option Nat) = some _) => by cases h) _ (by first | (simp only [e38]; done) | (simp only [e38]; rfl) | rfl))
        case o2R =>
          intro f W1 hS hd ho_ K hK
          clear hd
          clear ho_
          (go_simp; exact hK.out (.pointer (some ⟨pb, 1, none⟩)) _ hS (Below.refl _ _) rfl (fun _ (h : (none : Option Nat) = some _) => by cases h) _ (by rfl))
        case o3R =>
          intro f W1 hS hd ho_ K hK
          obtain ⟨e40, -⟩ := hd
          clear ho_
          replace e40 : f 40 = .pointer (some ⟨pb, 1, none⟩) := e40
          have q0 : W1.cell? ⟨pb, 0, none⟩ = some (.int .i64 p.f0) := (blk_cell hS.1 0).trans rfl
          have q1 : W1.cell? ⟨pb, 1, none⟩ = some (.int .i64 p.f1) := (blk_cell hS.1 1).trans rfl
          (go_simp; exact hK.out (.int .i64 p.f1) _ hS (Below.refl _ _) rfl (fun _ (h : (none : Option Nat) = some _) => by cases h) _ (by first | (simp only [e40]; done) | (simp only [e40]; rfl) | rfl))
        case o4R =>
          intro f W1 hS hd ho_ K hK
          clear hd
          clear ho_
          go_simp
          exact hK.out (.slice (some ⟨W1.heap.size, 0, none⟩) 0 0) _ (stepP hS ((Below.refl _ _).alloc (Nat.le_refl _) _)) ((Below.refl _ _).alloc (Nat.le_refl _) _) ⟨_, rfl⟩ (fun _ (h : (none : Option Nat) = some _) => by cases h) _ (by rfl)
        case o5R =>
          intro f W1 hS hd ho_ K hK
          clear hd
          clear ho_
          (go_simp; exact hK.out (.slice B st.length cb) _ hS (Below.refl _ _) rfl (fun _ (h : (none : Option Nat) = some _) => by cases h) _ (by rfl))
        case o6R =>
          intro f W1 hS hd ho_ K hK
          clear hd
          clear ho_
          (go_simp; exact hK.out (.slice B st.length cb) _ hS (Below.refl _ _) rfl (fun _ (h : (none : Option Nat) = some _) => by cases h) _ (by rfl))
        case o7R =>
          intro f W1 hS hd ho_ K hK
          obtain ⟨e44, -⟩ := hd
          clear ho_
          replace e44 : f 44 = .slice B st.length cb := e44
          (go_simp; exact hK.out (.int .i64 (st.length : Int)) _ hS (Below.refl _ _) rfl (fun _ (h : (none : Option Nat) = some _) => by cases h) _ (by first | (simp only [e44]; done) | (simp only [e44]; rfl) | rfl))
        case o8R =>
          intro f W1 hS hd ho_ K hK
          clear hd
          clear ho_
          (go_simp; exact hK.out (.int .i64 (k : Int)) _ hS (Below.refl _ _) rfl (fun _ (h : (none : Option Nat) = some _) => by cases h) _ (by rfl))
        case o9R =>
          intro f W1 hS hd ho_ K hK
          obtain ⟨e45, e46, -⟩ := hd
          clear ho_
          replace e45 : f 45 = .int .i64 (st.length : Int) := e45
          replace e46 : f 46 = .int .i64 (k : Int) := e46
          have hw := sub_wrap st.length k hkn (by omega)
          (go_simp; exact hK.out (.int .i64 ((st.length : Int) - (k : Int))) _ hS (Below.refl _ _) rfl (fun _ (h : (none : Option Nat) = some _) => by cases h) _ (by first | (simp only [e45, e46, hw]; done) | (simp only [e45, e46, hw]; rfl) | rfl))
        case o10R =>
          intro f W1 hS hd ho_ K hK
          obtain ⟨e43, e47, -⟩ := hd
          clear ho_
          replace e43 : f 43 = .slice B st.length cb := e43
          replace e47 : f 47 = .int .i64 ((st.length : Int) - (k : Int)) := e47
          (go_simp; exact hK.out (.slice B2 k d2) _ hS (Below.refl _ _) rfl (fun _ (h : (none : Option Nat) = some _) => by cases h) _ (by first | (simp only [e43, e47]; done) | (simp only [e43, e47]; rfl) | rfl))
        case o11R =>
          intro f W1 hS hd ho_ K hK
          obtain ⟨e42, e48, -⟩ := hd
          clear ho_
          obtain ⟨b42, e42⟩ := e42
          replace e48 : f 48 = .slice B2 k d2 := e48
          refine AppC.step_full (AppC.elder (feet k58 (okB w)) w2) (by rfl) (.tmp 42) (.tmp 48) 56 58 (.agg #[.int .i64 0, .int .i64 0, .slice none 0 0]) 40 (by rfl) Tryd.underlying56 infoR rfl (by omega) (some ⟨b42, 0, none⟩) 0 [] B2 k d2 (rs.drop (st.length - k)) e42 e48 (AppC.C_empty _ _ _) (hcutRC _ hS.2) (by omega) ?_
          intro A1 c1 w1 hc hC hb hnew
          rw [List.nil_append] at hC
          simp only [Nat.zero_add] at hc hC ⊢
          exact hK.out (.slice A1 k c1) _ (stepP hS hb) hb ⟨A1, c1, rfl, hc, hC, far_new hnew (fun h => by omega) (by have := HBW2.out; have := hS.2.size; unfold okB at *; omega)⟩ (fun q hq => Or.inl (fresh_of hnew hq)) _ (by first | (simp only [e42, e48]; done) | (simp only [e42, e48]; rfl) | rfl)
        case o12R =>
          intro f W1 hS hd ho_ K hK
          obtain ⟨e39, e41, e49, -⟩ := hd
          clear ho_
          replace e39 : f 39 = .int .i64 p.f0 := e39
          replace e41 : f 41 = .int .i64 p.f1 := e41
          obtain ⟨A49, c49, e49, hc49, hC49, hF49⟩ := e49
          have hil := inh_of (f := f) (x := .int .i64 p.f0) (y := .int .i64 p.f1) (i := 11) (d := 49) (A := A49) (k := k) (c := c49) e49
          go_simp
          exact hK.out (.agg #[.int .i64 p.f0, .int .i64 p.f1, .slice A49 k c49]) _ hS (Below.refl _ _) ⟨_, _, rfl, hc49, hC49, hF49⟩ (fun q hq => Or.inr ⟨rfl, (11, 49), by simp [RegT.deps, Region.binds], rfl, hil q hq⟩) _ (by first | (simp only [e39, e41, e49]; done) | (simp only [e39, e41, e49]; rfl) | rfl)
        case o13R =>
          intro f W1 hS hd ho_ K hK
          clear hd
          clear ho_
          have hsz := hS.2.size
          have hnz := blk_new W1 (.cells #[.int .i64 0, .int .i64 0, .slice none 0 0] 58)
          go_simp
          exact hK.out (.pointer (some ⟨W1.heap.size, 0, none⟩)) _ (stepP hS ((Below.refl _ _).alloc (Nat.le_refl _) _)) ((Below.refl _ _).alloc (Nat.le_refl _) _) ⟨_, rfl, hsz, hnz⟩ (fun q hq => Or.inl (by have hq : some W1.heap.size = some q := hq; injection hq with hq; subst hq; exact ⟨Nat.le_refl _, by simp⟩)) _ (by rfl)
        case hendR =>
          intro f W1 hS hr hbl
          have e50 := hr 12 _ _ (by omega) rfl rfl
          obtain ⟨A50, c50, e50, hc50, hC50, hF50⟩ := e50
          have e10 := hr 13 _ _ (by omega) rfl rfl
          obtain ⟨b10, e10, hg10, hz10⟩ := e10
          have hap := fun q => hbl 12 13 _ _ 50 10 q (by decide) rfl (by omega) (by omega) rfl rfl rfl rfl
          simp only [e50, e10] at hap
          (try dsimp only)
          generalize f 50 = x50 at *
          subst e50
          generalize f 10 = x10 at *
          subst e10
          try simp only [List.drop_succ_cons, List.drop_zero]
          clear hcut hcutRC
          have hfz := fun i => blk_frozen hz10 i
          have hf0 := hfz 0
          have hf1 := hfz 1
          have hf2 := hfz 2
          have hy0 : W1.cell? ⟨b10, 0, none⟩ = some (.int .i64 0) := (blk_cell hz10 0).trans rfl
          have hy1 : W1.cell? ⟨b10, 1, none⟩ = some (.int .i64 0) := (blk_cell hz10 1).trans rfl
          have hy2 : W1.cell? ⟨b10, 2, none⟩ = some (.slice none 0 0) := (blk_cell hz10 2).trans rfl
          obtain ⟨hb3, hx3, hc3⟩ := boxed (x0 := .int .i64 p.f0) (x1 := .int .i64 p.f1) (x2 := .slice A50 k c50) hS.2 hg10 hz10 hC50 (ap_of hap)
          generalize hw3 : ((W1.setCell ⟨b10, 0, none⟩ (.int .i64 p.f0)).setCell ⟨b10, 1, none⟩ (.int .i64 p.f1)).setCell ⟨b10, 2, none⟩ (.slice A50 k c50) = w3 at hb3 hx3 hc3
          have hb23 := HB2.out.trans (hb3.mono HB2.out.size)
          have HI3 := Lib.hid (HI1.out.step hb23)
          have HX := Lib.hid (InX11.mk (w := w) (ws := w3) (p := p) (k := k) (st := st) (rs := rs) (A := A) (B := B) (x := ⟨p.f0, p.f1, st.drop (st.length - k)⟩) (y := ⟨p.f0, p.f1, rs.drop (st.length - k)⟩) (bx := b9) (by_ := b10) (Tx := A37) (tcx := c37) (Ty := A50) (tcy := c50) (W := w3) (Below.refl _ _) ⟨by have := HBW2.out; have := hb3.size; unfold okB at *; omega, Nat.le_refl _⟩ HI3.out.a.1 (by rw [HRS.out]; exact HI3.out.b.1) (blk_below HX2.out hb3) hx3 ⟨Kd.F_below HC2.out hb3, hc37, rfl, rfl⟩ ⟨F_of hc3 hF50, hc50, rfl, rfl⟩)
          clear hfz hb3 hx3 hc3 hap hbl hr hC50 hF50 hb23
          have hw3' := hw3
          go_wp2_with fail
          (try rw [hw3])
          clear hw3 hw3' hS hz10 hf0 hf1 hf2 hy0 hy1 hy2
          clear W1
          obtain ⟨x, hx⟩ : ∃ x : TTree, x = ⟨p.f0, p.f1, st.drop (st.length - k)⟩ := ⟨_, rfl⟩
          obtain ⟨y, hy⟩ : ∃ y : RTree, y = ⟨p.f0, p.f1, rs.drop (st.length - k)⟩ := ⟨_, rfl⟩
          rw [← hx, ← hy] at HX
          have HXE := Lib.hid hx
          have HYE := Lib.hid hy
          clear hx hy
          generalize hbx : b9 = bx at *
          generalize hby : b10 = by_ at *
          generalize hTx : A37 = Tx at *
          generalize hcx : c37 = tcx at *
          generalize hTy : A50 = Ty at *
          generalize hcy : c50 = tcy at *
          clear hbx hby hTx hcx hTy hcy
          have hcut := fun W => cut_head 53 55 Tryd.underlying53 HIT.out A st.length ca k hkn HI1.out.a.2 W
          have hcutR := fun W => cut_head 56 58 Tryd.underlying56 HIR.out B st.length cb k hkn HI1.out.b.2 W
          clear HI1 HI HB2 HX2 HC2 HPB HPB2 HWS HBW HBW2
          refine RegT.regionT (F := ?FZ) (InX11 w w3 p k st rs A B x y bx by_ Tx tcx Ty tcy) [fun v _ => v = .slice A st.length ca, fun v _ => v = .slice A st.length ca, fun v _ => v = .int .i64 (st.length : Int), fun v _ => v = .int .i64 (k : Int), fun v _ => v = .int .i64 ((st.length : Int) - (k : Int)), fun v _ => v = .slice A st.length ca, fun v _ => v = .int .i64 (st.length : Int), fun v _ => v = .int .i64 (k : Int), fun v _ => v = .int .i64 ((st.length : Int) - (k : Int)), fun v _ => v = .slice A (st.length - k) (st.length - k), fun v _ => v = .agg #[.int .i64 p.f0, .int .i64 p.f1, .slice Tx k tcx], fun v W => ∃ b, v = .slice (some ⟨b, 0, none⟩) 1 1 ∧ Kd.C (feet k55 (okB w)) W (some ⟨b, 0, none⟩) 1 [x], fun v W => ∃ A' c', v = .slice A' ((st.length - k) + 1) c' ∧ (st.length - k) + 1 ≤ c' ∧ Kd.C (feet k55 (okB w)) W A' ((st.length - k) + 1) (st.take (st.length - k) ++ [x]) ∧ farA w A' ((st.length - k) + 1), fun v _ => v = .slice B st.length cb, fun v _ => v = .slice B st.length cb, fun v _ => v = .int .i64 (st.length : Int), fun v _ => v = .int .i64 (k : Int), fun v _ => v = .int .i64 ((st.length : Int) - (k : Int)), fun v _ => v = .slice B st.length cb, fun v _ => v = .int .i64 (st.length : Int), fun v _ => v = .int .i64 (k : Int), fun v _ => v = .int .i64 ((st.length : Int) - (k : Int)), fun v _ => v = .slice B (st.length - k) (st.length - k), fun v _ => v = .agg #[.int .i64 p.f0, .int .i64 p.f1, .slice Ty k tcy], fun v W => ∃ b, v = .slice (some ⟨b, 0, none⟩) 1 1 ∧ Kd.C (feet k58 (okB w)) W (some ⟨b, 0, none⟩) 1 [y], fun v W => ∃ A' c', v = .slice A' ((st.length - k) + 1) c' ∧ (st.length - k) + 1 ≤ c' ∧ Kd.C (feet k58 (okB w)) W A' ((st.length - k) + 1) (rs.take (st.length - k) ++ [y]) ∧ farA w A' ((st.length - k) + 1)] (fun i v => match i with  | _ => none) (fun i => match i with  | _ => false) 26 ?hFZ (by kernel_rfl) (by kernel_rfl) (by kernel_rfl) (by kernel_rfl) (by kernel_rfl) (by simp) ⟨fun _ _ _ h _ => h, fun _ _ _ h _ => h, fun _ _ _ h _ => h, fun _ _ _ h _ => h, fun _ _ _ h _ => h, fun _ _ _ h _ => h, fun _ _ _ h _ => h, fun _ _ _ h _ => h, fun _ _ _ h _ => h, fun _ _ _ h _ => h, fun _ _ _ h _ => h, fun _ _ _ ⟨b, h1, h2⟩ hb => ⟨b, h1, Kd.C_below h2 hb⟩, fun _ _ _ ⟨A', c', h1, h2, h3, h4⟩ hb => ⟨A', c', h1, h2, Kd.C_below h3 hb, h4⟩, fun _ _ _ h _ => h, fun _ _ _ h _ => h, fun _ _ _ h _ => h, fun _ _ _ h _ => h, fun _ _ _ h _ => h, fun _ _ _ h _ => h, fun _ _ _ h _ => h, fun _ _ _ h _ => h, fun _ _ _ h _ => h, fun _ _ _ h _ => h, fun _ _ _ h _ => h, fun _ _ _ ⟨b, h1, h2⟩ hb => ⟨b, h1, Kd.C_below h2 hb⟩, fun _ _ _ ⟨A', c', h1, h2, h3, h4⟩ hb => ⟨A', c', h1, h2, Kd.C_below h3 hb, h4⟩, trivial⟩ ?hSZ ⟨?o0Z, ?o1Z, ?o2Z, ?o3Z, ?o4Z, ?o5Z, ?o6Z, ?o7Z, ?o8Z, ?o9Z, ?o10Z, ?o11Z, ?o12Z, ?o13Z, ?o14Z, ?o15Z, ?o16Z, ?o17Z, ?o18Z, ?o19Z, ?o20Z, ?o21Z, ?o22Z, ?o23Z, ?o24Z, ?o25Z, trivial⟩ ?hendZ
          case hFZ => intro f; (try simp only [List.take_succ_cons, List.take_zero, RegT.fillIn, RegT.fv, Act.put, List.setIfInBounds_toArray, List.set_cons_zero, List.set_cons_succ]); exact rfl
          case hSZ => exact HX.out.step (below_drew (Below.refl _ _))
          case o0Z =>
            intro f W1 hS hd ho_ K hK
            clear hd
            clear ho_
            (go_simp; exact hK.out (.slice A st.length ca) _ hS (Below.refl _ _) rfl (fun _ (h : (none : Option Nat) = some _) => by cases h) _ (by rfl))
          case o1Z =>
            intro f W1 hS hd ho_ K hK
            clear hd
            clear ho_
            (go_simp; exact hK.out (.slice A st.length ca) _ hS (Below.refl _ _) rfl (fun _ (h : (none : Option Nat) = some _) => by cases h) _ (by rfl))
          case o2Z =>
            intro f W1 hS hd ho_ K hK
            obtain ⟨e52, -⟩ := hd
            clear ho_
            replace e52 : f 52 = .slice A st.length ca := e52
            (go_simp; exact hK.out (.int .i64 (st.length : Int)) _ hS (Below.refl _ _) rfl (fun _ (h : (none : Option Nat) = some _) => by cases h) _ (by first | (simp only [e52]; done) | (simp only [e52]; rfl) | rfl))
          case o3Z =>
            intro f W1 hS hd ho_ K hK
            clear hd
            clear ho_
            (go_simp; exact hK.out (.int .i64 (k : Int)) _ hS (Below.refl _ _) rfl (fun _ (h : (none : Option Nat) = some _) => by cases h) _ (by rfl))
          case o4Z =>
            intro f W1 hS hd ho_ K hK
            obtain ⟨e53, e54, -⟩ := hd
            clear ho_
            replace e53 : f 53 = .int .i64 (st.length : Int) := e53
            replace e54 : f 54 = .int .i64 (k : Int) := e54
            have hw := sub_wrap st.length k hkn (by omega)
            (go_simp; exact hK.out (.int .i64 ((st.length : Int) - (k : Int))) _ hS (Below.refl _ _) rfl (fun _ (h : (none : Option Nat) = some _) => by cases h) _ (by first | (simp only [e53, e54, hw]; done) | (simp only [e53, e54, hw]; rfl) | rfl))
          case o5Z =>
            intro f W1 hS hd ho_ K hK
            clear hd
            clear ho_
            (go_simp; exact hK.out (.slice A st.length ca) _ hS (Below.refl _ _) rfl (fun _ (h : (none : Option Nat) = some _) => by cases h) _ (by rfl))
          case o6Z =>
            intro f W1 hS hd ho_ K hK
            obtain ⟨e56, -⟩ := hd
            clear ho_
            replace e56 : f 56 = .slice A st.length ca := e56
            (go_simp; exact hK.out (.int .i64 (st.length : Int)) _ hS (Below.refl _ _) rfl (fun _ (h : (none : Option Nat) = some _) => by cases h) _ (by first | (simp only [e56]; done) | (simp only [e56]; rfl) | rfl))
          case o7Z =>
            intro f W1 hS hd ho_ K hK
            clear hd
            clear ho_
            (go_simp; exact hK.out (.int .i64 (k : Int)) _ hS (Below.refl _ _) rfl (fun _ (h : (none : Option Nat) = some _) => by cases h) _ (by rfl))
          case o8Z =>
            intro f W1 hS hd ho_ K hK
            obtain ⟨e57, e58, -⟩ := hd
            clear ho_
            replace e57 : f 57 = .int .i64 (st.length : Int) := e57
            replace e58 : f 58 = .int .i64 (k : Int) := e58
            have hw := sub_wrap st.length k hkn (by omega)
            (go_simp; exact hK.out (.int .i64 ((st.length : Int) - (k : Int))) _ hS (Below.refl _ _) rfl (fun _ (h : (none : Option Nat) = some _) => by cases h) _ (by first | (simp only [e57, e58, hw]; done) | (simp only [e57, e58, hw]; rfl) | rfl))
          case o9Z =>
            intro f W1 hS hd ho_ K hK
            obtain ⟨e51, e55, e59, -⟩ := hd
            clear ho_
            replace e51 : f 51 = .slice A st.length ca := e51
            replace e55 : f 55 = .int .i64 ((st.length : Int) - (k : Int)) := e55
            replace e59 : f 59 = .int .i64 ((st.length : Int) - (k : Int)) := e59
            (go_simp; exact hK.out (.slice A (st.length - k) (st.length - k)) _ hS (Below.refl _ _) rfl (fun _ (h : (none : Option Nat) = some _) => by cases h) _ (by first | (simp only [e51, e55, e59]; done) | (simp only [e51, e55, e59]; rfl) | rfl))
          case o10Z =>
            intro f W1 hS hd ho_ K hK
            clear hd
            clear ho_
            have q0 := hS.x0
            have q1 := hS.x1
            have q2 := hS.x2
            have q3 := hS.y0
            have q4 := hS.y1
            have q5 := hS.y2
            (go_simp; exact hK.out (.agg #[.int .i64 p.f0, .int .i64 p.f1, .slice Tx k tcx]) _ hS (Below.refl _ _) rfl (fun _ (h : (none : Option Nat) = some _) => by cases h) _ (by rfl))
          case o11Z =>
            intro f W1 hS hd ho_ K hK
            obtain ⟨e61, -⟩ := hd
            clear ho_
            replace e61 : f 61 = .agg #[.int .i64 p.f0, .int .i64 p.f1, .slice Tx k tcx] := e61
            have h1 := AppC.one_C (feet k55 (okB w)) W1 55 x [.int .i64 p.f0, .int .i64 p.f1, .slice Tx k tcx] hS.xk
            go_simp
            exact hK.out (.slice (some ⟨W1.heap.size, 0, none⟩) 1 1) _ (InX11.step hS ((Below.refl _ _).alloc (Nat.le_refl _) _)) ((Below.refl _ _).alloc (Nat.le_refl _) _) ⟨_, rfl, h1⟩ (fun _ (h : (none : Option Nat) = some _) => by cases h) _ (by first | (simp only [e61]; done) | (simp only [e61]; rfl) | rfl)
          case o12Z =>
            intro f W1 hS hd ho_ K hK
            obtain ⟨e60, e62, -⟩ := hd
            clear ho_
            replace e60 : f 60 = .slice A (st.length - k) (st.length - k) := e60
            obtain ⟨b62, e62, hC62⟩ := e62
            refine AppC.step_full (feet k55 (okB w)) (by rfl) (.tmp 60) (.tmp 62) 53 55 (.agg #[.int .i64 0, .int .i64 0, .slice none 0 0]) 40 (by rfl) Tryd.underlying53 infoT rfl (by omega) A (st.length - k) (st.take (st.length - k)) (some ⟨b62, 0, none⟩) 1 1 [x] e60 e62 (hS.sk k) hC62 (by omega) ?_
            intro A1 c1 w1 hc hC hb hnew
            exact hK.out (.slice A1 ((st.length - k) + 1) c1) _ (InX11.step hS hb) hb ⟨A1, c1, rfl, hc, hC, far_new hnew (fun _ => by omega) (by have := hS.big; unfold okB at *; omega)⟩ (fun _ (h : (none : Option Nat) = some _) => by cases h) _ (by first | (simp only [e60, e62]; done) | (simp only [e60, e62]; rfl) | rfl)
          case o13Z =>
            intro f W1 hS hd ho_ K hK
            clear hd
            clear ho_
            (go_simp; exact hK.out (.slice B st.length cb) _ hS (Below.refl _ _) rfl (fun _ (h : (none : Option Nat) = some _) => by cases h) _ (by rfl))
          case o14Z =>
            intro f W1 hS hd ho_ K hK
            clear hd
            clear ho_
            (go_simp; exact hK.out (.slice B st.length cb) _ hS (Below.refl _ _) rfl (fun _ (h : (none : Option Nat) = some _) => by cases h) _ (by rfl))
          case o15Z =>
            intro f W1 hS hd ho_ K hK
            obtain ⟨e65, -⟩ := hd
            clear ho_
            replace e65 : f 65 = .slice B st.length cb := e65
            (go_simp; exact hK.out (.int .i64 (st.length : Int)) _ hS (Below.refl _ _) rfl (fun _ (h : (none : Option Nat) = some _) => by cases h) _ (by first | (simp only [e65]; done) | (simp only [e65]; rfl) | rfl))
          case o16Z =>
            intro f W1 hS hd ho_ K hK
            clear hd
            clear ho_
            (go_simp; exact hK.out (.int .i64 (k : Int)) _ hS (Below.refl _ _) rfl (fun _ (h : (none : Option Nat) = some _) => by cases h) _ (by rfl))
          case o17Z =>
            intro f W1 hS hd ho_ K hK
            obtain ⟨e66, e67, -⟩ := hd
            clear ho_
            replace e66 : f 66 = .int .i64 (st.length : Int) := e66
            replace e67 : f 67 = .int .i64 (k : Int) := e67
            have hw := sub_wrap st.length k hkn (by omega)
            (go_simp; exact hK.out (.int .i64 ((st.length : Int) - (k : Int))) _ hS (Below.refl _ _) rfl (fun _ (h : (none : Option Nat) = some _) => by cases h) _ (by first | (simp only [e66, e67, hw]; done) | (simp only [e66, e67, hw]; rfl) | rfl))
          case o18Z =>
            intro f W1 hS hd ho_ K hK
            clear hd
            clear ho_
            (go_simp; exact hK.out (.slice B st.length cb) _ hS (Below.refl _ _) rfl (fun _ (h : (none : Option Nat) = some _) => by cases h) _ (by rfl))
          case o19Z =>
            intro f W1 hS hd ho_ K hK
            obtain ⟨e69, -⟩ := hd
            clear ho_
            replace e69 : f 69 = .slice B st.length cb := e69
            (go_simp; exact hK.out (.int .i64 (st.length : Int)) _ hS (Below.refl _ _) rfl (fun _ (h : (none : Option Nat) = some _) => by cases h) _ (by first | (simp only [e69]; done) | (simp only [e69]; rfl) | rfl))
          case o20Z =>
            intro f W1 hS hd ho_ K hK
            clear hd
            clear ho_
            (go_simp; exact hK.out (.int .i64 (k : Int)) _ hS (Below.refl _ _) rfl (fun _ (h : (none : Option Nat) = some _) => by cases h) _ (by rfl))
          case o21Z =>
            intro f W1 hS hd ho_ K hK
            obtain ⟨e70, e71, -⟩ := hd
            clear ho_
            replace e70 : f 70 = .int .i64 (st.length : Int) := e70
            replace e71 : f 71 = .int .i64 (k : Int) := e71
            have hw := sub_wrap st.length k hkn (by omega)
            (go_simp; exact hK.out (.int .i64 ((st.length : Int) - (k : Int))) _ hS (Below.refl _ _) rfl (fun _ (h : (none : Option Nat) = some _) => by cases h) _ (by first | (simp only [e70, e71, hw]; done) | (simp only [e70, e71, hw]; rfl) | rfl))
          case o22Z =>
            intro f W1 hS hd ho_ K hK
            obtain ⟨e64, e68, e72, -⟩ := hd
            clear ho_
            replace e64 : f 64 = .slice B st.length cb := e64
            replace e68 : f 68 = .int .i64 ((st.length : Int) - (k : Int)) := e68
            replace e72 : f 72 = .int .i64 ((st.length : Int) - (k : Int)) := e72
            (go_simp; exact hK.out (.slice B (st.length - k) (st.length - k)) _ hS (Below.refl _ _) rfl (fun _ (h : (none : Option Nat) = some _) => by cases h) _ (by first | (simp only [e64, e68, e72]; done) | (simp only [e64, e68, e72]; rfl) | rfl))
          case o23Z =>
            intro f W1 hS hd ho_ K hK
            clear hd
            clear ho_
            have q0 := hS.x0
            have q1 := hS.x1
            have q2 := hS.x2
            have q3 := hS.y0
            have q4 := hS.y1
            have q5 := hS.y2
            (go_simp; exact hK.out (.agg #[.int .i64 p.f0, .int .i64 p.f1, .slice Ty k tcy]) _ hS (Below.refl _ _) rfl (fun _ (h : (none : Option Nat) = some _) => by cases h) _ (by rfl))
          case o24Z =>
            intro f W1 hS hd ho_ K hK
            obtain ⟨e74, -⟩ := hd
            clear ho_
            replace e74 : f 74 = .agg #[.int .i64 p.f0, .int .i64 p.f1, .slice Ty k tcy] := e74
            have h1 := AppC.one_C (feet k58 (okB w)) W1 58 y [.int .i64 p.f0, .int .i64 p.f1, .slice Ty k tcy] hS.yk
            go_simp
            exact hK.out (.slice (some ⟨W1.heap.size, 0, none⟩) 1 1) _ (InX11.step hS ((Below.refl _ _).alloc (Nat.le_refl _) _)) ((Below.refl _ _).alloc (Nat.le_refl _) _) ⟨_, rfl, h1⟩ (fun _ (h : (none : Option Nat) = some _) => by cases h) _ (by first | (simp only [e74]; done) | (simp only [e74]; rfl) | rfl)
          case o25Z =>
            intro f W1 hS hd ho_ K hK
            obtain ⟨e73, e75, -, -⟩ := hd
            clear ho_
            replace e73 : f 73 = .slice B (st.length - k) (st.length - k) := e73
            obtain ⟨b75, e75, hC75⟩ := e75
            refine AppC.step_full (feet k58 (okB w)) (by rfl) (.tmp 73) (.tmp 75) 56 58 (.agg #[.int .i64 0, .int .i64 0, .slice none 0 0]) 40 (by rfl) Tryd.underlying56 infoR rfl (by omega) B (st.length - k) (rs.take (st.length - k)) (some ⟨b75, 0, none⟩) 1 1 [y] e73 e75 (hS.rk k) hC75 (by omega) ?_
            intro A1 c1 w1 hc hC hb hnew
            exact hK.out (.slice A1 ((st.length - k) + 1) c1) _ (InX11.step hS hb) hb ⟨A1, c1, rfl, hc, hC, far_new hnew (fun _ => by omega) (by have := hS.big; unfold okB at *; omega)⟩ (fun _ (h : (none : Option Nat) = some _) => by cases h) _ (by first | (simp only [e73, e75]; done) | (simp only [e73, e75]; rfl) | rfl)
          case hendZ =>
            intro f W1 hS hr hbl
            have e63 := hr 12 _ _ (by omega) rfl rfl
            obtain ⟨A63, c63, e63, hc63, hC63, hF63⟩ := e63
            have e76 := hr 25 _ _ (by omega) rfl rfl
            obtain ⟨B76, c76, e76, hc76, hC76, hF76⟩ := e76
            (try dsimp only)
            generalize f 63 = x63 at *
            subst e63
            generalize f 76 = x76 at *
            subst e76
            try simp only [List.drop_succ_cons, List.drop_zero]
            clear hcut hcutR
            have HI4 : Hid (InBd w (bStep st p) A63 c63 B76 c76 W1) := Lib.hid (by
              have hl : (bStep st p).length = st.length - k + 1 := by simp only [bStep, ← HKB.out, List.length_append, List.length_take, List.length_singleton]; omega
              have ht : toRs (bStep st p) = rs.take (st.length - k) ++ [y] := by rw [toRs_map, bStep, ← HKB.out, List.map_append, HYE.out, HRS.out, toRs_map, List.map_take]; simp [toR, toRs_map, List.map_drop]
              refine ⟨HI3.out.bel.trans (hS.bel.mono HI3.out.bel.size), ?_, ?_, ?_, ?_⟩
              · exact blk_below HI3.out.z2 hS.bel
              · exact blk_below HI3.out.z3 hS.bel
              · rw [hl]
                refine ⟨?_, hc63⟩
                have := F_of hC63 hF63
                rw [HXE.out] at this
                unfold bStep
                rw [← HKB.out]
                exact this
              · rw [hl, ht]
                exact ⟨F_of hC76 hF76, hc76⟩)
            have HL4 : Hid ((bStep st p).length = st.length - k + 1) := Lib.hid (by simp only [bStep, ← HKB.out, List.length_append, List.length_take, List.length_singleton]; omega)
            rw [← HL4.out]
            have hjr : (j : Int) + 1 ≤ 2000001 := by omega
            clear hS hr hbl hC63 hC76 hF63 hF76 HX HXE HYE HRS HI3 HKB
            go_wp2
            case roundEnd =>
              refine ⟨⟨j + 1, bStep st p, A63, c63, B76, c76, rfl, rfl, by go_num, HJ.out, HO2, Lib.hid (by have := HL4.out; have := HSJ.out; omega), HI4⟩, ?_⟩
              have := HJ.out
              simp [intOf]
              omega
    · obtain rfl : j = l.length := by omega
      have HF2 : Hid (st = fin) := Lib.hid (by have := HO.out; rwa [List.drop_length, bAll] at this)
      have hst0 : st.length ≠ 0 := by rw [HF2.out]; exact fun h => HNE.out (List.eq_nil_of_length_eq_zero h)
      obtain ⟨m, hm⟩ : ∃ m, st.length = m + 1 := ⟨st.length - 1, by omega⟩
      have hn : st.length ≤ 2000000 := by have := HSJ.out; omega
      have hst1 : ((st.length : Int) == 0) = false := by simp only [beq_eq_false_iff_ne, ne_eq]; omega
      have HM := Lib.hid hm
      obtain ⟨ad, T, tc, eA, x0, x1, x2, htc, hTt, hfa⟩ := at_farT HI.out.a.1 m (by omega)
      obtain ⟨bd, R, rc, eB, y0, y1, y2, hrc, hRr, hfb⟩ := at_farR HI.out.b.1 m (by omega)
      obtain ⟨t, ht⟩ : ∃ t, t = st.getD m z55 := ⟨_, rfl⟩
      have hur : (toRs st).getD m z58 = toR t := by
        have h1 : m < st.length := by omega
        rw [ht, toRs_map, List.getD_eq_getElem?_getD, List.getD_eq_getElem?_getD, List.getElem?_map, List.getElem?_eq_getElem h1]; rfl
      have HLA : Hid (fin.getLast? = some t) := Lib.hid (by
        have h1 : m < st.length := by omega
        rw [← HF2.out, List.getLast?_eq_getElem?, ht, List.getD_eq_getElem?_getD, show st.length - 1 = m by omega, List.getElem?_eq_getElem h1]; rfl)
      rw [← ht] at x0 x1 x2 htc hTt
      rw [hur] at y0 y1 y2 hrc hRr
      subst eA
      subst eB
      have HE := Lib.hid (InEnd.mk (w := w) (t := t) (u := toR t) HI.out.bel ⟨_, _, _, HI.out.z2⟩ HI.out.z3 x0 x1 x2 y0 y1 y2 ⟨hfa, hfb⟩ ⟨hTt, htc⟩ ⟨hRr, hrc⟩)
      have hj0 : 0 ≤ (m : Int) := Int.natCast_nonneg _
      have hj1 : (m : Int) < (st.length : Int) := by omega
      clear x0 x1 x2 y0 y1 y2 hfa hfb hTt htc hRr hrc HO HI ht hur hm hst0 hj hjl
      go_wp2_with fail
      clear hst1
      (try generalize ((st.length : Int) == 0) = bb0)
      refine RegT.regionE (E := (fun W W' => W.heap.size ≤ W'.heap.size ∧ (W.heap[w.heap.size]? = some (.cells #[.int .i64 t.f0, .int .i64 t.f1, .slice T t.f2.length tc] 55 (0, 0)) → W'.heap[w.heap.size]? = some (.cells #[.int .i64 t.f0, .int .i64 t.f1, .slice T t.f2.length tc] 55 (0, 0))))) (fun _ _ h => h.1) (F := ?FE) (InEnd w t (toR t) (ad.add (m * 3)) (bd.add (m * 3)) T tc R rc) [fun v _ => v = .slice (some ad) st.length ca, fun v _ => v = .slice (some ad) st.length ca, fun v _ => v = .int .i64 (st.length : Int), fun v _ => v = .int .i64 (m : Int), fun v _ => v = .pointer (some (ad.add (m * 3))), fun v _ => v = .agg #[.int .i64 t.f0, .int .i64 t.f1, .slice T t.f2.length tc], fun v _ => v = .slice (some bd) st.length cb, fun v _ => v = .slice (some bd) st.length cb, fun v _ => v = .int .i64 (st.length : Int), fun v _ => v = .int .i64 (m : Int), fun v _ => v = .pointer (some (bd.add (m * 3))), fun v _ => v = .agg #[.int .i64 (toR t).f0, .int .i64 (toR t).f1, .slice R (toR t).f2.length rc], fun _ W => W.heap[w.heap.size]? = some (.cells #[.int .i64 t.f0, .int .i64 t.f1, .slice T t.f2.length tc] 55 (0, 0))] (fun i v => match i with  | _ => none) (fun i => match i with  | _ => false) 13 ?hFE (by kernel_rfl) (by kernel_rfl) (by kernel_rfl) (by kernel_rfl) (by kernel_rfl) (by simp) ⟨fun _ _ _ h _ => h, fun _ _ _ h _ => h, fun _ _ _ h _ => h, fun _ _ _ h _ => h, fun _ _ _ h _ => h, fun _ _ _ h _ => h, fun _ _ _ h _ => h, fun _ _ _ h _ => h, fun _ _ _ h _ => h, fun _ _ _ h _ => h, fun _ _ _ h _ => h, fun _ _ _ h _ => h, fun _ _ _ h hb => hb.2 h, trivial⟩ ?hSE ⟨?o0E, ?o1E, ?o2E, ?o3E, ?o4E, ?o5E, ?o6E, ?o7E, ?o8E, ?o9E, ?o10E, ?o11E, ?o12E, trivial⟩ ?hendE
      case hFE => intro f; (try simp only [List.take_succ_cons, List.take_zero, RegT.fillIn, RegT.fv, Act.put, List.setIfInBounds_toArray, List.set_cons_zero, List.set_cons_succ]); exact rfl
      case hSE => exact HE.out.drew
      case o0E =>
        intro f W1 hS hd ho_ K hK
        clear hd
        clear ho_
        (go_simp; exact hK.out (.slice (some ad) st.length ca) _ hS ⟨Nat.le_refl _, fun h => h⟩ rfl (fun _ (h : (none : Option Nat) = some _) => by cases h) _ (by rfl))
      case o1E =>
        intro f W1 hS hd ho_ K hK
        clear hd
        clear ho_
        (go_simp; exact hK.out (.slice (some ad) st.length ca) _ hS ⟨Nat.le_refl _, fun h => h⟩ rfl (fun _ (h : (none : Option Nat) = some _) => by cases h) _ (by rfl))
      case o2E =>
        intro f W1 hS hd ho_ K hK
        obtain ⟨e84, -⟩ := hd
        clear ho_
        replace e84 : f 84 = .slice (some ad) st.length ca := e84
        (go_simp; exact hK.out (.int .i64 (st.length : Int)) _ hS ⟨Nat.le_refl _, fun h => h⟩ rfl (fun _ (h : (none : Option Nat) = some _) => by cases h) _ (by first | (simp only [e84]; done) | (simp only [e84]; rfl) | rfl))
      case o3E =>
        intro f W1 hS hd ho_ K hK
        obtain ⟨e85, -⟩ := hd
        clear ho_
        replace e85 : f 85 = .int .i64 (st.length : Int) := e85
        have hw : IntKind.i64.wrap ((st.length : Int) - 1) = (m : Int) := by rw [HM.out, IntWalk.i64_in _ (by omega)]; omega
        (go_simp; exact hK.out (.int .i64 (m : Int)) _ hS ⟨Nat.le_refl _, fun h => h⟩ rfl (fun _ (h : (none : Option Nat) = some _) => by cases h) _ (by first | (simp only [e85, hw]; done) | (simp only [e85, hw]; rfl) | rfl))
      case o4E =>
        intro f W1 hS hd ho_ K hK
        obtain ⟨e83, e86, -⟩ := hd
        clear ho_
        replace e83 : f 83 = .slice (some ad) st.length ca := e83
        replace e86 : f 86 = .int .i64 (m : Int) := e86
        (go_simp; exact hK.out (.pointer (some (ad.add (m * 3)))) _ hS ⟨Nat.le_refl _, fun h => h⟩ rfl (fun _ (h : (none : Option Nat) = some _) => by cases h) _ (by first | (simp only [e83, e86]; done) | (simp only [e83, e86]; rfl) | rfl))
      case o5E =>
        intro f W1 hS hd ho_ K hK
        obtain ⟨e87, -⟩ := hd
        clear ho_
        replace e87 : f 87 = .pointer (some (ad.add (m * 3))) := e87
        have q0 := hS.x0
        have q1 := hS.x1
        have q2 := hS.x2
        have q3 := hS.y0
        have q4 := hS.y1
        have q5 := hS.y2
        (go_simp; exact hK.out (.agg #[.int .i64 t.f0, .int .i64 t.f1, .slice T t.f2.length tc]) _ hS ⟨Nat.le_refl _, fun h => h⟩ rfl (fun _ (h : (none : Option Nat) = some _) => by cases h) _ (by first | (simp only [e87]; done) | (simp only [e87]; rfl) | rfl))
      case o6E =>
        intro f W1 hS hd ho_ K hK
        clear hd
        clear ho_
        (go_simp; exact hK.out (.slice (some bd) st.length cb) _ hS ⟨Nat.le_refl _, fun h => h⟩ rfl (fun _ (h : (none : Option Nat) = some _) => by cases h) _ (by rfl))
      case o7E =>
        intro f W1 hS hd ho_ K hK
        clear hd
        clear ho_
        (go_simp; exact hK.out (.slice (some bd) st.length cb) _ hS ⟨Nat.le_refl _, fun h => h⟩ rfl (fun _ (h : (none : Option Nat) = some _) => by cases h) _ (by rfl))
      case o8E =>
        intro f W1 hS hd ho_ K hK
        obtain ⟨e90, -⟩ := hd
        clear ho_
        replace e90 : f 90 = .slice (some bd) st.length cb := e90
        (go_simp; exact hK.out (.int .i64 (st.length : Int)) _ hS ⟨Nat.le_refl _, fun h => h⟩ rfl (fun _ (h : (none : Option Nat) = some _) => by cases h) _ (by first | (simp only [e90]; done) | (simp only [e90]; rfl) | rfl))
      case o9E =>
        intro f W1 hS hd ho_ K hK
        obtain ⟨e91, -⟩ := hd
        clear ho_
        replace e91 : f 91 = .int .i64 (st.length : Int) := e91
        have hw : IntKind.i64.wrap ((st.length : Int) - 1) = (m : Int) := by rw [HM.out, IntWalk.i64_in _ (by omega)]; omega
        (go_simp; exact hK.out (.int .i64 (m : Int)) _ hS ⟨Nat.le_refl _, fun h => h⟩ rfl (fun _ (h : (none : Option Nat) = some _) => by cases h) _ (by first | (simp only [e91, hw]; done) | (simp only [e91, hw]; rfl) | rfl))
      case o10E =>
        intro f W1 hS hd ho_ K hK
        obtain ⟨e89, e92, -⟩ := hd
        clear ho_
        replace e89 : f 89 = .slice (some bd) st.length cb := e89
        replace e92 : f 92 = .int .i64 (m : Int) := e92
        (go_simp; exact hK.out (.pointer (some (bd.add (m * 3)))) _ hS ⟨Nat.le_refl _, fun h => h⟩ rfl (fun _ (h : (none : Option Nat) = some _) => by cases h) _ (by first | (simp only [e89, e92]; done) | (simp only [e89, e92]; rfl) | rfl))
      case o11E =>
        intro f W1 hS hd ho_ K hK
        obtain ⟨e93, -⟩ := hd
        clear ho_
        replace e93 : f 93 = .pointer (some (bd.add (m * 3))) := e93
        have q0 := hS.x0
        have q1 := hS.x1
        have q2 := hS.x2
        have q3 := hS.y0
        have q4 := hS.y1
        have q5 := hS.y2
        (go_simp; exact hK.out (.agg #[.int .i64 (toR t).f0, .int .i64 (toR t).f1, .slice R (toR t).f2.length rc]) _ hS ⟨Nat.le_refl _, fun h => h⟩ rfl (fun _ (h : (none : Option Nat) = some _) => by cases h) _ (by first | (simp only [e93]; done) | (simp only [e93]; rfl) | rfl))
      case o12E =>
        intro f W1 hS hd ho_ K hK
        obtain ⟨e88, -, -, -, -, -, -, -⟩ := hd
        clear ho_
        replace e88 : f 88 = .agg #[.int .i64 t.f0, .int .i64 t.f1, .slice T t.f2.length tc] := e88
        obtain ⟨z0, z1, z2, hz⟩ := hS.z2
        have hfz := fun i => blk_frozen hz i
        have hf0 := hfz 0
        have hf1 := hfz 1
        have hf2 := hfz 2
        have hy0 : W1.cell? ⟨w.heap.size, 0, none⟩ = some z0 := (blk_cell hz 0).trans rfl
        have hy1 : W1.cell? ⟨w.heap.size, 1, none⟩ = some z1 := (blk_cell hz 1).trans rfl
        have hy2 : W1.cell? ⟨w.heap.size, 2, none⟩ = some z2 := (blk_cell hz 2).trans rfl
        have hh := blk_set (blk_set (blk_set hz 0 (.int .i64 t.f0)) 1 (.int .i64 t.f1)) 2 (.slice T t.f2.length tc)
        have hS3 := ((hS.set 0 (.int .i64 t.f0) (by decide)).set 1 (.int .i64 t.f1) (by decide)).set 2 (.slice T t.f2.length tc) (by decide)
        clear hfz
        go_simp
        exact hK.out undef _ hS3 ⟨by simp, fun _ => hh⟩ hh (fun _ (h : (none : Option Nat) = some _) => by cases h) _ (by first | (simp only [e88]; done) | (simp only [e88]; rfl) | rfl)
      case hendE =>
        intro f W1 hS hr hrn hbl
        have e94 := hr 11 _ _ (by omega) rfl rfl
        replace e94 : f 94 = .agg #[.int .i64 (toR t).f0, .int .i64 (toR t).f1, .slice R (toR t).f2.length rc] := e94
        (try dsimp only)
        generalize f 94 = x94 at *
        subst e94
        try simp only [List.drop_succ_cons, List.drop_zero]
        obtain ⟨_, hz2⟩ := hrn 12 _ (by omega) rfl rfl
        replace hz2 : W1.heap[w.heap.size]? = some (.cells #[.int .i64 t.f0, .int .i64 t.f1, .slice T t.f2.length tc] 55 (0, 0)) := hz2
        have hz := hS.z3
        have hfz := fun i => blk_frozen hz i
        have hf0 := hfz 0
        have hf1 := hfz 1
        have hf2 := hfz 2
        have hy0 : W1.cell? ⟨w.heap.size + 1, 0, none⟩ = some (.int .i64 0) := (blk_cell hz 0).trans rfl
        have hy1 : W1.cell? ⟨w.heap.size + 1, 1, none⟩ = some (.int .i64 0) := (blk_cell hz 1).trans rfl
        have hy2 : W1.cell? ⟨w.heap.size + 1, 2, none⟩ = some (.slice none 0 0) := (blk_cell hz 2).trans rfl
        have hh := blk_set (blk_set (blk_set hz 0 (.int .i64 (toR t).f0)) 1 (.int .i64 (toR t).f1)) 2 (.slice R (toR t).f2.length rc)
        have hh2 := blk_far (blk_far (blk_far hz2 (p := ⟨w.heap.size + 1, 0, none⟩) (by simp) (.int .i64 (toR t).f0)) (p := ⟨w.heap.size + 1, 1, none⟩) (by simp) (.int .i64 (toR t).f1)) (p := ⟨w.heap.size + 1, 2, none⟩) (by simp) (.slice R (toR t).f2.length rc)
        have hfar : ∀ (i k : Nat), okB w k → k ≠ (⟨w.heap.size + 1, i, none⟩ : Addr).block := fun i k hk e => by unfold okB at hk; simp only at e; omega
        have hT3 := Kd.F_now (Kd.F_far (Kd.F_far (Kd.F_far hS.c.1 (p := ⟨w.heap.size + 1, 0, none⟩) (hfar 0) (.int .i64 (toR t).f0)) (p := ⟨w.heap.size + 1, 1, none⟩) (hfar 1) (.int .i64 (toR t).f1)) (p := ⟨w.heap.size + 1, 2, none⟩) (hfar 2) (.slice R (toR t).f2.length rc))
        have hR3 := Kd.F_now (Kd.F_far (Kd.F_far (Kd.F_far hS.r.1 (p := ⟨w.heap.size + 1, 0, none⟩) (hfar 0) (.int .i64 (toR t).f0)) (p := ⟨w.heap.size + 1, 1, none⟩) (hfar 1) (.int .i64 (toR t).f1)) (p := ⟨w.heap.size + 1, 2, none⟩) (hfar 2) (.slice R (toR t).f2.length rc))
        have hb3 : Below w.heap.size w (((W1.setCell ⟨w.heap.size + 1, 0, none⟩ (.int .i64 (toR t).f0)).setCell ⟨w.heap.size + 1, 1, none⟩ (.int .i64 (toR t).f1)).setCell ⟨w.heap.size + 1, 2, none⟩ (.slice R (toR t).f2.length rc)) := ((hS.bel.setCell (by simp) _).setCell (by simp) _).setCell (by simp) _
        have HH := Lib.hid hh
        have HH2 := Lib.hid hh2
        have HT3 := Lib.hid hT3
        have HR3 := Lib.hid hR3
        have HB3 := Lib.hid hb3
        have HTC := Lib.hid hS.c.2
        have HRC := Lib.hid hS.r.2
        clear hh hh2 hT3 hR3 hb3 hfar hfz hz2 hr hrn hbl hS
        go_wp2
        refine bodyPost_ret (results_two rfl _ _ w.heap.size (w.heap.size + 1) 55 58 _ _ _ _ rfl HH2.out Tryd.underlying55 rfl (by kernel_rfl) rfl HH.out Tryd.underlying58 rfl (by kernel_rfl)) rfl ?_
        exact ⟨t, T, tc, R, rc, HLA.out, rfl, ⟨HT3.out, HTC.out⟩, ⟨HR3.out, HRC.out⟩, HB3.out⟩
end Go.Proofs.YtmdjmbdeeodehaaDoor.G
end
section
set_option linter.unusedVariables false
set_option linter.unusedSimpArgs false
namespace Go.Proofs.YtmdjmbdeeodehaaDoor.G
open Go Go.Proofs Go.Proofs.YtmdjmbdeeodehaaDoor Go.RowKit Go.Proofs.YtmdjmbdeeodehaaDoorW.PrintWords Go.Proofs.YtmdjmbdeeodehaaDoorW.PrintLast Go.Proofs.YtmdjmbdeeodehaaDoorW.PrintMore Go.Proofs.YtmdjmbdeeodehaaDoor.Pure
set_option maxHeartbeats 2000000 in
set_option maxRecDepth 100000 in
theorem leaf_calls (s : Int) (w : World) : Calls Tryd.prog 99 #[.int .i64 s] w fun e w' => e = .returned (.agg #[.int .i64 (-1), .int .i64 s, .slice none 0 0]) ∧ Below w.heap.size w w' := by
  have hu := Tryd.underlying55
  go_enter Tryd.func99, Tryd.ntmps99
  go_wp2
  refine bodyPost_ret (results_cell_row rfl _ _ w.heap.size 55 #[.int .i64 (-1), .int .i64 s, .slice none 0 0] (0, 0) _ rfl (blk_new w _) Tryd.underlying55 rfl (by kernel_rfl)) rfl ?_
  exact ⟨rfl, (Below.refl _ w).alloc (Nat.le_refl _) _⟩
set_option maxHeartbeats 2000000 in
set_option maxRecDepth 100000 in
theorem tclone_calls {α : Type} (d : Kd α) (hsz : d.sz = 3) (A : Option Addr) (c : Nat) (l : List α) (n : Nat) (hl : n ≤ 1000000) (hc : n ≤ c) (w : World) (hr : Kd.C d w A n l) :
    Calls Tryd.prog 145 #[.slice A n c] w fun e w' => ∃ (A1 : Option Addr) (c1 : Nat), e = .returned (.slice A1 n c1) ∧ n ≤ c1 ∧ Kd.C d w' A1 n l ∧ Below w.heap.size w w' ∧ ∀ ad, A1 = some ad → n ≠ 0 → w.heap.size ≤ ad.block := by
  have HR := Lib.hid hr
  have hi : (Tryd.prog.info? 55).map (fun i => (i.zero, i.size, i.bytes)) = some (some (.agg #[.int .i64 0, .int .i64 0, .slice none 0 0]), d.sz, 40) := by rw [hsz]; exact infoT
  have HIN := Lib.hid hi
  have HZ : Hid ((Value.agg #[.int .i64 0, .int .i64 0, .slice none 0 0]).cells.size = d.sz) := Lib.hid (by rw [hsz]; rfl)
  clear hr hi hsz
  cases A with
  | none =>
    have hz : n = 0 := by
      rcases Nat.eq_zero_or_pos n with h | h
      · exact h
      · obtain ⟨ad, h, _⟩ := HR.out.2.2 h; cases h
    subst hz
    obtain rfl : l = [] := List.length_eq_zero_iff.1 HR.out.1
    have hnil := fun W : World => Lib.run_eql_slice_nil (P := Tryd.prog) W 53 55 none 0 c 0 0 Tryd.underlying53
    clear hc hl HIN HZ
    go_enter Tryd.func145, Tryd.ntmps145
    go_wp2
    refine bodyPost_ret (v := .slice none 0 0) (by simp [results, Tryd.results145, go_sem]) rfl ⟨_, _, rfl, Nat.le_refl _, AppC.C_empty _ _ _, Below.refl _ _, fun _ h => by cases h⟩
  | some ad =>
    have hnil := fun W : World => Lib.run_eql_slice_nil (P := Tryd.prog) W 53 55 (some ad) n c 0 0 Tryd.underlying53
    have hB0 : Below w.heap.size w (w.alloc (.cells #[] 55)) := (Below.refl _ _).alloc (Nat.le_refl _) _
    have HB0 := Lib.hid hB0
    have HRR := Lib.hid (Kd.C_below HR.out hB0)
    clear hB0
    go_enter Tryd.func145, Tryd.ntmps145
    go_wp2_with ((with_reducible refine gate_dst (N := 7) rfl ?_); refine AppC.row_full d rfl (.tmp 5) (.tmp 6) 53 55 (.agg #[.int .i64 0, .int .i64 0, .slice none 0 0]) 40 rfl Tryd.underlying53 HIN.out HZ.out (by decide) (some ⟨w.heap.size, 0, none⟩) 0 [] (some ad) n c l rfl rfl (AppC.C_empty _ _ _) HRR.out (by omega) ?_; intro A1 c1 w1 hc1 hC hb hnew)
    rw [List.nil_append] at hC
    simp only [Nat.zero_add] at hc1 hC ⊢
    have HC := Lib.hid hC
    have HB := Lib.hid (HB0.out.trans (hb.mono HB0.out.size))
    have HN : Hid (∀ ad, A1 = some ad → n ≠ 0 → w.heap.size ≤ ad.block) := Lib.hid (fun ad e hn => by
      obtain ⟨h1, _⟩ := hnew (by omega)
      rw [h1] at e
      injection e with e
      rw [← e]
      simp)
    clear hnil hC hb hnew HRR HIN HZ HB0
    go_wp2
    refine bodyPost_ret (v := .slice A1 n c1) (by simp [results, Tryd.results145, go_sem]) rfl ⟨_, _, rfl, hc1, HC.out, HB.out, HN.out⟩
set_option maxHeartbeats 2000000 in
set_option maxRecDepth 100000 in
theorem node_calls (r : Int) (A : Option Addr) (c : Nat) (l : List TTree) (hl : l.length ≤ 1000000) (hc : l.length ≤ c) (w : World) (hr : Kd.C k55 w A l.length l) :
    Calls Tryd.prog 98 #[.int .i64 r, .slice A l.length c] w fun e w' => ∃ (A1 : Option Addr) (c1 : Nat), e = .returned (.agg #[.int .i64 r, .int .i64 0, .slice A1 l.length c1]) ∧ l.length ≤ c1 ∧ Kd.C k55 w' A1 l.length l ∧ Below w.heap.size w w' := by
  have hu := Tryd.underlying55
  have hB0 : Below w.heap.size w (w.alloc (.cells #[.int .i64 0, .int .i64 0, .slice none 0 0] 55)) := (Below.refl _ _).alloc (Nat.le_refl _) _
  have HE := Lib.hid (AppC.C_elder (d := k55) hr hB0)
  have HZ := Lib.hid (blk_new w (.cells #[.int .i64 0, .int .i64 0, .slice none 0 0] 55))
  have HB0 := Lib.hid hB0
  clear hr hB0
  go_enter Tryd.func98, Tryd.ntmps98
  go_wp2_with fail
  refine (tclone_calls (AppC.elder k55 w) rfl A c l l.length hl hc _ HE.out).mono ?_
  rintro e w2 ⟨A1, c1, rfl, hc1, hC, hb, hfar⟩
  have hz := blk_below HZ.out hb
  have hfz := fun i => blk_frozen hz i
  have hf0 := hfz 0
  have hf1 := hfz 1
  have hf2 := hfz 2
  have hy0 : w2.cell? ⟨w.heap.size, 0, none⟩ = some (.int .i64 0) := (blk_cell hz 0).trans rfl
  have hy1 : w2.cell? ⟨w.heap.size, 1, none⟩ = some (.int .i64 0) := (blk_cell hz 1).trans rfl
  have hy2 : w2.cell? ⟨w.heap.size, 2, none⟩ = some (.slice none 0 0) := (blk_cell hz 2).trans rfl
  have HH := Lib.hid (blk_set (blk_set (blk_set hz 0 (.int .i64 r)) 1 (.int .i64 0)) 2 (.slice A1 l.length c1))
  have hne : ∀ ad, A1 = some ad → l.length ≠ 0 → ad.block ≠ w.heap.size := fun ad e hn => by have := hfar ad e hn; simp at this; omega
  have hb3 : Below w.heap.size w (((w2.setCell ⟨w.heap.size, 0, none⟩ (.int .i64 r)).setCell ⟨w.heap.size, 1, none⟩ (.int .i64 0)).setCell ⟨w.heap.size, 2, none⟩ (.slice A1 l.length c1)) := (((HB0.out.trans (hb.mono HB0.out.size)).setCell (Nat.le_refl _) _).setCell (Nat.le_refl _) _).setCell (Nat.le_refl _) _
  have HC := Lib.hid (AppC.elder_C (AppC.elder_far (AppC.elder_far (AppC.elder_far hC hne 0 (.int .i64 r)) hne 1 (.int .i64 0)) hne 2 (.slice A1 l.length c1)) hb3)
  have HB := Lib.hid hb3
  clear hfz hz hb hC hfar hne hb3 HB0 HE HZ
  go_wp2
  refine bodyPost_ret (results_cell_row rfl _ _ w.heap.size 55 #[.int .i64 r, .int .i64 0, .slice A1 l.length c1] (0, 0) _ rfl HH.out Tryd.underlying55 rfl (by kernel_rfl)) rfl ?_
  exact ⟨_, _, rfl, hc1, HC.out, HB.out⟩
theorem bAll_nil : ∀ (l : List SPart) (st : List TTree), bAll l st = [] → l = [] ∧ st = []
  | [], st, h => ⟨rfl, h⟩
  | p :: l, st, h => by
    have h1 := (bAll_nil l (bStep st p) h).2
    exact absurd h1 (by simp [bStep])
set_option maxHeartbeats 4000000 in
set_option maxRecDepth 100000 in
theorem build_none (Pp : Option Addr) (pc : Nat) (w : World) :
    Calls Tryd.prog 29 #[.slice Pp 0 pc] w fun e w' => e = .returned (.tuple #[.agg #[.int .i64 (-1), .int .i64 (-1), .slice none 0 0], .agg #[.int .i64 (-1), .int .i64 (-1), .slice none 0 0]]) ∧ Below w.heap.size w w' := by
  have hu := Tryd.underlying55
  have hu2 := Tryd.underlying58
  have hB0 : Below w.heap.size w ((w.alloc (.cells #[.int .i64 0, .int .i64 0, .slice none 0 0] 55)).alloc (.cells #[.int .i64 0, .int .i64 0, .slice none 0 0] 58)) := ((Below.refl _ w).alloc (Nat.le_refl _) _).alloc (by simp) _
  have hz2 := blk_alloc (blk_new w (.cells #[.int .i64 0, .int .i64 0, .slice none 0 0] 55)) (.cells #[.int .i64 0, .int .i64 0, .slice none 0 0] 58)
  have hz3 := blk_new (w.alloc (.cells #[.int .i64 0, .int .i64 0, .slice none 0 0] 55)) (.cells #[.int .i64 0, .int .i64 0, .slice none 0 0] 58)
  rw [show (w.alloc (.cells #[.int .i64 0, .int .i64 0, .slice none 0 0] 55)).heap.size = w.heap.size + 1 by simp] at hz3
  have HZ2 := Lib.hid hz2
  have HZ3 := Lib.hid hz3
  have HB0 := Lib.hid hB0
  clear hz2 hz3 hB0
  go_enter Tryd.func29, Tryd.ntmps29
  go_wp2_with fail
  go_loopw [4, 5, 13] (fun a b i wr => a = .slice none 0 0 ∧ b = .slice none 0 0 ∧ i = .int .i64 0 ∧ wr = ((w.alloc (.cells #[.int .i64 0, .int .i64 0, .slice none 0 0] 55)).alloc (.cells #[.int .i64 0, .int .i64 0, .slice none 0 0] 58))) (fun _ _ i _ => 0)
  case atStart => exact ⟨rfl, rfl, rfl, rfl⟩
  case round =>
    obtain ⟨rfl, rfl, rfl, rfl⟩ := hrel
    generalize hws : (w.alloc (.cells #[.int .i64 0, .int .i64 0, .slice none 0 0] 55)).alloc (.cells #[.int .i64 0, .int .i64 0, .slice none 0 0] 58) = ws at *
    clear hws
    go_wp2_with fail
    refine (leaf_calls (-1) _).mono ?_
    rintro e w2 ⟨rfl, hb⟩
    have hz2 := blk_below HZ2.out hb
    have hz3 := blk_below HZ3.out hb
    have hfz := fun i => blk_frozen hz2 i
    have hf0 := hfz 0
    have hf1 := hfz 1
    have hf2 := hfz 2
    have hgz := fun i => blk_frozen hz3 i
    have hg0 := hgz 0
    have hg1 := hgz 1
    have hg2 := hgz 2
    have hx0 : w2.cell? ⟨w.heap.size, 0, none⟩ = some (.int .i64 0) := (blk_cell hz2 0).trans rfl
    have hx1 : w2.cell? ⟨w.heap.size, 1, none⟩ = some (.int .i64 0) := (blk_cell hz2 1).trans rfl
    have hx2 : w2.cell? ⟨w.heap.size, 2, none⟩ = some (.slice none 0 0) := (blk_cell hz2 2).trans rfl
    have hy0 : w2.cell? ⟨w.heap.size + 1, 0, none⟩ = some (.int .i64 0) := (blk_cell hz3 0).trans rfl
    have hy1 : w2.cell? ⟨w.heap.size + 1, 1, none⟩ = some (.int .i64 0) := (blk_cell hz3 1).trans rfl
    have hy2 : w2.cell? ⟨w.heap.size + 1, 2, none⟩ = some (.slice none 0 0) := (blk_cell hz3 2).trans rfl
    have h2 := blk_set (blk_set (blk_set hz2 0 (.int .i64 (-1))) 1 (.int .i64 (-1))) 2 (.slice none 0 0)
    have h3 := blk_far (blk_far (blk_far hz3 (p := ⟨w.heap.size, 0, none⟩) (by simp) (.int .i64 (-1))) (p := ⟨w.heap.size, 1, none⟩) (by simp) (.int .i64 (-1))) (p := ⟨w.heap.size, 2, none⟩) (by simp) (.slice none 0 0)
    have H2 := Lib.hid (blk_far (blk_far (blk_far h2 (p := ⟨w.heap.size + 1, 0, none⟩) (by simp) (.int .i64 (-1))) (p := ⟨w.heap.size + 1, 1, none⟩) (by simp) (.int .i64 (-1))) (p := ⟨w.heap.size + 1, 2, none⟩) (by simp) (.slice none 0 0))
    have H3 := Lib.hid (blk_set (blk_set (blk_set h3 0 (.int .i64 (-1))) 1 (.int .i64 (-1))) 2 (.slice none 0 0))
    have hbb : Below w.heap.size w ((((((w2.setCell ⟨w.heap.size, 0, none⟩ (.int .i64 (-1))).setCell ⟨w.heap.size, 1, none⟩ (.int .i64 (-1))).setCell ⟨w.heap.size, 2, none⟩ (.slice none 0 0)).setCell ⟨w.heap.size + 1, 0, none⟩ (.int .i64 (-1))).setCell ⟨w.heap.size + 1, 1, none⟩ (.int .i64 (-1))).setCell ⟨w.heap.size + 1, 2, none⟩ (.slice none 0 0)) := ((((((HB0.out.trans (hb.mono HB0.out.size)).setCell (Nat.le_refl _) _).setCell (Nat.le_refl _) _).setCell (Nat.le_refl _) _).setCell (by simp) _).setCell (by simp) _).setCell (by simp) _
    have HB := Lib.hid hbb
    clear hbb
    clear hfz hgz hz2 hz3 h2 h3 hb HB0 HZ2 HZ3
    go_wp2
    refine bodyPost_ret (results_two rfl _ _ w.heap.size (w.heap.size + 1) 55 58 #[.int .i64 (-1), .int .i64 (-1), .slice none 0 0] #[.int .i64 (-1), .int .i64 (-1), .slice none 0 0] _ _ rfl H2.out Tryd.underlying55 rfl (by kernel_rfl) rfl H3.out Tryd.underlying58 rfl (by kernel_rfl)) rfl ?_
    exact ⟨rfl, HB.out⟩
end Go.Proofs.YtmdjmbdeeodehaaDoor.G
end
section
set_option linter.unusedVariables false
set_option linter.unusedSimpArgs false
namespace Go.Proofs.YtmdjmbdeeodehaaDoor.G
open Go Go.Proofs Go.Proofs.YtmdjmbdeeodehaaDoor Go.RowKit Go.Proofs.YtmdjmbdeeodehaaDoorW.PrintWords Go.Proofs.YtmdjmbdeeodehaaDoorW.PrintLast Go.Proofs.YtmdjmbdeeodehaaDoorW.PrintMore Go.Proofs.YtmdjmbdeeodehaaDoor.Pure
abbrev ex0 : List ByteArray := [⟨#[83]⟩]
abbrev ex1 : List ByteArray := [⟨#[97]⟩]
abbrev ex3 : List GRule := [⟨0, [-1, 0]⟩, ⟨0, []⟩]
abbrev exK : List TTree := [⟨-1, -1, []⟩, ⟨1, 0, []⟩]
abbrev exT : TTree := ⟨0, 0, exK⟩
abbrev exS : ByteArray := ⟨#[40, 83, 32, 34, 97, 34, 32, 40, 83, 41, 41]⟩
theorem ex_ok : gramOk ex0 ex1 0 ex3 = true := by kernel_rfl
theorem ex_check : treeC ex0 ex1 0 ex3 exT = 0 := by kernel_rfl
theorem ex_root : rootC ex0 ex1 0 ex3 exT = 0 := by kernel_rfl
theorem ex_tx : txOk ex0 ex1 0 ex3 exT = true := by kernel_rfl
theorem ex_text : (⟨(txT ex0 ex1 0 ex3 exT).toArray⟩ : ByteArray) = exS := by kernel_rfl
theorem ex_yield : (yieldT exT).length = 1 := by kernel_rfl
theorem ex_len : (txT ex0 ex1 0 ex3 exT).length = 11 := by kernel_rfl
theorem ex2_law01 : wickerlaw01_Awake.f 30 = some true := by kernel_rfl
theorem ex2_check : gram_Grammar_Check.f ex0 ex1 0 ex3 = some 0 := by kernel_rfl
theorem ex2_size : gram_Grammar_Size.f 30 ex0 ex1 0 ex3 = some 4 := by kernel_rfl
theorem ex2_text : gram_Grammar_Text.f ex0 ex1 0 ex3 (-1) = some ⟨#[34, 97, 34]⟩ := by kernel_rfl
theorem ex2_text0 : gram_Grammar_Text.f ex0 ex1 0 ex3 0 = some ⟨#[60, 83, 62]⟩ := by kernel_rfl
structure InG2 (w : World) (g : Nat) (A0 : Option Addr) (c0 : Nat) (A1 : Option Addr) (c1 : Nat) (A3 : Option Addr) (c3 : Nat) (W : World) : Prop where
  bel : Below w.heap.size w W
  gb : W.heap[g]? = some (.cells #[.slice A0 1 c0, .slice A1 1 c1, .int .i64 0, .slice A3 2 c3] 25 (0, 0))
  r0 : Kd.C Kd.string W A0 1 ex0
  r1 : Kd.C Kd.string W A1 1 ex1
  r3 : Kd.C k32 W A3 2 ex3
theorem InG2.step {w : World} {g : Nat} {A0 : Option Addr} {c0 : Nat} {A1 : Option Addr} {c1 : Nat} {A3 : Option Addr} {c3 : Nat} {W W' : World} (h : InG2 w g A0 c0 A1 c1 A3 c3 W) (hb : Below W.heap.size W W') : InG2 w g A0 c0 A1 c1 A3 c3 W' :=
  ⟨h.bel.trans (hb.mono h.bel.size), blk_below h.gb hb, Kd.C_below h.r0 hb, Kd.C_below h.r1 hb, Kd.C_below h.r3 hb⟩
set_option maxHeartbeats 8000000 in
set_option maxRecDepth 100000 in
theorem awake2_calls (w : World) (hG : Laid w) : Calls Tryd.prog 86 #[] w fun e w' => e = .returned (.bool true) ∧ Below w.heap.size w w' := by
  have hu := Tryd.underlying25
  have HG := Lib.hid hG
  clear hG
  go_enter Tryd.func86, Tryd.ntmps86
  go_wp2_with fail
  refine (wickerlaw02_Example.calls ex0 ex1 0 ex3 _ rfl).mono ?_
  rintro e w1 ⟨v0, v1, v3, rfl, h0, h1, h3, hb1⟩
  obtain ⟨A0, c0, rfl, l0, r0⟩ := Kd.R_reads h0
  obtain ⟨A1, c1, rfl, l1, r1⟩ := Kd.R_reads h1
  obtain ⟨A3, c3, rfl, l3, r3⟩ := Kd.N_reads h3
  replace l0 : 1 ≤ c0 := l0
  replace l1 : 1 ≤ c1 := l1
  replace l3 : 2 ≤ c3 := l3
  replace r0 : Kd.C Kd.string w1 A0 1 ex0 := r0
  replace r1 : Kd.C Kd.string w1 A1 1 ex1 := r1
  replace r3 : Kd.C k32 w1 A3 2 ex3 := r3
  simp only [show List.length ex0 = 1 from rfl, show List.length ex1 = 1 from rfl, show List.length ex3 = 2 from rfl]
  have hbg : Below w1.heap.size w1 (w1.alloc (.cells #[.slice A0 1 c0, .slice A1 1 c1, .int .i64 0, .slice A3 2 c3] 25)) := (Below.refl _ _).alloc (Nat.le_refl _) _
  have HI := Lib.hid (InG2.mk (hb1.trans (hbg.mono hb1.size)) (blk_new w1 (.cells #[.slice A0 1 c0, .slice A1 1 c1, .int .i64 0, .slice A3 2 c3] 25)) (Kd.C_below r0 hbg) (Kd.C_below r1 hbg) (Kd.C_below r3 hbg))
  clear h0 h1 h3 r0 r1 r3 hb1 hbg
  go_wp2_with fail
  generalize hg : w1.heap.size = g at *
  generalize hw2 : w1.alloc (.cells #[.slice A0 1 c0, .slice A1 1 c1, .int .i64 0, .slice A3 2 c3] 25) = w2 at *
  clear hg hw2
  refine (wickerlaw01_Awake.calls 30 true _ (Laid.below HG.out HI.out.bel) ex2_law01).mono ?_
  rintro e w3 ⟨rfl, hb⟩
  replace HI := Lib.hid (HI.out.step hb)
  (try clear z0 z1 z2 z3)
  clear hb
  have z0 : w3.cell? ⟨g, 0, none⟩ = some (.slice A0 1 c0) := (blk_cell HI.out.gb 0).trans rfl
  have z1 : w3.cell? ⟨g, 1, none⟩ = some (.slice A1 1 c1) := (blk_cell HI.out.gb 1).trans rfl
  have z2 : w3.cell? ⟨g, 2, none⟩ = some (.int .i64 0) := (blk_cell HI.out.gb 2).trans rfl
  have z3 : w3.cell? ⟨g, 3, none⟩ = some (.slice A3 2 c3) := (blk_cell HI.out.gb 3).trans rfl
  go_wp2_with fail
  refine (gram_Grammar_Check.calls A0 c0 ex0 A1 c1 ex1 0 A3 c3 ex3 0 _ (Laid.below HG.out HI.out.bel) HI.out.r0 l0 HI.out.r1 l1 HI.out.r3 l3 ex2_check).mono ?_
  rintro e w4 ⟨rfl, hb⟩
  replace HI := Lib.hid (HI.out.step hb)
  (try clear z0 z1 z2 z3)
  clear hb
  have z0 : w4.cell? ⟨g, 0, none⟩ = some (.slice A0 1 c0) := (blk_cell HI.out.gb 0).trans rfl
  have z1 : w4.cell? ⟨g, 1, none⟩ = some (.slice A1 1 c1) := (blk_cell HI.out.gb 1).trans rfl
  have z2 : w4.cell? ⟨g, 2, none⟩ = some (.int .i64 0) := (blk_cell HI.out.gb 2).trans rfl
  have z3 : w4.cell? ⟨g, 3, none⟩ = some (.slice A3 2 c3) := (blk_cell HI.out.gb 3).trans rfl
  go_wp2_with fail
  refine (gram_Grammar_Size.calls 30 A0 c0 ex0 A1 c1 ex1 0 A3 c3 ex3 4 _ HI.out.r0 l0 HI.out.r1 l1 HI.out.r3 l3 ex2_size).mono ?_
  rintro e w5 ⟨rfl, hb⟩
  replace HI := Lib.hid (HI.out.step hb)
  (try clear z0 z1 z2 z3)
  clear hb
  have z0 : w5.cell? ⟨g, 0, none⟩ = some (.slice A0 1 c0) := (blk_cell HI.out.gb 0).trans rfl
  have z1 : w5.cell? ⟨g, 1, none⟩ = some (.slice A1 1 c1) := (blk_cell HI.out.gb 1).trans rfl
  have z2 : w5.cell? ⟨g, 2, none⟩ = some (.int .i64 0) := (blk_cell HI.out.gb 2).trans rfl
  have z3 : w5.cell? ⟨g, 3, none⟩ = some (.slice A3 2 c3) := (blk_cell HI.out.gb 3).trans rfl
  go_wp2_with fail
  refine (gram_Grammar_Text.calls A0 c0 ex0 A1 c1 ex1 0 A3 c3 ex3 (-1) _ _ HI.out.r0 l0 HI.out.r1 l1 HI.out.r3 l3 ex2_text).mono ?_
  rintro e w6 ⟨rfl, hb⟩
  replace HI := Lib.hid (HI.out.step hb)
  (try clear z0 z1 z2 z3)
  clear hb
  have z0 : w6.cell? ⟨g, 0, none⟩ = some (.slice A0 1 c0) := (blk_cell HI.out.gb 0).trans rfl
  have z1 : w6.cell? ⟨g, 1, none⟩ = some (.slice A1 1 c1) := (blk_cell HI.out.gb 1).trans rfl
  have z2 : w6.cell? ⟨g, 2, none⟩ = some (.int .i64 0) := (blk_cell HI.out.gb 2).trans rfl
  have z3 : w6.cell? ⟨g, 3, none⟩ = some (.slice A3 2 c3) := (blk_cell HI.out.gb 3).trans rfl
  go_wp2_with fail
  refine (gram_Grammar_Text.calls A0 c0 ex0 A1 c1 ex1 0 A3 c3 ex3 0 _ _ HI.out.r0 l0 HI.out.r1 l1 HI.out.r3 l3 ex2_text0).mono ?_
  rintro e w7 ⟨rfl, hb⟩
  have HB := Lib.hid (HI.out.step hb).bel
  clear hb HI z0 z1 z2 z3
  go_wp2
  go_ret
  exact ⟨rfl, HB.out⟩
structure InA (w : World) (g tb : Nat) (A0 : Option Addr) (c0 : Nat) (A1 : Option Addr) (c1 : Nat) (A3 : Option Addr) (c3 : Nat) (T : Option Addr) (tc : Nat) (W : World) : Prop where
  bel : Below w.heap.size w W
  gb : W.heap[g]? = some (.cells #[.slice A0 1 c0, .slice A1 1 c1, .int .i64 0, .slice A3 2 c3] 25 (0, 0))
  r0 : Kd.C Kd.string W A0 1 ex0
  r1 : Kd.C Kd.string W A1 1 ex1
  r3 : Kd.C k32 W A3 2 ex3
  tr : Kd.C k55 W T 2 exK
  tb_ : W.heap[tb]? = some (.cells #[.int .i64 0, .int .i64 0, .slice T 2 tc] 55 (0, 0))
theorem InA.step {w : World} {g tb : Nat} {A0 : Option Addr} {c0 : Nat} {A1 : Option Addr} {c1 : Nat} {A3 : Option Addr} {c3 : Nat} {T : Option Addr} {tc : Nat} {W W' : World} (h : InA w g tb A0 c0 A1 c1 A3 c3 T tc W) (hb : Below W.heap.size W W') : InA w g tb A0 c0 A1 c1 A3 c3 T tc W' :=
  ⟨h.bel.trans (hb.mono h.bel.size), blk_below h.gb hb, Kd.C_below h.r0 hb, Kd.C_below h.r1 hb, Kd.C_below h.r3 hb, Kd.C_below h.tr hb, blk_below h.tb_ hb⟩
set_option maxHeartbeats 8000000 in
set_option maxRecDepth 100000 in
theorem awake3_calls (w : World) (hG : Laid w) : Calls Tryd.prog 28 #[] w fun e w' => e = .returned (.bool true) ∧ Below w.heap.size w w' := by
  have hu := Tryd.underlying25
  have hu2 := Tryd.underlying55
  have HG := Lib.hid hG
  clear hG
  go_enter Tryd.func28, Tryd.ntmps28
  go_wp2_with fail
  refine (wickerlaw02_Example.calls ex0 ex1 0 ex3 _ rfl).mono ?_
  rintro e w1 ⟨v0, v1, v3, rfl, h0, h1, h3, hb1⟩
  obtain ⟨A0, c0, rfl, l0, r0⟩ := Kd.R_reads h0
  obtain ⟨A1, c1, rfl, l1, r1⟩ := Kd.R_reads h1
  obtain ⟨A3, c3, rfl, l3, r3⟩ := Kd.N_reads h3
  replace l0 : 1 ≤ c0 := l0
  replace l1 : 1 ≤ c1 := l1
  replace l3 : 2 ≤ c3 := l3
  replace r0 : Kd.C Kd.string w1 A0 1 ex0 := r0
  replace r1 : Kd.C Kd.string w1 A1 1 ex1 := r1
  replace r3 : Kd.C k32 w1 A3 2 ex3 := r3
  simp only [show List.length ex0 = 1 from rfl, show List.length ex1 = 1 from rfl, show List.length ex3 = 2 from rfl]
  clear h0 h1 h3
  have hbg : Below w1.heap.size w1 (w1.alloc (.cells #[.slice A0 1 c0, .slice A1 1 c1, .int .i64 0, .slice A3 2 c3] 25)) := (Below.refl _ _).alloc (Nat.le_refl _) _
  have HR0 := Lib.hid r0
  have HR1 := Lib.hid r1
  have HR3 := Lib.hid r3
  have HB1 := Lib.hid hb1
  have HBG := Lib.hid hbg
  have HL := Lib.hid (And.intro l0 (And.intro l1 l3))
  have HGB := Lib.hid (blk_new w1 (.cells #[.slice A0 1 c0, .slice A1 1 c1, .int .i64 0, .slice A3 2 c3] 25))
  clear r0 r1 r3 hb1 hbg l0 l1 l3
  go_wp2_with fail
  refine (leaf_calls (-1) _).mono ?_
  rintro e w2 ⟨rfl, hb2⟩
  have HB2 := Lib.hid hb2
  clear hb2
  go_wp2_with fail
  refine (node_calls 1 none 0 [] (by decide) (Nat.le_refl _) _ (AppC.C_empty _ _ _)).mono ?_
  rintro e w3 ⟨N1, d1, rfl, hd1, hN1, hb3⟩
  have HN1 := Lib.hid hN1
  have HB3 := Lib.hid hb3
  have HD1 := Lib.hid hd1
  clear hN1 hb3 hd1
  have HRW : Hid (Kd.C k55 (w3.alloc (.cells #[.int .i64 (-1), .int .i64 (-1), .slice none 0 0, .int .i64 1, .int .i64 0, .slice N1 0 d1] 55)) (some ⟨w3.heap.size, 0, none⟩) 2 exK) := Lib.hid (AppC.lit_C k55 w3 55 exK [.int .i64 (-1), .int .i64 (-1), .slice none 0 0, .int .i64 1, .int .i64 0, .slice N1 0 d1]
    (Reps.c3 (k55_mk w3 ⟨-1, -1, []⟩ (A2 := none) (c2 := 0) (Nat.le_refl _) (AppC.C_empty _ _ _)) (Reps.c3 (k55_mk w3 ⟨1, 0, []⟩ (A2 := N1) (c2 := d1) HD1.out HN1.out) (Reps.none _ _))) (by decide))
  clear HN1 HD1
  go_wp2_with fail
  refine (node_calls 0 (some ⟨w3.heap.size, 0, none⟩) 2 exK (by decide) (Nat.le_refl _) _ HRW.out).mono ?_
  rintro e w4 ⟨T, tc, rfl, htc, hT, hb4⟩
  simp only [show List.length exK = 2 from rfl]
  replace htc : 2 ≤ tc := htc
  have hbs : Below (w1.alloc (.cells #[.slice A0 1 c0, .slice A1 1 c1, .int .i64 0, .slice A3 2 c3] 25)).heap.size (w1.alloc (.cells #[.slice A0 1 c0, .slice A1 1 c1, .int .i64 0, .slice A3 2 c3] 25)) w4 := by
    have h2 := HB2.out
    have h3 := h2.trans (HB3.out.mono h2.size)
    have h4 := h3.alloc h3.size (.cells #[.int .i64 (-1), .int .i64 (-1), .slice none 0 0, .int .i64 1, .int .i64 0, .slice N1 0 d1] 55)
    exact h4.trans (hb4.mono h4.size)
  have hb5 : Below w4.heap.size w4 (w4.alloc (.cells #[.int .i64 0, .int .i64 0, .slice T 2 tc] 55)) := (Below.refl _ _).alloc (Nat.le_refl _) _
  have hba := hbs.trans (hb5.mono hbs.size)
  have hbb := HBG.out.trans (hba.mono HBG.out.size)
  have HI := Lib.hid (InA.mk (w := w) (g := w1.heap.size) (tb := w4.heap.size) (tc := tc) (HB1.out.trans (hbb.mono HB1.out.size)) (blk_below HGB.out hba) (Kd.C_below HR0.out hbb) (Kd.C_below HR1.out hbb) (Kd.C_below HR3.out hbb) (Kd.C_below hT hb5) (blk_new w4 _))
  obtain ⟨l0, l1, l3⟩ := HL.out
  clear hbs hb5 hba hbb hT hb4 HRW HB2 HB3 HB1 HBG HGB HR0 HR1 HR3 HL
  go_wp2_with fail
  generalize hg : w1.heap.size = g at *
  generalize ht : w4.heap.size = tb at *
  generalize hw5 : w4.alloc (.cells #[.int .i64 0, .int .i64 0, .slice T 2 tc] 55) = w5 at *
  clear hg ht hw5
  refine (awake2_calls _ (Laid.below HG.out HI.out.bel)).mono ?_
  rintro e w6 ⟨rfl, hb6⟩
  have hI6 := HI.out.step hb6
  have q0 : w6.cell? ⟨g, 0, none⟩ = some (.slice A0 1 c0) := (blk_cell hI6.gb 0).trans rfl
  have q1 : w6.cell? ⟨g, 1, none⟩ = some (.slice A1 1 c1) := (blk_cell hI6.gb 1).trans rfl
  have q2 : w6.cell? ⟨g, 2, none⟩ = some (.int .i64 0) := (blk_cell hI6.gb 2).trans rfl
  have q3 : w6.cell? ⟨g, 3, none⟩ = some (.slice A3 2 c3) := (blk_cell hI6.gb 3).trans rfl
  have x0 : w6.cell? ⟨tb, 0, none⟩ = some (.int .i64 0) := (blk_cell hI6.tb_ 0).trans rfl
  have x1 : w6.cell? ⟨tb, 1, none⟩ = some (.int .i64 0) := (blk_cell hI6.tb_ 1).trans rfl
  have x2 : w6.cell? ⟨tb, 2, none⟩ = some (.slice T 2 tc) := (blk_cell hI6.tb_ 2).trans rfl
  have HI6 := Lib.hid hI6
  clear hI6 hb6 HI
  go_wp2_with fail
  refine (treeRoot_calls A0 c0 ex0 A1 c1 ex1 0 A3 c3 ex3 ex_ok l0 l1 l3 exT T tc htc (by decide) (by decide) _ (Laid.below HG.out HI6.out.bel) HI6.out.r0 HI6.out.r1 HI6.out.r3 HI6.out.tr).mono ?_
  rintro e w7 ⟨rfl, hb7⟩
  rw [ex_root]
  have hI7 := HI6.out.step hb7
  clear q0 q1 q2 q3 x0 x1 x2
  have q0 : w7.cell? ⟨g, 0, none⟩ = some (.slice A0 1 c0) := (blk_cell hI7.gb 0).trans rfl
  have q1 : w7.cell? ⟨g, 1, none⟩ = some (.slice A1 1 c1) := (blk_cell hI7.gb 1).trans rfl
  have q2 : w7.cell? ⟨g, 2, none⟩ = some (.int .i64 0) := (blk_cell hI7.gb 2).trans rfl
  have q3 : w7.cell? ⟨g, 3, none⟩ = some (.slice A3 2 c3) := (blk_cell hI7.gb 3).trans rfl
  have x0 : w7.cell? ⟨tb, 0, none⟩ = some (.int .i64 0) := (blk_cell hI7.tb_ 0).trans rfl
  have x1 : w7.cell? ⟨tb, 1, none⟩ = some (.int .i64 0) := (blk_cell hI7.tb_ 1).trans rfl
  have x2 : w7.cell? ⟨tb, 2, none⟩ = some (.slice T 2 tc) := (blk_cell hI7.tb_ 2).trans rfl
  have HI7 := Lib.hid hI7
  clear hI7 hb7 HI6
  go_wp2_with fail
  refine (text_calls A0 c0 ex0 A1 c1 ex1 0 A3 c3 ex3 ex_ok l0 l1 l3 exT T tc htc (by decide) (by decide) (fun _ => ⟨ex_tx, by rw [ex_len]; decide⟩) _ (Laid.below HG.out HI7.out.bel) HI7.out.r0 HI7.out.r1 HI7.out.r3 HI7.out.tr).mono ?_
  rintro e w8 ⟨rfl, hb8⟩
  rw [if_pos ex_check, ex_text]
  have hI8 := HI7.out.step hb8
  clear q0 q1 q2 q3 x0 x1 x2
  have x0 : w8.cell? ⟨tb, 0, none⟩ = some (.int .i64 0) := (blk_cell hI8.tb_ 0).trans rfl
  have x1 : w8.cell? ⟨tb, 1, none⟩ = some (.int .i64 0) := (blk_cell hI8.tb_ 1).trans rfl
  have x2 : w8.cell? ⟨tb, 2, none⟩ = some (.slice T 2 tc) := (blk_cell hI8.tb_ 2).trans rfl
  have HI8 := Lib.hid hI8
  clear hI8 hb8 HI7
  go_wp2_with fail
  refine (yield_calls exT (by decide) T tc htc _ HI8.out.tr).mono ?_
  rintro e w9 ⟨v, rfl, hv, hb9⟩
  obtain ⟨Y, yc, rfl⟩ := Kd.R_slice hv
  rw [ex_yield]
  have HB9 := Lib.hid (HI8.out.step hb9).bel
  clear x0 x1 x2 hv hb9 HI8
  go_wp2
  go_ret
  exact ⟨rfl, HB9.out⟩
end Go.Proofs.YtmdjmbdeeodehaaDoor.G
end
section
set_option linter.unusedVariables false
set_option linter.unusedSimpArgs false
namespace Go.Proofs.YtmdjmbdeeodehaaDoor.G
open Go Go.Proofs Go.Proofs.YtmdjmbdeeodehaaDoor Go.RowKit Go.Proofs.YtmdjmbdeeodehaaDoorW.PrintWords Go.Proofs.YtmdjmbdeeodehaaDoorW.PrintLast Go.Proofs.YtmdjmbdeeodehaaDoorW.PrintMore Go.Proofs.YtmdjmbdeeodehaaDoor.Pure
theorem of_calls3 (A0 : Option Addr) (c0 : Nat) (l0 : List ByteArray) (A1 : Option Addr) (c1 : Nat) (l1 : List ByteArray) (a2 : Int) (A3 : Option Addr) (c3 : Nat) (l3 : List GRule) (hn : l3.length ≤ 1000000) (hok : l3.all ruleOk = true) (w : World) (hr3 : Kd.C k32 w A3 l3.length l3) :
    Calls Tryd.prog 30 #[.agg #[.slice A0 l0.length c0, .slice A1 l1.length c1, .int .i64 a2, .slice A3 l3.length c3]] w fun e w' => ∃ Ao co, e = .returned (.agg #[.slice A0 l0.length c0, .slice A1 l1.length c1, .int .i64 a2, .slice Ao l3.length co]) ∧ Kd.C k87 w' Ao l3.length (l3.map ofR) ∧ l3.length ≤ co ∧ Below w.heap.size w w' := by
  refine (of_calls A0 c0 l0 A1 c1 l1 a2 A3 c3 l3 hn hok w hr3).mono ?_
  rintro e w' ⟨v3, rfl, hrow, hb⟩
  obtain ⟨Ao, co, rfl, hco, hC⟩ := Kd.R_reads hrow
  rw [List.length_map] at hco hC ⊢
  exact ⟨Ao, co, rfl, hC, hco, hb⟩
theorem cntTs_app : ∀ a b : List TTree, cntTs (a ++ b) = cntTs a + cntTs b
  | [], b => by simp [cntTs]
  | x :: a, b => by simp only [List.cons_append, cntTs, cntTs_app a b]; omega
theorem bAll_cnt : ∀ (l : List SPart) (st : List TTree), cntTs (bAll l st) = cntTs st + l.length
  | [], st => by simp [bAll]
  | p :: l, st => by
    rw [bAll, bAll_cnt l, bStep, cntTs_app]
    have h := cntTs_app (st.take (st.length - bkN st.length p)) (st.drop (st.length - bkN st.length p))
    rw [List.take_append_drop] at h
    simp only [cntTs, cntT, List.length_cons]
    omega
theorem bAll_sym : ∀ (l : List SPart) (st : List TTree), (∀ p ∈ l, symOk p.f1 = true) → (∀ t ∈ st, symOk t.f1 = true) → ∀ t ∈ bAll l st, symOk t.f1 = true
  | [], st, _, h, t, ht => h t ht
  | p :: l, st, hp, h, t, ht => by
    refine bAll_sym l (bStep st p) (fun q hq => hp q (List.mem_cons_of_mem _ hq)) (fun u hu => ?_) t ht
    rcases List.mem_append.1 hu with h1 | h1
    · exact h u (List.mem_of_mem_take h1)
    · rw [List.mem_singleton] at h1
      rw [h1]
      exact hp p List.mem_cons_self
set_option maxHeartbeats 2000000 in
theorem build_any (Pp : Option Addr) (pc : Nat) (l : List SPart) (hl : l.length ≤ 1999999) (hs : ∀ p ∈ l, symOk p.f1 = true) (w : World) (hr : Kd.C k157 w Pp l.length l) :
    Calls Tryd.prog 29 #[.slice Pp l.length pc] w fun e w' => ∃ (t : TTree) (T : Option Addr) (tc : Nat) (R : Option Addr) (rc : Nat), cntT t ≤ 1 + l.length ∧ symOk t.f1 = true ∧ e = .returned (.tuple #[.agg #[.int .i64 t.f0, .int .i64 t.f1, .slice T t.f2.length tc], .agg #[.int .i64 (toR t).f0, .int .i64 (toR t).f1, .slice R (toR t).f2.length rc]]) ∧ (Kd.C k55 w' T t.f2.length t.f2 ∧ t.f2.length ≤ tc) ∧ (Kd.C k58 w' R (toR t).f2.length (toR t).f2 ∧ (toR t).f2.length ≤ rc) ∧ Below w.heap.size w w' := by
  by_cases hne : bAll l [] = []
  · obtain ⟨rfl, -⟩ := bAll_nil _ _ hne
    refine (build_none Pp pc w).mono ?_
    rintro e w' ⟨rfl, hb⟩
    exact ⟨⟨-1, -1, []⟩, none, 0, none, 0, by simp [cntT, cntTs], by decide, by simp [toR, toRs], ⟨AppC.C_empty _ _ _, Nat.le_refl _⟩, ⟨AppC.C_empty _ _ _, Nat.le_refl _⟩, hb⟩
  · refine (build_calls Pp pc l (by omega) w hr _ rfl hne).mono ?_
    rintro e w' ⟨t, T, tc, R, rc, ht, rfl, h1, h2, hb⟩
    have hm := List.mem_of_getLast? ht
    have hc := cntTs_mem hm
    rw [bAll_cnt] at hc
    exact ⟨t, T, tc, R, rc, by simp only [cntTs] at hc; omega, bAll_sym l [] hs (fun _ h => by cases h) t hm, rfl, h1, h2, hb⟩
theorem rtreeCheck_calls3 (A0 : Option Addr) (c0 : Nat) (l0 : List ByteArray) (A1 : Option Addr) (c1 : Nat) (l1 : List ByteArray) (a2 : Int) (Ao : Option Addr) (co : Nat) (l3 : List GRule) (hok : gramOk l0 l1 a2 l3 = true) (h0 : l0.length ≤ c0) (h1 : l1.length ≤ c1) (h3 : l3.length ≤ co) (t : TTree) (T : Option Addr) (tc : Nat) (htc : (toR t).f2.length ≤ tc) (hcnt : cntT t ≤ 1000000)
    (w : World) (hr0 : Kd.C Kd.string w A0 l0.length l0) (hr1 : Kd.C Kd.string w A1 l1.length l1) (hm : Kd.C k87 w Ao l3.length (l3.map ofR)) (ht : Kd.C k58 w T (toR t).f2.length (toR t).f2) :
    Calls Tryd.prog 32 #[.agg #[.slice A0 l0.length c0, .slice A1 l1.length c1, .int .i64 a2, .slice Ao l3.length co], .agg #[.int .i64 (toR t).f0, .int .i64 (toR t).f1, .slice T (toR t).f2.length tc]] w fun e w' => e = .returned (.int .i64 (treeC l0 l1 a2 l3 t)) ∧ Below w.heap.size w w' := by
  have h := rtreeCheck_calls A0 c0 l0 A1 c1 l1 a2 Ao co l3 hok h0 h1 (by rw [List.length_map]; exact h3) t (toR t) rfl T tc htc hcnt w hr0 hr1 (by rw [List.length_map]; exact hm) ht
  rwa [List.length_map] at h
structure InE (w : World) (A0 : Option Addr) (c0 : Nat) (l0 : List ByteArray) (A1 : Option Addr) (c1 : Nat) (l1 : List ByteArray) (a2 : Int) (A3 : Option Addr) (c3 : Nat) (l3 : List GRule) (Ao : Option Addr) (co : Nat) (tb rb hb_ : Nat) (t : TTree) (T : Option Addr) (tc : Nat) (R : Option Addr) (rc : Nat) (W : World) : Prop where
  bel : Below w.heap.size w W
  gb : W.heap[w.heap.size]? = some (.cells #[.slice A0 l0.length c0, .slice A1 l1.length c1, .int .i64 a2, .slice A3 l3.length c3] 25 (0, 0))
  tb' : W.heap[tb]? = some (.cells #[.int .i64 t.f0, .int .i64 t.f1, .slice T t.f2.length tc] 55 (0, 0))
  rb' : W.heap[rb]? = some (.cells #[.int .i64 (toR t).f0, .int .i64 (toR t).f1, .slice R (toR t).f2.length rc] 58 (0, 0))
  hb' : W.heap[hb_]? = some (.cells #[.slice A0 l0.length c0, .slice A1 l1.length c1, .int .i64 a2, .slice Ao l3.length co] 63 (0, 0))
  r0 : Kd.C Kd.string W A0 l0.length l0
  r1 : Kd.C Kd.string W A1 l1.length l1
  r3 : Kd.C k32 W A3 l3.length l3
  ro : Kd.C k87 W Ao l3.length (l3.map ofR)
  tr : Kd.C k55 W T t.f2.length t.f2
  rr : Kd.C k58 W R (toR t).f2.length (toR t).f2
section
variable {w : World} {A0 : Option Addr} {c0 : Nat} {l0 : List ByteArray} {A1 : Option Addr} {c1 : Nat} {l1 : List ByteArray} {a2 : Int} {A3 : Option Addr} {c3 : Nat} {l3 : List GRule} {Ao : Option Addr} {co : Nat} {tb rb hb_ : Nat} {t : TTree} {T : Option Addr} {tc : Nat} {R : Option Addr} {rc : Nat} {W W' : World}
theorem InE.step (h : InE w A0 c0 l0 A1 c1 l1 a2 A3 c3 l3 Ao co tb rb hb_ t T tc R rc W) (hb : Below W.heap.size W W') : InE w A0 c0 l0 A1 c1 l1 a2 A3 c3 l3 Ao co tb rb hb_ t T tc R rc W' := ⟨h.bel.trans (hb.mono h.bel.size), blk_below h.gb hb, blk_below h.tb' hb, blk_below h.rb' hb, blk_below h.hb' hb, Kd.C_below h.r0 hb, Kd.C_below h.r1 hb, Kd.C_below h.r3 hb, Kd.C_below h.ro hb, Kd.C_below h.tr hb, Kd.C_below h.rr hb⟩
theorem InE.drew (h : InE w A0 c0 l0 A1 c1 l1 a2 A3 c3 l3 Ao co tb rb hb_ t T tc R rc W) : InE w A0 c0 l0 A1 c1 l1 a2 A3 c3 l3 Ao co tb rb hb_ t T tc R rc W.drew := h.step (below_drew (Below.refl _ _))
theorem InE.g0 (h : InE w A0 c0 l0 A1 c1 l1 a2 A3 c3 l3 Ao co tb rb hb_ t T tc R rc W) : W.cell? ⟨w.heap.size, 0, none⟩ = some (.slice A0 l0.length c0) := (blk_cell h.gb 0).trans rfl
theorem InE.g1 (h : InE w A0 c0 l0 A1 c1 l1 a2 A3 c3 l3 Ao co tb rb hb_ t T tc R rc W) : W.cell? ⟨w.heap.size, 1, none⟩ = some (.slice A1 l1.length c1) := (blk_cell h.gb 1).trans rfl
theorem InE.g2 (h : InE w A0 c0 l0 A1 c1 l1 a2 A3 c3 l3 Ao co tb rb hb_ t T tc R rc W) : W.cell? ⟨w.heap.size, 2, none⟩ = some (.int .i64 a2) := (blk_cell h.gb 2).trans rfl
theorem InE.g3 (h : InE w A0 c0 l0 A1 c1 l1 a2 A3 c3 l3 Ao co tb rb hb_ t T tc R rc W) : W.cell? ⟨w.heap.size, 3, none⟩ = some (.slice A3 l3.length c3) := (blk_cell h.gb 3).trans rfl
theorem InE.t0 (h : InE w A0 c0 l0 A1 c1 l1 a2 A3 c3 l3 Ao co tb rb hb_ t T tc R rc W) : W.cell? ⟨tb, 0, none⟩ = some (.int .i64 t.f0) := (blk_cell h.tb' 0).trans rfl
theorem InE.t1 (h : InE w A0 c0 l0 A1 c1 l1 a2 A3 c3 l3 Ao co tb rb hb_ t T tc R rc W) : W.cell? ⟨tb, 1, none⟩ = some (.int .i64 t.f1) := (blk_cell h.tb' 1).trans rfl
theorem InE.t2 (h : InE w A0 c0 l0 A1 c1 l1 a2 A3 c3 l3 Ao co tb rb hb_ t T tc R rc W) : W.cell? ⟨tb, 2, none⟩ = some (.slice T t.f2.length tc) := (blk_cell h.tb' 2).trans rfl
theorem InE.s0 (h : InE w A0 c0 l0 A1 c1 l1 a2 A3 c3 l3 Ao co tb rb hb_ t T tc R rc W) : W.cell? ⟨rb, 0, none⟩ = some (.int .i64 (toR t).f0) := (blk_cell h.rb' 0).trans rfl
theorem InE.s1 (h : InE w A0 c0 l0 A1 c1 l1 a2 A3 c3 l3 Ao co tb rb hb_ t T tc R rc W) : W.cell? ⟨rb, 1, none⟩ = some (.int .i64 (toR t).f1) := (blk_cell h.rb' 1).trans rfl
theorem InE.s2 (h : InE w A0 c0 l0 A1 c1 l1 a2 A3 c3 l3 Ao co tb rb hb_ t T tc R rc W) : W.cell? ⟨rb, 2, none⟩ = some (.slice R (toR t).f2.length rc) := (blk_cell h.rb' 2).trans rfl
theorem InE.h0 (h : InE w A0 c0 l0 A1 c1 l1 a2 A3 c3 l3 Ao co tb rb hb_ t T tc R rc W) : W.cell? ⟨hb_, 0, none⟩ = some (.slice A0 l0.length c0) := (blk_cell h.hb' 0).trans rfl
theorem InE.h1 (h : InE w A0 c0 l0 A1 c1 l1 a2 A3 c3 l3 Ao co tb rb hb_ t T tc R rc W) : W.cell? ⟨hb_, 1, none⟩ = some (.slice A1 l1.length c1) := (blk_cell h.hb' 1).trans rfl
theorem InE.h2 (h : InE w A0 c0 l0 A1 c1 l1 a2 A3 c3 l3 Ao co tb rb hb_ t T tc R rc W) : W.cell? ⟨hb_, 2, none⟩ = some (.int .i64 a2) := (blk_cell h.hb' 2).trans rfl
theorem InE.h3 (h : InE w A0 c0 l0 A1 c1 l1 a2 A3 c3 l3 Ao co tb rb hb_ t T tc R rc W) : W.cell? ⟨hb_, 3, none⟩ = some (.slice Ao l3.length co) := (blk_cell h.hb' 3).trans rfl
end
end Go.Proofs.YtmdjmbdeeodehaaDoor.G
end
section
set_option linter.unusedVariables false
set_option linter.unusedSimpArgs false
namespace Go.Proofs.YtmdjmbdeeodehaaDoor.G
open Go Go.Proofs Go.Proofs.YtmdjmbdeeodehaaDoor Go.RowKit Go.Proofs.YtmdjmbdeeodehaaDoorW.PrintWords Go.Proofs.YtmdjmbdeeodehaaDoorW.PrintLast Go.Proofs.YtmdjmbdeeodehaaDoorW.PrintMore Go.Proofs.YtmdjmbdeeodehaaDoor.Pure
theorem treeC_ok {l0 l1 : List ByteArray} {a2 : Int} {l3 : List GRule} {t : TTree} (hok : gramOk l0 l1 a2 l3 = true) (hsy : symOk t.f1 = true) (h : treeC l0 l1 a2 l3 t = 0) : okT l3 t ∧ (∀ r ∈ l3, 0 ≤ r.f0 ∧ r.f0 < l0.length) ∧ ∀ r ∈ l3, ∀ s ∈ r.f1, symOk s = true := by
  have hc : checkC nmB mkB l0 l1 a2 l3 = 0 := by
    unfold treeC at h
    split at h
    · rename_i h1; exact absurd h h1
    · rename_i h1; simpa using h1
  have hz := check_zero2 hc
  refine ⟨?_, fun r hr => ⟨(hz.2.2.2.2.2.2.1 r hr).1, (hz.2.2.2.2.2.2.1 r hr).2.1⟩, fun r hr s hs => ?_⟩
  · by_cases h0 : t.f0 < 0
    · exact .inl ⟨h0, hsy⟩
    · exact .inr (treeC_at h h0)
  · have h1 : l3.all ruleOk = true := by simp only [gramOk, Bool.and_eq_true] at hok; exact hok.2
    have h2 := List.all_eq_true.1 h1 r hr
    simp only [ruleOk, Bool.and_eq_true] at h2
    exact List.all_eq_true.1 h2.2 s hs
end Go.Proofs.YtmdjmbdeeodehaaDoor.G
end
section
namespace Go.Proofs.YtmdjmbdeeodehaaDoor.G
open Go.RowKit Go.Proofs.YtmdjmbdeeodehaaDoorW.PrintWords Go.Proofs.YtmdjmbdeeodehaaDoorW.PrintLast Go.Proofs.YtmdjmbdeeodehaaDoorW.PrintMore
attribute [local go_sem] max2_int min2_int max_two min_two max_three min_three max_four min_four
attribute [local go_sem] Go.Proofs.YtmdjmbdeeodehaaDoorOwn.isSome_setCell
set_option linter.unusedVariables false
set_option linter.unusedSimpArgs false
mutual
def wickerlaw03_Of.l0 : Nat → List (S55) → Int → Int → Int → Int → List (S58) → Option (Int × Int × (List (S58)))
 | 0, _, _, _, _, _, _ => none
 | k + 1, x12, x13, x14, x104000, x104001, x104002 => if x14 < x13 then (if 0 ≤ x14 then (if x14 < (x12.length : Int) then ((wickerlaw03_Of.f k ((rd_T55 x12 x14).f0) ((rd_T55 x12 x14).f1) ((rd_T55 x12 x14).f2)).bind fun bt106 => (if x104002.length < 3518437208883 then (wickerlaw03_Of.l0 k x12 x13 (wrap64 (x14 + 1)) x104000 x104001 (x104002 ++ [(⟨bt106.1, bt106.2.1, bt106.2.2⟩ : S58)])) else (none))) else (none)) else (none)) else (some (x104000, x104001, x104002))
def wickerlaw03_Of.f : Nat → Int → Int → List (S55) → Option (Int × Int × (List (S58)))
 | 0, _, _, _ => none
 | k + 1, a0_0, a0_1, l0_2 => wickerlaw03_Of.l0 k l0_2 (l0_2.length : Int) 0 a0_0 a0_1 ([] : List (S58))
end
def wickerlaw03_Of.T5 : Bool × List (List Nat × List Nat) := (true, [([], []), ([0], [0]), ([], []), ([2], [2]), ([3], [3]), ([1, 4, 3], [1, 4]), ([0, 1, 2, 3, 4, 5], []), ([6, 5, 5, 0, 1, 2, 3, 4, 5], [5, 6])])
def wickerlaw03_Of.B5 : List Nat := [0, 1, 0, 4, 12, 31, 63, 127]
theorem wickerlaw03_Of.tab5 : rtab .any (opsOf Tryd.f105 5) = wickerlaw03_Of.T5 := by kernel_rfl
theorem wickerlaw03_Of.bits5 : waitsOk wickerlaw03_Of.T5.2 wickerlaw03_Of.B5 = true := by kernel_rfl
set_option maxHeartbeats 8000000 in
set_option maxRecDepth 100000 in
theorem wickerlaw03_Of.calls (k : Nat) : ∀ (a0_0 : Int) (a0_1 : Int) (A0_2 : Option Addr) (c0_2 : Nat) (l0_2 : List (S55)) (r1 : Int) (r2 : Int) (r3 : List (S58)) (w : World) (hr0_2 : Kd.C k55 w A0_2 l0_2.length l0_2) (hc0_2 : l0_2.length ≤ c0_2) (h : wickerlaw03_Of.f k a0_0 a0_1 l0_2 = some (r1, r2, r3)),
  Calls Tryd.prog 105 #[.agg #[.int .i64 a0_0, .int .i64 a0_1, .slice A0_2 l0_2.length c0_2]] w fun e w' => ∃ v2_ : Value, e = .returned (.agg #[.int .i64 r1, .int .i64 r2, v2_]) ∧ Kd.R k58 58 w' w.heap.size (fun _ => True) v2_ r3 ∧ Below w.heap.size w w' := by
 induction k using Nat.strongRecOn with
 | _ k ih =>
 intro a0_0 a0_1 A0_2 c0_2 l0_2 r1 r2 r3 w hr0_2 hc0_2 h
 cases k with
 | zero => exact absurd h (by simp [wickerlaw03_Of.f])
 | succ k =>
 simp only [wickerlaw03_Of.f] at h
 have hu55 := Tryd.underlying55
 have hu58 := Tryd.underlying58
 have HR0_2 := Aside0.mk hr0_2
 have HC0_2 := Aside0.mk hc0_2
 clear hr0_2 hc0_2
 have HB := Aside0.mk (Below.refl w.heap.size w)
 have H : (wickerlaw03_Of.l0 k l0_2 (l0_2.length : Int) 0 a0_0 a0_1 ([] : List (S58))) = some (r1, r2, r3) := h
 clear h
 have H' := Aside0.mk H
 clear H
 go_enter Tryd.func105, Tryd.ntmps105
 go_wp2_with (first | ((with_reducible refine gate_dst (N := 1) rfl ?_); refine box_event ?hg (N := 1) ?hd (cs := #[.int .i64 a0_0, .int .i64 a0_1, .slice A0_2 l0_2.length c0_2]) (t := 55) ?hr ?_; (case hd => rfl); (case hg => rfl); (case hr => first | (go_simp; done) | (go_simp; rfl)); intro gb101 hg w2 hbox hb; have n0_ := Aside0.mk (below_step (by repeat (first | (with_reducible first | exact HB.out | apply below_alloc | apply pw_below_drewN | apply below_drew1) | exact HB.out)) hb); have n1_ := Aside0.mk (hbox); have n2_ := Aside0.mk ((by rw [hg]; exact (below_size (by repeat (first | (with_reducible first | exact HB.out | apply below_alloc | apply pw_below_drewN | apply below_drew1) | exact HB.out))) : w.heap.size ≤ gb101)); have n3_ := Aside0.mk ((by rw [hg]; exact (below_size (by repeat (first | (with_reducible first | exact HB.out | apply below_alloc | apply pw_below_drewN | apply below_drew1) | exact HB.out))) : w.heap.size ≤ gb101)); clear HB; have HB := n0_; have BK101 := n1_; have GW101 := n2_; have GE101 := n3_; clear n0_ n1_ n2_ n3_; clear hb hbox hg) | ((with_reducible refine gate_dst (N := 2) rfl ?_); refine box_event ?hg (N := 2) ?hd (cs := #[.int .i64 0, .int .i64 0, .slice none 0 0]) (t := 58) ?hr ?_; (case hd => rfl); (case hg => rfl); (case hr => first | (go_simp; done) | (go_simp; rfl)); intro gb102 hg w3 hbox hb; have n0_ := Aside0.mk (blk_below (g := gb101) (o := .cells #[.int .i64 a0_0, .int .i64 a0_1, .slice A0_2 l0_2.length c0_2] 55 (0, 0)) (by (with_reducible repeat (first | refine blk_drewN ?_ _ | refine blk_drew ?_ | refine blk_alloc ?_ _)); exact BK101.out) hb); have n1_ := Aside0.mk (below_step (by repeat (first | (with_reducible first | exact HB.out | apply below_alloc | apply pw_below_drewN | apply below_drew1 | refine below_set ?_ GE101.out) | exact HB.out)) hb); have n2_ := Aside0.mk (hbox); have n3_ := Aside0.mk ((by rw [hg]; exact (below_size (by repeat (first | (with_reducible first | exact HB.out | apply below_alloc | apply pw_below_drewN | apply below_drew1 | refine below_set ?_ GE101.out) | exact HB.out))) : w.heap.size ≤ gb102)); have n4_ := Aside0.mk ((by rw [hg]; exact (below_size (by repeat (first | (with_reducible first | exact HB.out | apply below_alloc | apply pw_below_drewN | apply below_drew1 | refine below_set ?_ GE101.out) | exact HB.out))) : w.heap.size ≤ gb102)); have n5_ := Aside0.mk ((by rw [hg]; exact Nat.ne_of_lt (blk_lt (g := gb101) (o := .cells #[.int .i64 a0_0, .int .i64 a0_1, .slice A0_2 l0_2.length c0_2] 55 (0, 0)) (by (with_reducible repeat (first | refine blk_drewN ?_ _ | refine blk_drew ?_ | refine blk_alloc ?_ _)); exact BK101.out)) : gb101 ≠ gb102)); have n6_ := Aside0.mk ((by rw [hg]; exact Nat.ne_of_gt (blk_lt (g := gb101) (o := .cells #[.int .i64 a0_0, .int .i64 a0_1, .slice A0_2 l0_2.length c0_2] 55 (0, 0)) (by (with_reducible repeat (first | refine blk_drewN ?_ _ | refine blk_drew ?_ | refine blk_alloc ?_ _)); exact BK101.out)) : gb102 ≠ gb101)); clear BK101; clear HB; have BK101 := n0_; have HB := n1_; have BK102 := n2_; have GW102 := n3_; have GE102 := n4_; have NB101_102 := n5_; have NB102_101 := n6_; clear n0_ n1_ n2_ n3_ n4_ n5_ n6_; clear hb hbox hg; have hnb4 := NB101_102.out; have hnc4 := NB102_101.out; have hcz5_0 : w3.cell? ⟨gb101, 0, none⟩ = some (.int .i64 a0_0) := (blk_cell BK101.out 0).trans rfl; have hcz5_1 : w3.cell? ⟨gb101, 1, none⟩ = some (.int .i64 a0_1) := (blk_cell BK101.out 1).trans rfl; have hcz5_2 : w3.cell? ⟨gb101, 2, none⟩ = some (.slice A0_2 l0_2.length c0_2) := (blk_cell BK101.out 2).trans rfl; have hfz5_0 := blk_frozen BK101.out 0; have hfz5_1 := blk_frozen BK101.out 1; have hfz5_2 := blk_frozen BK101.out 2) | ((with_reducible refine gate_dst (N := 3) rfl ?_); refine box_event ?hg (N := 3) ?hd (cs := #[.int .i64 0, .int .i64 0, .slice none 0 0]) (t := 58) ?hr ?_; (case hd => rfl); (case hg => rfl); (case hr => first | (go_simp; done) | (go_simp; rfl)); intro gb103 hg w6 hbox hb; have n0_ := Aside0.mk (blk_below (g := gb101) (o := .cells #[.int .i64 a0_0, .int .i64 a0_1, .slice A0_2 l0_2.length c0_2] 55 (0, 0)) (by (with_reducible repeat (first | refine blk_drewN ?_ _ | refine blk_drew ?_ | refine blk_alloc ?_ _)); exact BK101.out) hb); have n1_ := Aside0.mk (blk_below (g := gb102) (o := .cells #[.int .i64 0, .int .i64 0, .slice none 0 0] 58 (0, 0)) (by (with_reducible repeat (first | refine blk_drewN ?_ _ | refine blk_drew ?_ | refine blk_alloc ?_ _)); exact BK102.out) hb); have n2_ := Aside0.mk (below_step (by repeat (first | (with_reducible first | exact HB.out | apply below_alloc | apply pw_below_drewN | apply below_drew1 | refine below_set ?_ GE101.out | refine below_set ?_ GE102.out) | exact HB.out)) hb); have n3_ := Aside0.mk (hbox); have n4_ := Aside0.mk ((by rw [hg]; exact (below_size (by repeat (first | (with_reducible first | exact HB.out | apply below_alloc | apply pw_below_drewN | apply below_drew1 | refine below_set ?_ GE101.out | refine below_set ?_ GE102.out) | exact HB.out))) : w.heap.size ≤ gb103)); have n5_ := Aside0.mk ((by rw [hg]; exact (below_size (by repeat (first | (with_reducible first | exact HB.out | apply below_alloc | apply pw_below_drewN | apply below_drew1 | refine below_set ?_ GE101.out | refine below_set ?_ GE102.out) | exact HB.out))) : w.heap.size ≤ gb103)); have n6_ := Aside0.mk ((by rw [hg]; exact Nat.ne_of_lt (blk_lt (g := gb101) (o := .cells #[.int .i64 a0_0, .int .i64 a0_1, .slice A0_2 l0_2.length c0_2] 55 (0, 0)) (by (with_reducible repeat (first | refine blk_drewN ?_ _ | refine blk_drew ?_ | refine blk_alloc ?_ _)); exact BK101.out)) : gb101 ≠ gb103)); have n7_ := Aside0.mk ((by rw [hg]; exact Nat.ne_of_gt (blk_lt (g := gb101) (o := .cells #[.int .i64 a0_0, .int .i64 a0_1, .slice A0_2 l0_2.length c0_2] 55 (0, 0)) (by (with_reducible repeat (first | refine blk_drewN ?_ _ | refine blk_drew ?_ | refine blk_alloc ?_ _)); exact BK101.out)) : gb103 ≠ gb101)); have n8_ := Aside0.mk ((by rw [hg]; exact Nat.ne_of_lt (blk_lt (g := gb102) (o := .cells #[.int .i64 0, .int .i64 0, .slice none 0 0] 58 (0, 0)) (by (with_reducible repeat (first | refine blk_drewN ?_ _ | refine blk_drew ?_ | refine blk_alloc ?_ _)); exact BK102.out)) : gb102 ≠ gb103)); have n9_ := Aside0.mk ((by rw [hg]; exact Nat.ne_of_gt (blk_lt (g := gb102) (o := .cells #[.int .i64 0, .int .i64 0, .slice none 0 0] 58 (0, 0)) (by (with_reducible repeat (first | refine blk_drewN ?_ _ | refine blk_drew ?_ | refine blk_alloc ?_ _)); exact BK102.out)) : gb103 ≠ gb102)); clear BK101; clear BK102; clear HB; have BK101 := n0_; have BK102 := n1_; have HB := n2_; have BK103 := n3_; have GW103 := n4_; have GE103 := n5_; have NB101_103 := n6_; have NB103_101 := n7_; have NB102_103 := n8_; have NB103_102 := n9_; clear n0_ n1_ n2_ n3_ n4_ n5_ n6_ n7_ n8_ n9_; clear hb hbox hg; have hnb7 := NB103_101.out; have hnc7 := NB101_103.out; have hnb8 := NB103_102.out; have hnc8 := NB102_103.out; have hcz9_0 : w6.cell? ⟨gb103, 0, none⟩ = some (.int .i64 0) := (blk_cell BK103.out 0).trans rfl; have hcz9_1 : w6.cell? ⟨gb103, 1, none⟩ = some (.int .i64 0) := (blk_cell BK103.out 1).trans rfl; have hcz9_2 : w6.cell? ⟨gb103, 2, none⟩ = some (.slice none 0 0) := (blk_cell BK103.out 2).trans rfl; have hfz9_0 := blk_frozen BK103.out 0; have hfz9_1 := blk_frozen BK103.out 1; have hfz9_2 := blk_frozen BK103.out 2; have hcz10_0 : w6.cell? ⟨gb101, 0, none⟩ = some (.int .i64 a0_0) := (blk_cell BK101.out 0).trans rfl; have hcz10_1 : w6.cell? ⟨gb101, 1, none⟩ = some (.int .i64 a0_1) := (blk_cell BK101.out 1).trans rfl; have hcz10_2 : w6.cell? ⟨gb101, 2, none⟩ = some (.slice A0_2 l0_2.length c0_2) := (blk_cell BK101.out 2).trans rfl; have hfz10_0 := blk_frozen BK101.out 0; have hfz10_1 := blk_frozen BK101.out 1; have hfz10_2 := blk_frozen BK101.out 2))
 go_loopg [14] k (fun kq v14 w' => ∃ (x14_1 : Int) (x104002_1 : List (S58)) (u104002 : Value), v14 = .int .i64 x14_1 ∧ Aside0 (wickerlaw03_Of.l0 kq l0_2 (l0_2.length : Int) x14_1 a0_0 a0_1 x104002_1 = some (r1, r2, r3)) ∧ Aside0 (kq ≤ k) ∧ Aside0 (Kd.R k58 58 w' w.heap.size (fun k_ => k_ ≠ gb102 ∧ k_ ≠ gb103) u104002 x104002_1) ∧ Aside0 (w'.heap[gb101]? = some (.cells #[.int .i64 a0_0, .int .i64 a0_1, (.slice A0_2 l0_2.length c0_2)] 55 (0, 0))) ∧ Aside0 (w'.heap[gb102]? = some (.cells #[.int .i64 0, .int .i64 0, (.slice none 0 0)] 58 (0, 0))) ∧ Aside0 (w'.heap[gb103]? = some (.cells #[.int .i64 a0_0, .int .i64 a0_1, u104002] 58 (0, 0))) ∧ Aside0 (Below w.heap.size w w'))
 case atStart => exact ⟨(0), (([] : List (S58))), (.slice none 0 0), (by first | rfl | (simp; done) | (simp [*]; done)), H', ⟨Nat.le_refl _⟩, ⟨by first | exact Kd.R_nil _ _ _ _ _ | exact Kd.N_nil _ _ _ _ _ | exact Kd.V_nil _ _ _ _ _ | exact Kd.Q_nil _ _ _ _ _ | exact Kd.S_nil _ _ _ _ _⟩, ⟨by (with_reducible repeat (first | refine blk_drewN ?_ _ | refine blk_drew ?_ | refine blk_alloc ?_ _)); refine blk_far ?_ NB101_103.out _; (with_reducible repeat (first | refine blk_drewN ?_ _ | refine blk_drew ?_ | refine blk_alloc ?_ _)); refine blk_far ?_ NB101_103.out _; (with_reducible repeat (first | refine blk_drewN ?_ _ | refine blk_drew ?_ | refine blk_alloc ?_ _)); refine blk_far ?_ NB101_103.out _; (with_reducible repeat (first | refine blk_drewN ?_ _ | refine blk_drew ?_ | refine blk_alloc ?_ _)); exact BK101.out⟩, ⟨by (with_reducible repeat (first | refine blk_drewN ?_ _ | refine blk_drew ?_ | refine blk_alloc ?_ _)); refine blk_far ?_ NB102_103.out _; (with_reducible repeat (first | refine blk_drewN ?_ _ | refine blk_drew ?_ | refine blk_alloc ?_ _)); refine blk_far ?_ NB102_103.out _; (with_reducible repeat (first | refine blk_drewN ?_ _ | refine blk_drew ?_ | refine blk_alloc ?_ _)); refine blk_far ?_ NB102_103.out _; (with_reducible repeat (first | refine blk_drewN ?_ _ | refine blk_drew ?_ | refine blk_alloc ?_ _)); exact BK102.out⟩, ⟨by (with_reducible repeat (first | refine blk_drewN ?_ _ | refine blk_drew ?_ | refine blk_alloc ?_ _)); refine blk_put (cs := #[.int .i64 a0_0, .int .i64 a0_1, .slice none 0 0]) ?_ 2 _ rfl; (with_reducible repeat (first | refine blk_drewN ?_ _ | refine blk_drew ?_ | refine blk_alloc ?_ _)); refine blk_put (cs := #[.int .i64 a0_0, .int .i64 0, .slice none 0 0]) ?_ 1 _ rfl; (with_reducible repeat (first | refine blk_drewN ?_ _ | refine blk_drew ?_ | refine blk_alloc ?_ _)); refine blk_put (cs := #[.int .i64 0, .int .i64 0, .slice none 0 0]) ?_ 0 _ rfl; (with_reducible repeat (first | refine blk_drewN ?_ _ | refine blk_drew ?_ | refine blk_alloc ?_ _)); exact BK103.out⟩, ⟨by repeat (first | (with_reducible first | exact HB.out | apply below_alloc | apply pw_below_drewN | apply below_drew1 | refine below_set ?_ GE101.out | refine below_set ?_ GE102.out | refine below_set ?_ GE103.out) | exact HB.out)⟩⟩
 case round =>
  clear H'
  try clear c1
  try clear p2
  try clear c4
  try clear c7
  try clear c8
  try clear c10
  try clear hcz10_0
  try clear hcz10_1
  try clear hcz10_2
  try clear hcz5_0
  try clear hcz5_1
  try clear hcz5_2
  try clear hcz9_0
  try clear hcz9_1
  try clear hcz9_2
  try clear hfz10_0
  try clear hfz10_1
  try clear hfz10_2
  try clear hfz5_0
  try clear hfz5_1
  try clear hfz5_2
  try clear hfz9_0
  try clear hfz9_1
  try clear hfz9_2
  obtain ⟨x14_1, x104002_1, u104002, rfl, HA, HK1, HO_104002, BK101, BK102, BK103, HB⟩ := hrel
  cases gk with
  | zero => exact absurd HA.out (by simp [wickerlaw03_Of.l0])
  | succ k1 =>
   have H := HA.out
   clear HA
   simp only [wickerlaw03_Of.l0] at H
   by_cases c11 : x14_1 < (l0_2.length : Int)
   ·rw [if_pos c11] at H
    have c11b0 : decide (x14_1 < (l0_2.length : Int)) = true := decide_eq_true c11
    clear c11
    by_cases c12 : 0 ≤ x14_1
    ·rw [if_pos c12] at H
     have c12b0 : decide (0 ≤ x14_1) = true := decide_eq_true c12
     clear c12
     by_cases c13 : x14_1 < (l0_2.length : Int)
     ·rw [if_pos c13] at H
      have c13b0 : decide (x14_1 < (l0_2.length : Int)) = true := decide_eq_true c13
      clear c13
      replace H := Option.bind_eq_some_iff.mp H
      obtain ⟨⟨t106, t107, t108⟩, A140, H⟩ := H
      replace H : (if x104002_1.length < 3518437208883 then (wickerlaw03_Of.l0 k1 l0_2 (l0_2.length : Int) (wrap64 (x14_1 + 1)) a0_0 a0_1 (x104002_1 ++ [(⟨t106, t107, t108⟩ : S58)])) else (none)) = some (r1, r2, r3) := H
      have A14 := Aside0.mk A140
      clear A140
      by_cases c15 : x104002_1.length < 3518437208883
      ·rw [if_pos c15] at H
       have LMc15 := Aside0.mk c15
       clear c15
       obtain ⟨y111, hy111⟩ : ∃ y_ : List (S58), y_ = (x104002_1 ++ [(⟨t106, t107, t108⟩ : S58)]) := ⟨_, rfl⟩
       replace H : (wickerlaw03_Of.l0 k1 l0_2 (l0_2.length : Int) (wrap64 (x14_1 + 1)) a0_0 a0_1 y111) = some (r1, r2, r3) := by first | (rw [hy111]; with_reducible exact H) | (have H2_ := (Option.bind_some _ _).symm.trans H; rw [hy111]; with_reducible exact H2_) | (have H2_ := (Option.bind_some _ _).symm.trans H; with_reducible exact H2_) | with_reducible exact H | (rw [hy111]; exact H) | exact H
       have Ny111 := Aside0.mk hy111
       clear hy111
       have H' := Aside0.mk H
       clear H
       have p104 : 0 ≤ (x14_1 : Int) := of_decide_eq_true (by first | (with_reducible assumption) | assumption)
       have q104 : x14_1 < (l0_2.length : Int) := of_decide_eq_true (by first | (with_reducible assumption) | assumption)
       obtain ⟨ad104, A104_2, c104_2, e104, hx104_0, hx104_1, hx104_2, hl104_2, hi104_2⟩ := at_T55 HR0_2.out x14_1 p104 q104
       cases e104
       replace hx104_0 := (HB.out.cell (World.block_lt_of_cell? w _ hx104_0)).trans hx104_0
       replace hx104_1 := (HB.out.cell (World.block_lt_of_cell? w _ hx104_1)).trans hx104_1
       replace hx104_2 := (HB.out.cell (World.block_lt_of_cell? w _ hx104_2)).trans hx104_2
       have HR104_2 := Aside0.mk hi104_2
       have HC104_2 := Aside0.mk hl104_2
       clear hi104_2 hl104_2
       replace p104 := eq_true p104
       replace q104 := eq_true q104
       try go_wp2_with (first | ((with_reducible refine gate_dst (N := 5) rfl ?_); refine box_event ?hg (N := 5) ?hd (cs := #[.int .i64 0, .int .i64 0, .slice none 0 0]) (t := 55) ?hr ?_; (case hd => rfl); (case hg => rfl); (case hr => first | (go_simp; done) | (go_simp; rfl)); intro gb105 hg w16 hbox hb; have n0_ := Aside0.mk (Kd.R_below (by (with_reducible repeat (first | apply Kd.R_alloc | apply Kd.R_drewN | apply Kd.R_drew)); exact HO_104002.out) hb); have n1_ := Aside0.mk (blk_below (g := gb101) (o := .cells #[.int .i64 a0_0, .int .i64 a0_1, .slice (some ad104) l0_2.length c0_2] 55 (0, 0)) (by (with_reducible repeat (first | refine blk_drewN ?_ _ | refine blk_drew ?_ | refine blk_alloc ?_ _)); exact BK101.out) hb); have n2_ := Aside0.mk (blk_below (g := gb102) (o := .cells #[.int .i64 0, .int .i64 0, .slice none 0 0] 58 (0, 0)) (by (with_reducible repeat (first | refine blk_drewN ?_ _ | refine blk_drew ?_ | refine blk_alloc ?_ _)); exact BK102.out) hb); have n3_ := Aside0.mk (blk_below (g := gb103) (o := .cells #[.int .i64 a0_0, .int .i64 a0_1, u104002] 58 (0, 0)) (by (with_reducible repeat (first | refine blk_drewN ?_ _ | refine blk_drew ?_ | refine blk_alloc ?_ _)); exact BK103.out) hb); have n4_ := Aside0.mk (below_step (by repeat (first | (with_reducible first | exact HB.out | apply below_alloc | apply pw_below_drewN | apply below_drew1 | refine below_set ?_ GE101.out | refine below_set ?_ GE102.out | refine below_set ?_ GE103.out) | exact HB.out)) hb); have n5_ := Aside0.mk (hbox); have n6_ := Aside0.mk ((by rw [hg]; exact (below_size (by repeat (first | (with_reducible first | exact HB.out | apply below_alloc | apply pw_below_drewN | apply below_drew1 | refine below_set ?_ GE101.out | refine below_set ?_ GE102.out | refine below_set ?_ GE103.out) | exact HB.out))) : w.heap.size ≤ gb105)); have n7_ := Aside0.mk ((by rw [hg]; exact (below_size (by repeat (first | (with_reducible first | exact HB.out | apply below_alloc | apply pw_below_drewN | apply below_drew1 | refine below_set ?_ GE101.out | refine below_set ?_ GE102.out | refine below_set ?_ GE103.out) | exact HB.out))) : w.heap.size ≤ gb105)); have n8_ := Aside0.mk ((by rw [hg]; exact Nat.ne_of_lt (blk_lt (g := gb101) (o := .cells #[.int .i64 a0_0, .int .i64 a0_1, .slice (some ad104) l0_2.length c0_2] 55 (0, 0)) (by (with_reducible repeat (first | refine blk_drewN ?_ _ | refine blk_drew ?_ | refine blk_alloc ?_ _)); exact BK101.out)) : gb101 ≠ gb105)); have n9_ := Aside0.mk ((by rw [hg]; exact Nat.ne_of_gt (blk_lt (g := gb101) (o := .cells #[.int .i64 a0_0, .int .i64 a0_1, .slice (some ad104) l0_2.length c0_2] 55 (0, 0)) (by (with_reducible repeat (first | refine blk_drewN ?_ _ | refine blk_drew ?_ | refine blk_alloc ?_ _)); exact BK101.out)) : gb105 ≠ gb101)); have n10_ := Aside0.mk ((by rw [hg]; exact Nat.ne_of_lt (blk_lt (g := gb102) (o := .cells #[.int .i64 0, .int .i64 0, .slice none 0 0] 58 (0, 0)) (by (with_reducible repeat (first | refine blk_drewN ?_ _ | refine blk_drew ?_ | refine blk_alloc ?_ _)); exact BK102.out)) : gb102 ≠ gb105)); have n11_ := Aside0.mk ((by rw [hg]; exact Nat.ne_of_gt (blk_lt (g := gb102) (o := .cells #[.int .i64 0, .int .i64 0, .slice none 0 0] 58 (0, 0)) (by (with_reducible repeat (first | refine blk_drewN ?_ _ | refine blk_drew ?_ | refine blk_alloc ?_ _)); exact BK102.out)) : gb105 ≠ gb102)); have n12_ := Aside0.mk ((by rw [hg]; exact Nat.ne_of_lt (blk_lt (g := gb103) (o := .cells #[.int .i64 a0_0, .int .i64 a0_1, u104002] 58 (0, 0)) (by (with_reducible repeat (first | refine blk_drewN ?_ _ | refine blk_drew ?_ | refine blk_alloc ?_ _)); exact BK103.out)) : gb103 ≠ gb105)); have n13_ := Aside0.mk ((by rw [hg]; exact Nat.ne_of_gt (blk_lt (g := gb103) (o := .cells #[.int .i64 a0_0, .int .i64 a0_1, u104002] 58 (0, 0)) (by (with_reducible repeat (first | refine blk_drewN ?_ _ | refine blk_drew ?_ | refine blk_alloc ?_ _)); exact BK103.out)) : gb105 ≠ gb103)); clear HO_104002; clear BK101; clear BK102; clear BK103; clear HB; have HO_104002 := n0_; have BK101 := n1_; have BK102 := n2_; have BK103 := n3_; have HB := n4_; have BK105 := n5_; have GW105 := n6_; have GE105 := n7_; have NB101_105 := n8_; have NB105_101 := n9_; have NB102_105 := n10_; have NB105_102 := n11_; have NB103_105 := n12_; have NB105_103 := n13_; clear n0_ n1_ n2_ n3_ n4_ n5_ n6_ n7_ n8_ n9_ n10_ n11_ n12_ n13_; clear hb hbox hg; have hnb17 := NB105_101.out; have hnc17 := NB101_105.out; have hnb18 := NB105_102.out; have hnc18 := NB102_105.out; have hnb19 := NB105_103.out; have hnc19 := NB103_105.out; have hcz20_0 : w16.cell? ⟨gb105, 0, none⟩ = some (.int .i64 0) := (blk_cell BK105.out 0).trans rfl; have hcz20_1 : w16.cell? ⟨gb105, 1, none⟩ = some (.int .i64 0) := (blk_cell BK105.out 1).trans rfl; have hcz20_2 : w16.cell? ⟨gb105, 2, none⟩ = some (.slice none 0 0) := (blk_cell BK105.out 2).trans rfl; have hfz20_0 := blk_frozen BK105.out 0; have hfz20_1 := blk_frozen BK105.out 1; have hfz20_2 := blk_frozen BK105.out 2))
       have n0_ : Aside0 (Kd.R k58 58 (((w16.setCell ⟨gb105, 0, none⟩ (.int .i64 ((rd_T55 l0_2 x14_1).f0))).setCell ⟨gb105, 1, none⟩ (.int .i64 ((rd_T55 l0_2 x14_1).f1))).setCell ⟨gb105, 2, none⟩ (.slice A104_2 ((rd_T55 l0_2 x14_1).f2).length c104_2)) w.heap.size (fun k_ => k_ ≠ gb102 ∧ k_ ≠ gb103) u104002 x104002_1) := ⟨by (with_reducible repeat (first | apply Kd.R_alloc | apply Kd.R_drewN | apply Kd.R_drew)); exact Kd.R_mono (Kd.R_far (p := ⟨gb105, 2, none⟩) (Kd.R_far (p := ⟨gb105, 1, none⟩) (Kd.R_far (p := ⟨gb105, 0, none⟩) (Kd.R_types HO_104002.out BK105.out (by decide)) (fun _ hk => hk.2) (.int .i64 ((rd_T55 l0_2 x14_1).f0))) (fun _ hk => hk.2) (.int .i64 ((rd_T55 l0_2 x14_1).f1))) (fun _ hk => hk.2) (.slice A104_2 ((rd_T55 l0_2 x14_1).f2).length c104_2)) (fun _ hk => ⟨hk.1.1, hk.1.2⟩)⟩
       have n1_ : Aside0 ((((w16.setCell ⟨gb105, 0, none⟩ (.int .i64 ((rd_T55 l0_2 x14_1).f0))).setCell ⟨gb105, 1, none⟩ (.int .i64 ((rd_T55 l0_2 x14_1).f1))).setCell ⟨gb105, 2, none⟩ (.slice A104_2 ((rd_T55 l0_2 x14_1).f2).length c104_2)).heap[gb101]? = some (.cells #[.int .i64 a0_0, .int .i64 a0_1, .slice (some ad104) l0_2.length c0_2] 55 (0, 0))) := ⟨by (with_reducible repeat (first | refine blk_drewN ?_ _ | refine blk_drew ?_ | refine blk_alloc ?_ _)); refine blk_far ?_ NB101_105.out _; (with_reducible repeat (first | refine blk_drewN ?_ _ | refine blk_drew ?_ | refine blk_alloc ?_ _)); refine blk_far ?_ NB101_105.out _; (with_reducible repeat (first | refine blk_drewN ?_ _ | refine blk_drew ?_ | refine blk_alloc ?_ _)); refine blk_far ?_ NB101_105.out _; (with_reducible repeat (first | refine blk_drewN ?_ _ | refine blk_drew ?_ | refine blk_alloc ?_ _)); exact BK101.out⟩
       have n2_ : Aside0 ((((w16.setCell ⟨gb105, 0, none⟩ (.int .i64 ((rd_T55 l0_2 x14_1).f0))).setCell ⟨gb105, 1, none⟩ (.int .i64 ((rd_T55 l0_2 x14_1).f1))).setCell ⟨gb105, 2, none⟩ (.slice A104_2 ((rd_T55 l0_2 x14_1).f2).length c104_2)).heap[gb102]? = some (.cells #[.int .i64 0, .int .i64 0, .slice none 0 0] 58 (0, 0))) := ⟨by (with_reducible repeat (first | refine blk_drewN ?_ _ | refine blk_drew ?_ | refine blk_alloc ?_ _)); refine blk_far ?_ NB102_105.out _; (with_reducible repeat (first | refine blk_drewN ?_ _ | refine blk_drew ?_ | refine blk_alloc ?_ _)); refine blk_far ?_ NB102_105.out _; (with_reducible repeat (first | refine blk_drewN ?_ _ | refine blk_drew ?_ | refine blk_alloc ?_ _)); refine blk_far ?_ NB102_105.out _; (with_reducible repeat (first | refine blk_drewN ?_ _ | refine blk_drew ?_ | refine blk_alloc ?_ _)); exact BK102.out⟩
       have n3_ : Aside0 ((((w16.setCell ⟨gb105, 0, none⟩ (.int .i64 ((rd_T55 l0_2 x14_1).f0))).setCell ⟨gb105, 1, none⟩ (.int .i64 ((rd_T55 l0_2 x14_1).f1))).setCell ⟨gb105, 2, none⟩ (.slice A104_2 ((rd_T55 l0_2 x14_1).f2).length c104_2)).heap[gb103]? = some (.cells #[.int .i64 a0_0, .int .i64 a0_1, u104002] 58 (0, 0))) := ⟨by (with_reducible repeat (first | refine blk_drewN ?_ _ | refine blk_drew ?_ | refine blk_alloc ?_ _)); refine blk_far ?_ NB103_105.out _; (with_reducible repeat (first | refine blk_drewN ?_ _ | refine blk_drew ?_ | refine blk_alloc ?_ _)); refine blk_far ?_ NB103_105.out _; (with_reducible repeat (first | refine blk_drewN ?_ _ | refine blk_drew ?_ | refine blk_alloc ?_ _)); refine blk_far ?_ NB103_105.out _; (with_reducible repeat (first | refine blk_drewN ?_ _ | refine blk_drew ?_ | refine blk_alloc ?_ _)); exact BK103.out⟩
       have n4_ : Aside0 ((((w16.setCell ⟨gb105, 0, none⟩ (.int .i64 ((rd_T55 l0_2 x14_1).f0))).setCell ⟨gb105, 1, none⟩ (.int .i64 ((rd_T55 l0_2 x14_1).f1))).setCell ⟨gb105, 2, none⟩ (.slice A104_2 ((rd_T55 l0_2 x14_1).f2).length c104_2)).heap[gb105]? = some (.cells #[.int .i64 ((rd_T55 l0_2 x14_1).f0), .int .i64 ((rd_T55 l0_2 x14_1).f1), .slice A104_2 ((rd_T55 l0_2 x14_1).f2).length c104_2] 55 (0, 0))) := ⟨by (with_reducible repeat (first | refine blk_drewN ?_ _ | refine blk_drew ?_ | refine blk_alloc ?_ _)); refine blk_put (cs := #[.int .i64 ((rd_T55 l0_2 x14_1).f0), .int .i64 ((rd_T55 l0_2 x14_1).f1), .slice none 0 0]) ?_ 2 _ rfl; (with_reducible repeat (first | refine blk_drewN ?_ _ | refine blk_drew ?_ | refine blk_alloc ?_ _)); refine blk_put (cs := #[.int .i64 ((rd_T55 l0_2 x14_1).f0), .int .i64 0, .slice none 0 0]) ?_ 1 _ rfl; (with_reducible repeat (first | refine blk_drewN ?_ _ | refine blk_drew ?_ | refine blk_alloc ?_ _)); refine blk_put (cs := #[.int .i64 0, .int .i64 0, .slice none 0 0]) ?_ 0 _ rfl; (with_reducible repeat (first | refine blk_drewN ?_ _ | refine blk_drew ?_ | refine blk_alloc ?_ _)); exact BK105.out⟩
       have n5_ : Aside0 (Below w.heap.size w (((w16.setCell ⟨gb105, 0, none⟩ (.int .i64 ((rd_T55 l0_2 x14_1).f0))).setCell ⟨gb105, 1, none⟩ (.int .i64 ((rd_T55 l0_2 x14_1).f1))).setCell ⟨gb105, 2, none⟩ (.slice A104_2 ((rd_T55 l0_2 x14_1).f2).length c104_2))) := ⟨by repeat (first | (with_reducible first | exact HB.out | apply below_alloc | apply pw_below_drewN | apply below_drew1 | refine below_set ?_ GE101.out | refine below_set ?_ GE102.out | refine below_set ?_ GE103.out | refine below_set ?_ GE105.out) | exact HB.out)⟩
       (try clear HO_104002)
       (try clear BK101)
       (try clear BK102)
       (try clear BK103)
       (try clear BK105)
       (try clear HB)
       generalize (((w16.setCell ⟨gb105, 0, none⟩ (.int .i64 ((rd_T55 l0_2 x14_1).f0))).setCell ⟨gb105, 1, none⟩ (.int .i64 ((rd_T55 l0_2 x14_1).f1))).setCell ⟨gb105, 2, none⟩ (.slice A104_2 ((rd_T55 l0_2 x14_1).f2).length c104_2)) = w21 at n0_ n1_ n2_ n3_ n4_ n5_ ⊢
       have HO_104002 := n0_
       have BK101 := n1_
       have BK102 := n2_
       have BK103 := n3_
       have BK105 := n4_
       have HB := n5_
       clear n0_ n1_ n2_ n3_ n4_ n5_
       have n0_ := Aside0.mk (Kd.R_drew HO_104002.out)
       have n1_ := Aside0.mk (blk_drew BK101.out)
       have n2_ := Aside0.mk (blk_drew BK102.out)
       have n3_ := Aside0.mk (blk_drew BK103.out)
       have n4_ := Aside0.mk (blk_drew BK105.out)
       have n5_ := Aside0.mk (below_drew1 HB.out)
       clear HO_104002
       clear BK101
       clear BK102
       clear BK103
       clear BK105
       clear HB
       have HO_104002 := n0_
       have BK101 := n1_
       have BK102 := n2_
       have BK103 := n3_
       have BK105 := n4_
       have HB := n5_
       clear n0_ n1_ n2_ n3_ n4_ n5_
       refine start_ (n := 8) (S := fun w' => w'.cell? ⟨gb103, 0, none⟩ = some (.int .i64 a0_0) ∧ w'.cell? ⟨gb103, 1, none⟩ = some (.int .i64 a0_1) ∧ w'.cell? ⟨gb103, 2, none⟩ = some (u104002) ∧ w'.cell? ⟨gb105, 0, none⟩ = some (.int .i64 ((rd_T55 l0_2 x14_1).f0)) ∧ w'.cell? ⟨gb105, 1, none⟩ = some (.int .i64 ((rd_T55 l0_2 x14_1).f1)) ∧ w'.cell? ⟨gb105, 2, none⟩ = some (.slice A104_2 ((rd_T55 l0_2 x14_1).f2).length c104_2)) (ds := [7]) #[false, false, false, false, false, false, false, false] (by kernel_rfl) rfl rfl ⟨(blk_cell BK103.out 0).trans rfl, (blk_cell BK103.out 1).trans rfl, (blk_cell BK103.out 2).trans rfl, (blk_cell BK105.out 0).trans rfl, (blk_cell BK105.out 1).trans rfl, (blk_cell BK105.out 2).trans rfl⟩ (fun hHeld => ?_); refine with_tabW wickerlaw03_Of.tab5 wickerlaw03_Of.bits5 (fun HT_ HW_ => ?_)
       generalize w21.drew = w22 at HO_104002 BK101 BK102 BK103 BK105 HB hHeld ⊢
       refine pure_ (i := 0) (N := some 18) (v := ?_) (a' := ?_) #[true, false, false, false, false, false, false, false] rfl rfl (any_of HT_.out (by kernel_rfl)) (fun _ _ _ h => h) (Or.inl ⟨by rfl, ?_⟩) ?_ ?_
       rotate_left
       ·intro w'
        go_simp
        with_reducible rfl
       rotate_left
       ·simp only [Act.put, List.setIfInBounds_toArray, List.set_cons_zero, List.set_cons_succ, i64_w, i32_w]
        rfl
       refine take_ (i := 1) (N := some 19) (v := ?_) (a' := ?_) #[true, true, false, false, false, false, false, false] rfl rfl (take_ofW HT_.out HW_.out (by kernel_rfl)) (fun _ _ _ h => h) (Or.inl ⟨by rfl, ?_⟩) hHeld ?_ ?_
       rotate_left
       ·rintro w' ⟨s0, s1, s2, s3, s4, s5⟩
        go_simp
        with_reducible rfl
       rotate_left
       ·simp only [Act.put, List.setIfInBounds_toArray, List.set_cons_zero, List.set_cons_succ, i64_w, i32_w]
        rfl
       refine take_ (i := 2) (N := some 20) (v := ?_) (a' := ?_) #[true, true, true, false, false, false, false, false] rfl rfl (take_ofW HT_.out HW_.out (by kernel_rfl)) (fun _ _ _ h => h) (Or.inl ⟨by rfl, ?_⟩) hHeld ?_ ?_
       rotate_left
       ·rintro w' ⟨s0, s1, s2, s3, s4, s5⟩
        go_simp
        with_reducible rfl
       rotate_left
       ·simp only [Act.put, List.setIfInBounds_toArray, List.set_cons_zero, List.set_cons_succ, i64_w, i32_w]
        rfl
       refine one_ (i := 3) (N := some 21) #[true, true, true, true, false, false, false, false] rfl rfl (one_of HT_.out (by kernel_rfl)) (by decide) (fun K hK => ?_)
       refine goes_ Tryd.func105 (by kernel_rfl) rfl #[.agg #[.int .i64 ((rd_T55 l0_2 x14_1).f0), .int .i64 ((rd_T55 l0_2 x14_1).f1), .slice A104_2 ((rd_T55 l0_2 x14_1).f2).length c104_2]] (by rfl) rfl rfl (by (try simp only [List.map_toArray, List.map_cons, List.map_nil]); first | done | rfl | (simp only [List.length_drop, List.length_take]; rfl)) ?_
       with_reducible refine (ih k1 (by have := HK1.out; omega) ((rd_T55 l0_2 x14_1).f0) ((rd_T55 l0_2 x14_1).f1) _ _ ((rd_T55 l0_2 x14_1).f2) t106 t107 t108 _ ?side1 ?side2 A14.out).mono ?_
       (case side1 => repeat (first | exact (Kd.C_below HR104_2.out HB.out) | (with_reducible refine Kd.C_alloc ?_ _) | (with_reducible refine Kd.C_drewN ?_ _) | (with_reducible refine Kd.C_drew ?_)))
       (case side2 => exact HC104_2.out)
       rintro e w23 ⟨v109, rfl, ho0, hb⟩
       refine ⟨_, rfl, ?_⟩
       have n0_ := Aside0.mk (Kd.R_elder' (by (with_reducible repeat (first | apply Kd.R_alloc | apply Kd.R_drewN | apply Kd.R_drew)); exact HO_104002.out) (Kd.R_base ho0) hb)
       have n1_ := Aside0.mk (Kd.R_lower (Kd.R_newB (Kd.R_newB (Kd.R_new' ho0 (Kd.R_lt (by (with_reducible repeat (first | apply Kd.R_alloc | apply Kd.R_drewN | apply Kd.R_drew)); exact HO_104002.out))) (g := gb102) (o := .cells #[.int .i64 0, .int .i64 0, .slice none 0 0] 58 (0, 0)) (by (with_reducible repeat (first | refine blk_drewN ?_ _ | refine blk_drew ?_ | refine blk_alloc ?_ _)); exact BK102.out)) (g := gb103) (o := .cells #[.int .i64 a0_0, .int .i64 a0_1, u104002] 58 (0, 0)) (by (with_reducible repeat (first | refine blk_drewN ?_ _ | refine blk_drew ?_ | refine blk_alloc ?_ _)); exact BK103.out)) (below_size (by repeat (first | (with_reducible first | exact HB.out | apply below_alloc | apply pw_below_drewN | apply below_drew1 | refine below_set ?_ GE101.out | refine below_set ?_ GE102.out | refine below_set ?_ GE103.out | refine below_set ?_ GE105.out) | exact HB.out))))
       have n2_ := Aside0.mk (blk_below (g := gb101) (o := .cells #[.int .i64 a0_0, .int .i64 a0_1, .slice (some ad104) l0_2.length c0_2] 55 (0, 0)) (by (with_reducible repeat (first | refine blk_drewN ?_ _ | refine blk_drew ?_ | refine blk_alloc ?_ _)); exact BK101.out) hb)
       have n3_ := Aside0.mk (blk_below (g := gb102) (o := .cells #[.int .i64 0, .int .i64 0, .slice none 0 0] 58 (0, 0)) (by (with_reducible repeat (first | refine blk_drewN ?_ _ | refine blk_drew ?_ | refine blk_alloc ?_ _)); exact BK102.out) hb)
       have n4_ := Aside0.mk (blk_below (g := gb103) (o := .cells #[.int .i64 a0_0, .int .i64 a0_1, u104002] 58 (0, 0)) (by (with_reducible repeat (first | refine blk_drewN ?_ _ | refine blk_drew ?_ | refine blk_alloc ?_ _)); exact BK103.out) hb)
       have n5_ := Aside0.mk (blk_below (g := gb105) (o := .cells #[.int .i64 ((rd_T55 l0_2 x14_1).f0), .int .i64 ((rd_T55 l0_2 x14_1).f1), .slice A104_2 ((rd_T55 l0_2 x14_1).f2).length c104_2] 55 (0, 0)) (by (with_reducible repeat (first | refine blk_drewN ?_ _ | refine blk_drew ?_ | refine blk_alloc ?_ _)); exact BK105.out) hb)
       have n6_ := Aside0.mk (below_step (by repeat (first | (with_reducible first | exact HB.out | apply below_alloc | apply pw_below_drewN | apply below_drew1 | refine below_set ?_ GE101.out | refine below_set ?_ GE102.out | refine below_set ?_ GE103.out | refine below_set ?_ GE105.out) | exact HB.out)) hb)
       clear HO_104002
       clear BK101
       clear BK102
       clear BK103
       clear BK105
       clear HB
       have HO_104002 := n0_
       have HO110 := n1_
       have BK101 := n2_
       have BK102 := n3_
       have BK103 := n4_
       have BK105 := n5_
       have HB := n6_
       clear n0_ n1_ n2_ n3_ n4_ n5_ n6_
       (try clear hb)
       (try clear hb2)
       (try clear hk)
       (try clear hi)
       (try clear ho0)
       obtain ⟨Ao25, co25, eo25⟩ := Kd.R_slice HO110.out
       (first | subst eo25 | (injection eo25 with f1_ f2_ f3_; have f4_ := f1_.symm; have f5_ := f3_.symm; clear f1_ f2_ f3_; subst f4_; subst f5_))
       refine hK.out _ _ ⟨(blk_cell BK103.out 0).trans rfl, (blk_cell BK103.out 1).trans rfl, (blk_cell BK103.out 2).trans rfl, (blk_cell BK105.out 0).trans rfl, (blk_cell BK105.out 1).trans rfl, (blk_cell BK105.out 2).trans rfl⟩ (fun hHeld => ?_)
       clear hK K
       refine norm_ (a' := ?_) ?_ ?_
       rotate_left
       ·show Act.put _ (some 21) _ = _
        simp only [Act.put, List.setIfInBounds_toArray, List.set_cons_zero, List.set_cons_succ, i64_w, i32_w]
        rfl
       refine one_ (i := 4) (N := some 22) #[true, true, true, true, true, false, false, false] rfl rfl (one_of HT_.out (by kernel_rfl)) (by decide) (fun K hK => ?_)
       refine value_ (w1 := ?_) (v := ?_) (by rfl) rfl ?_ ?_
       rotate_left 2
       ·go_simp
        constructor
        ·rfl
        ·rfl
       refine hK.out _ _ ⟨(blk_cell (blk_alloc BK103.out _) 0).trans rfl, (blk_cell (blk_alloc BK103.out _) 1).trans rfl, (blk_cell (blk_alloc BK103.out _) 2).trans rfl, (blk_cell (blk_alloc BK105.out _) 0).trans rfl, (blk_cell (blk_alloc BK105.out _) 1).trans rfl, (blk_cell (blk_alloc BK105.out _) 2).trans rfl⟩ (fun hHeld => ?_)
       clear hK K
       refine norm_ (a' := ?_) ?_ ?_
       rotate_left
       ·show Act.put _ (some 22) _ = _
        simp only [Act.put, List.setIfInBounds_toArray, List.set_cons_zero, List.set_cons_succ, i64_w, i32_w]
        rfl
       refine one_ (i := 5) (N := some 23) #[true, true, true, true, true, true, false, false] rfl rfl (one_of HT_.out (by kernel_rfl)) (by decide) (fun K hK => ?_)
       refine Kd.R_append_step k58 (w0 := w) w.heap.size (by rfl) (.tmp 19) (.tmp 22) 56 58 (.agg #[(.int .i64 0), (.int .i64 0), (.slice none 0 0)]) 40 rfl Tryd.underlying56 info58 rfl (by decide) (by omega) u104002 x104002_1 (⟨t106, t107, t108⟩ : S58) [.int .i64 t106, .int .i64 t107, .slice Ao25 t108.length co25] (fun k_ => k_ ≠ gb102 ∧ k_ ≠ gb103) (fun k_ => ((fun k_ => k_ ≠ gb102 ∧ k_ ≠ gb103)) k_ ∧ some k_ ≠ (u104002 : Value).ownBlock) rfl rfl ?aP (fun _ hk => hk) ?aF ?aO ?aB ?aS ?aL ?_
       (case aP => exact k58_mkM _ _ _ (⟨t106, t107, t108⟩ : S58) (Kd.R_mono (HO110.out) (fun k_ hk => ⟨⟨hk.1.2, hk.2⟩, hk.1.1.2⟩)))
       (case aB => exact (by repeat (first | (with_reducible first | exact HB.out | apply below_alloc | apply pw_below_drewN | apply below_drew1 | refine below_set ?_ GE101.out | refine below_set ?_ GE102.out | refine below_set ?_ GE103.out | refine below_set ?_ GE105.out) | exact HB.out)))
       (case aF => exact (fun k_ hk => ⟨Kd.freshB (g := gb102) (o := .cells #[.int .i64 0, .int .i64 0, .slice none 0 0] 58 (0, 0)) (by (with_reducible repeat (first | refine blk_drewN ?_ _ | refine blk_drew ?_ | refine blk_alloc ?_ _)); exact BK102.out) k_ hk, Kd.freshB (g := gb103) (o := .cells #[.int .i64 a0_0, .int .i64 a0_1, u104002] 58 (0, 0)) (by (with_reducible repeat (first | refine blk_drewN ?_ _ | refine blk_drew ?_ | refine blk_alloc ?_ _)); exact BK103.out) k_ hk⟩))
       (case aO => exact (by (with_reducible repeat (first | apply Kd.R_alloc | apply Kd.R_drewN | apply Kd.R_drew)); exact Kd.R_mono HO_104002.out (fun _ hk => ⟨hk.1.1, hk.1.2⟩)))
       (case aS => exact (below_size (by repeat (first | (with_reducible first | exact HB.out | apply below_alloc | apply pw_below_drewN | apply below_drew1 | refine below_set ?_ GE101.out | refine below_set ?_ GE102.out | refine below_set ?_ GE103.out | refine below_set ?_ GE105.out) | exact HB.out))))
       (case aL => have := LMc15.out; omega)
       intro v112 w24 ho hb hg hat
       rw [← Ny111.out] at ho
       have n0_ := Aside0.mk (blk_grown (g := gb101) (o := .cells #[.int .i64 a0_0, .int .i64 a0_1, .slice (some ad104) l0_2.length c0_2] 55 (0, 0)) (by (with_reducible repeat (first | refine blk_drewN ?_ _ | refine blk_drew ?_ | refine blk_alloc ?_ _)); exact BK101.out) hg (Kd.R_ne HO_104002.out BK101.out (by decide)))
       have n1_ := Aside0.mk (blk_grown (g := gb102) (o := .cells #[.int .i64 0, .int .i64 0, .slice none 0 0] 58 (0, 0)) (by (with_reducible repeat (first | refine blk_drewN ?_ _ | refine blk_drew ?_ | refine blk_alloc ?_ _)); exact BK102.out) hg (Kd.R_away HO_104002.out (fun _ hk => hk.1.1)))
       have n2_ := Aside0.mk (blk_grown (g := gb103) (o := .cells #[.int .i64 a0_0, .int .i64 a0_1, u104002] 58 (0, 0)) (by (with_reducible repeat (first | refine blk_drewN ?_ _ | refine blk_drew ?_ | refine blk_alloc ?_ _)); exact BK103.out) hg (Kd.R_away HO_104002.out (fun _ hk => hk.1.2)))
       have n3_ := Aside0.mk (blk_grown (g := gb105) (o := .cells #[.int .i64 ((rd_T55 l0_2 x14_1).f0), .int .i64 ((rd_T55 l0_2 x14_1).f1), .slice A104_2 ((rd_T55 l0_2 x14_1).f2).length c104_2] 55 (0, 0)) (by (with_reducible repeat (first | refine blk_drewN ?_ _ | refine blk_drew ?_ | refine blk_alloc ?_ _)); exact BK105.out) hg (Kd.R_ne HO_104002.out BK105.out (by decide)))
       have n4_ := Aside0.mk (hb)
       have n5_ := Aside0.mk (ho)
       clear BK101
       clear BK102
       clear BK103
       clear BK105
       clear HB
       clear HO_104002
       clear HO110
       have BK101 := n0_
       have BK102 := n1_
       have BK103 := n2_
       have BK105 := n3_
       have HB := n4_
       have HO113 := n5_
       clear n0_ n1_ n2_ n3_ n4_ n5_
       clear ho hb hg hat
       obtain ⟨Ao26, co26, eo26⟩ := Kd.R_slice HO113.out
       (first | subst eo26 | (injection eo26 with f1_ f2_ f3_; have f4_ := f1_.symm; have f5_ := f3_.symm; clear f1_ f2_ f3_; subst f4_; subst f5_))
       refine hK.out _ _ ⟨(blk_cell BK103.out 0).trans rfl, (blk_cell BK103.out 1).trans rfl, (blk_cell BK103.out 2).trans rfl, (blk_cell BK105.out 0).trans rfl, (blk_cell BK105.out 1).trans rfl, (blk_cell BK105.out 2).trans rfl⟩ (fun hHeld => ?_)
       clear hK K
       refine norm_ (a' := ?_) ?_ ?_
       rotate_left
       ·show Act.put _ (some 23) _ = _
        simp only [Act.put, List.setIfInBounds_toArray, List.set_cons_zero, List.set_cons_succ, i64_w, i32_w]
        rfl
       refine pure_ (i := 6) (N := some 24) (v := ?_) (a' := ?_) #[true, true, true, true, true, true, true, false] rfl rfl (any_of HT_.out (by kernel_rfl)) (fun _ _ _ h => h) (Or.inl ⟨by rfl, ?_⟩) ?_ ?_
       rotate_left
       ·intro w'
        go_simp
        with_reducible rfl
       rotate_left
       ·simp only [Act.put, List.setIfInBounds_toArray, List.set_cons_zero, List.set_cons_succ, i64_w, i32_w]
        rfl
       refine last_ (i := 7) (N := none) #[true, true, true, true, true, true, true, true] rfl rfl (one_of HT_.out (by kernel_rfl)) (by decide) (fun K hK => ?_)
       have hs27 : w24.cell? ⟨gb103, 2, none⟩ = some (u104002) := (blk_cell BK103.out 2).trans rfl
       have hfs27 := blk_frozen BK103.out 2
       have hns27_0 := NB101_103.out
       have hns27_1 := NB102_103.out
       have hns27_3 := NB105_103.out
       have hms27_0 := NB103_101.out
       have hms27_1 := NB103_102.out
       have hms27_3 := NB103_105.out
       refine skip_ (w1 := ?_) (by rfl) rfl ?_ ?_
       rotate_left
       ·go_simp
        rfl
       refine hK.out _ _ ?_
       clear hK K
       refine done_ (done_of HT_.out (by kernel_rfl)) ?_
       try go_wp2
       go_roundg k1
       case measure => have := HK1.out; omega
       case rel => exact ⟨(wrap64 (x14_1 + 1)), (y111), (.slice Ao26 y111.length co26), (by first | rfl | (simp; done) | (simp [*]; done)), H', ⟨by have := HK1.out; omega⟩, ⟨by (with_reducible repeat (first | apply Kd.R_alloc | apply Kd.R_drewN | apply Kd.R_drew)); exact Kd.R_mono (Kd.R_far (p := ⟨gb103, 2, none⟩) (Kd.R_mono HO113.out (fun k_ hk => (⟨hk, hk.2⟩ : _ ∧ k_ ≠ gb103))) (fun _ hk => hk.2) (.slice Ao26 y111.length co26)) (fun _ hk => ⟨hk.1.1, hk.1.2⟩)⟩, ⟨by (with_reducible repeat (first | refine blk_drewN ?_ _ | refine blk_drew ?_ | refine blk_alloc ?_ _)); refine blk_far ?_ NB101_103.out _; (with_reducible repeat (first | refine blk_drewN ?_ _ | refine blk_drew ?_ | refine blk_alloc ?_ _)); exact BK101.out⟩, ⟨by (with_reducible repeat (first | refine blk_drewN ?_ _ | refine blk_drew ?_ | refine blk_alloc ?_ _)); refine blk_far ?_ NB102_103.out _; (with_reducible repeat (first | refine blk_drewN ?_ _ | refine blk_drew ?_ | refine blk_alloc ?_ _)); exact BK102.out⟩, ⟨by (with_reducible repeat (first | refine blk_drewN ?_ _ | refine blk_drew ?_ | refine blk_alloc ?_ _)); refine blk_put (cs := #[.int .i64 a0_0, .int .i64 a0_1, u104002]) ?_ 2 _ rfl; (with_reducible repeat (first | refine blk_drewN ?_ _ | refine blk_drew ?_ | refine blk_alloc ?_ _)); exact BK103.out⟩, ⟨by repeat (first | (with_reducible first | exact HB.out | apply below_alloc | apply pw_below_drewN | apply below_drew1 | refine below_set ?_ GE101.out | refine below_set ?_ GE102.out | refine below_set ?_ GE103.out | refine below_set ?_ GE105.out) | exact HB.out)⟩⟩
      ·rw [if_neg c15] at H
       exact absurd H (by simp)
     ·rw [if_neg c13] at H
      exact absurd H (by simp)
    ·rw [if_neg c12] at H
     exact absurd H (by simp)
   ·rw [if_neg c11] at H
    have c11b0 : decide (x14_1 < (l0_2.length : Int)) = false := decide_eq_false c11
    clear c11
    simp only [Option.some.injEq, Prod.mk.injEq] at H
    obtain ⟨rfl, rfl, rfl⟩ := H
    have hnb28 := NB103_101.out
    have hnc28 := NB101_103.out
    have hnb29 := NB103_102.out
    have hnc29 := NB102_103.out
    have hcz30_0 : wr.cell? ⟨gb103, 0, none⟩ = some (.int .i64 a0_0) := (blk_cell BK103.out 0).trans rfl
    have hcz30_1 : wr.cell? ⟨gb103, 1, none⟩ = some (.int .i64 a0_1) := (blk_cell BK103.out 1).trans rfl
    have hcz30_2 : wr.cell? ⟨gb103, 2, none⟩ = some (u104002) := (blk_cell BK103.out 2).trans rfl
    have hfz30_0 := blk_frozen BK103.out 0
    have hfz30_1 := blk_frozen BK103.out 1
    have hfz30_2 := blk_frozen BK103.out 2
    have hnb31 := NB102_101.out
    have hnc31 := NB101_102.out
    have hcz32_0 : wr.cell? ⟨gb102, 0, none⟩ = some (.int .i64 0) := (blk_cell BK102.out 0).trans rfl
    have hcz32_1 : wr.cell? ⟨gb102, 1, none⟩ = some (.int .i64 0) := (blk_cell BK102.out 1).trans rfl
    have hcz32_2 : wr.cell? ⟨gb102, 2, none⟩ = some (.slice none 0 0) := (blk_cell BK102.out 2).trans rfl
    have hfz32_0 := blk_frozen BK102.out 0
    have hfz32_1 := blk_frozen BK102.out 1
    have hfz32_2 := blk_frozen BK102.out 2
    obtain ⟨Ao33, co33, eo33⟩ := Kd.R_slice HO_104002.out
    subst eo33
    go_wp2
    refine bodyPost_ret (results_cell_row rfl _ _ gb102 58 #[.int .i64 a0_0, .int .i64 a0_1, .slice Ao33 x104002_1.length co33] (0, 0) _ rfl (by (with_reducible repeat (first | refine blk_drewN ?_ _ | refine blk_drew ?_ | refine blk_alloc ?_ _)); refine blk_put (cs := #[.int .i64 a0_0, .int .i64 a0_1, .slice none 0 0]) ?_ 2 _ rfl; (with_reducible repeat (first | refine blk_drewN ?_ _ | refine blk_drew ?_ | refine blk_alloc ?_ _)); refine blk_put (cs := #[.int .i64 a0_0, .int .i64 0, .slice none 0 0]) ?_ 1 _ rfl; (with_reducible repeat (first | refine blk_drewN ?_ _ | refine blk_drew ?_ | refine blk_alloc ?_ _)); refine blk_put (cs := #[.int .i64 0, .int .i64 0, .slice none 0 0]) ?_ 0 _ rfl; (with_reducible repeat (first | refine blk_drewN ?_ _ | refine blk_drew ?_ | refine blk_alloc ?_ _)); exact BK102.out) Tryd.underlying58 rfl (by kernel_rfl)) rfl ?_
    exact ⟨_, by first | rfl | (simp [errW_none, errW_some] <;> rfl) | (simp [*, errW_none, errW_some] <;> rfl), by (with_reducible repeat (first | apply Kd.R_alloc | apply Kd.R_drewN | apply Kd.R_drew)); exact Kd.R_mono (Kd.R_far (p := ⟨gb102, 2, none⟩) (Kd.R_far (p := ⟨gb102, 1, none⟩) (Kd.R_far (p := ⟨gb102, 0, none⟩) (Kd.R_mono HO_104002.out (fun k_ hk => (⟨hk, hk.1⟩ : _ ∧ k_ ≠ gb102))) (fun _ hk => hk.2) (.int .i64 a0_0)) (fun _ hk => hk.2) (.int .i64 a0_1)) (fun _ hk => hk.2) (.slice Ao33 x104002_1.length co33)) (fun _ hk => trivial), by repeat (first | (with_reducible first | exact HB.out | apply below_alloc | apply pw_below_drewN | apply below_drew1 | refine below_set ?_ GE101.out | refine below_set ?_ GE102.out | refine below_set ?_ GE103.out) | exact HB.out)⟩
end Go.Proofs.YtmdjmbdeeodehaaDoor.G
end
section
set_option linter.unusedVariables false
set_option linter.unusedSimpArgs false
namespace Go.Proofs.YtmdjmbdeeodehaaDoor.G
open Go Go.Proofs Go.RowKit Go.Proofs.YtmdjmbdeeodehaaDoorW.PrintWords Go.Proofs.YtmdjmbdeeodehaaDoor.Pure
mutual
def usedT : TTree → List Int
  | ⟨r, s, ks⟩ => if r < 0 then [] else r :: usedTs ks
def usedTs : List TTree → List Int
  | [] => []
  | k :: ks => usedT k ++ usedTs ks
end
theorem usedT_eq (t : TTree) : usedT t = if t.f0 < 0 then [] else t.f0 :: usedTs t.f2 := by cases t; simp [usedT]
mutual
theorem usedT_len : ∀ t : TTree, (usedT t).length ≤ cntT t
  | ⟨r, s, ks⟩ => by
    simp only [usedT, cntT]
    have := usedTs_len ks
    split
    · simp
    · simp only [List.length_cons]; omega
theorem usedTs_len : ∀ l : List TTree, (usedTs l).length ≤ cntTs l
  | [] => by simp [usedTs]
  | k :: ks => by
    have h1 := usedT_len k
    have h2 := usedTs_len ks
    simp only [usedTs, cntTs, List.length_append]; omega
end
theorem usedTs_app : ∀ a b : List TTree, usedTs (a ++ b) = usedTs a ++ usedTs b
  | [], b => by simp [usedTs]
  | k :: a, b => by simp [usedTs, usedTs_app a b]
theorem yieldTs_app : ∀ a b : List TTree, yieldTs (a ++ b) = yieldTs a ++ yieldTs b
  | [], b => by simp [yieldTs]
  | k :: a, b => by simp [yieldTs, yieldTs_app a b]
theorem rdT_at2 (ks : List TTree) (j : Nat) (h : j < ks.length) : rd_T55 ks (j : Int) = ks[j] := by
  rw [rd_T55, Int.toNat_natCast, List.getD_eq_getElem?_getD, List.getElem?_eq_getElem h]; rfl
theorem used_f : ∀ (n : Nat) (t : TTree), cntT t ≤ n → cntT t ≤ 1000000 → Ev (fun k => wickerlaw03_used.f k t.f0 t.f1 t.f2) (usedT t) := by
  intro n
  induction n with
  | zero => intro t h; have := cntT_pos t; omega
  | succ n ih =>
    intro t hn hb
    have hct := cntT_eq t
    have hl : ∀ (d j : Nat) (x : List Int), d + j = t.f2.length → x.length + cntTs (t.f2.drop j) ≤ 1000000 → Ev (fun k => wickerlaw03_used.l0 k x t.f2 (t.f2.length : Int) (j : Int)) (x ++ usedTs (t.f2.drop j)) := by
      have htl := cntTs_len t.f2
      intro d
      induction d with
      | zero =>
        intro j x hd hx
        obtain rfl : j = t.f2.length := by omega
        refine Ev.step (f := fun _ => some x) (fun k => ?_) ?_
        · rw [wickerlaw03_used.l0, if_neg (by omega)]
        · rw [List.drop_length, usedTs, List.append_nil]; exact Ev.now _
      | succ d ihd =>
        intro j x hd hx
        have hj : j < t.f2.length := by omega
        have hdr : t.f2.drop j = t.f2[j] :: t.f2.drop (j + 1) := List.drop_eq_getElem_cons hj
        rw [hdr, cntTs] at hx
        rw [hdr, usedTs, ← List.append_assoc]
        have hm := cntTs_mem (List.getElem_mem hj)
        have hy := usedT_len t.f2[j]
        refine Ev.step (fun k => by rw [wickerlaw03_used.l0, if_pos (by omega), if_pos (by omega), if_pos (by omega), rdT_at2 _ j hj]) (Ev.bind (ih t.f2[j] (by omega) (by omega)) ?_)
        refine Ev.pos (by omega) ?_
        rw [w64b (by omega) (by omega), show (j : Int) + 1 = ((j + 1 : Nat) : Int) by omega]
        exact ihd (j + 1) _ (by omega) (by rw [List.length_append]; omega)
    rw [usedT_eq]
    by_cases h0 : t.f0 < 0
    · rw [if_pos h0]
      refine Ev.step (f := fun _ => some []) (fun k => ?_) (Ev.now _)
      rw [wickerlaw03_used.f, if_pos h0]
    · rw [if_neg h0]
      refine Ev.step (fun k => by rw [wickerlaw03_used.f, if_neg h0]) ?_
      have h1 := hl t.f2.length 0 [t.f0] (by omega) (by simp only [List.drop_zero, List.length_cons, List.length_nil]; omega)
      rwa [List.drop_zero] at h1
theorem of3_f : ∀ (n : Nat) (t : TTree), cntT t ≤ n → cntT t ≤ 1000000 → Ev (fun k => wickerlaw03_Of.f k t.f0 t.f1 t.f2) ((toR t).f0, (toR t).f1, (toR t).f2) := by
  intro n
  induction n with
  | zero => intro t h; have := cntT_pos t; omega
  | succ n ih =>
    intro t hn hb
    have hct := cntT_eq t
    have htl := cntTs_len t.f2
    have hl : ∀ (d j : Nat), d + j = t.f2.length → Ev (fun k => wickerlaw03_Of.l0 k t.f2 (t.f2.length : Int) (j : Int) t.f0 t.f1 (toRs (t.f2.take j))) (t.f0, t.f1, toRs t.f2) := by
      intro d
      induction d with
      | zero =>
        intro j hd
        obtain rfl : j = t.f2.length := by omega
        refine Ev.step (f := fun _ => some (t.f0, t.f1, toRs t.f2)) (fun k => ?_) (Ev.now _)
        rw [wickerlaw03_Of.l0, if_neg (by omega), List.take_length]
      | succ d ihd =>
        intro j hd
        have hj : j < t.f2.length := by omega
        have hm := cntTs_mem (List.getElem_mem hj)
        refine Ev.step (fun k => by rw [wickerlaw03_Of.l0, if_pos (by omega), if_pos (by omega), if_pos (by omega), rdT_at2 _ j hj]) (Ev.bind (ih t.f2[j] (by omega) (by omega)) ?_)
        refine Ev.pos (by rw [toRs_length, List.length_take]; omega) ?_
        rw [w64b (by omega) (by omega), show (j : Int) + 1 = ((j + 1 : Nat) : Int) by omega]
        have h2 := ihd (j + 1) (by omega)
        rw [List.take_succ_eq_append_getElem hj, toRs_map, List.map_append, List.map_cons, List.map_nil, ← toRs_map] at h2
        have eta : ∀ y : RTree, (⟨y.f0, y.f1, y.f2⟩ : RTree) = y := fun y => by cases y; rfl
        refine Ev.congr (fun k => ?_) h2
        rw [eta]
    rw [toR_f0, toR_f1, toR_f2]
    refine Ev.step (fun k => by rw [wickerlaw03_Of.f]) ?_
    have h1 := hl t.f2.length 0 (by omega)
    rw [List.take_zero] at h1
    simpa [toRs] using h1
def sgnT (l3 : List GRule) (k : TTree) : Int := if k.f0 < 0 then k.f1 else (ruleAt l3 k.f0).f0
def okD (l3 : List GRule) (k : TTree) : Prop := (k.f0 < 0 ∧ k.f1 < 0) ∨ fitT l3 k = 0
theorem fits_sgn {l3 : List GRule} : ∀ (ss : List Int) (ks : List TTree), fitTs l3 ss ks = 0 → ss.length = ks.length → ks.map (sgnT l3) = ss ∧ ∀ k ∈ ks, okD l3 k
  | [], [], _, _ => ⟨rfl, fun _ h => by cases h⟩
  | _ :: _, [], _, hl => by simp at hl
  | [], _ :: _, _, hl => by simp at hl
  | s :: ss, x :: ks, h, hl => by
    simp only [fitTs] at h
    split at h
    · cases h
    rename_i h1
    have hl2 : ss.length = ks.length := by simpa using hl
    split at h
    · rename_i h2
      split at h
      · cases h
      rename_i h3
      have e : x.f1 = s := by
        by_cases e : x.f1 = s
        · exact e
        · exact absurd (.inl e) h3
      have e0 : x.f0 = -1 := by
        by_cases e : x.f0 = -1
        · exact e
        · exact absurd (.inr (.inl e)) h3
      obtain ⟨g1, g2⟩ := fits_sgn ss ks h hl2
      refine ⟨?_, fun k hk => ?_⟩
      · rw [List.map_cons, g1, sgnT, if_pos (by omega), e]
      · rcases List.mem_cons.1 hk with rfl | hk
        · exact .inl ⟨by omega, by omega⟩
        · exact g2 k hk
    · rename_i h2
      split at h
      · rename_i h4; exact absurd h h4
      rename_i h4
      split at h
      · cases h
      rename_i h5
      have h6 : fitT l3 x = 0 := by simpa using h4
      have h7 : (ruleAt l3 x.f0).f0 = s := by simpa using h5
      obtain ⟨g1, g2⟩ := fits_sgn ss ks h hl2
      have h8 := (fitT_in h6).1
      refine ⟨?_, fun k hk => ?_⟩
      · rw [List.map_cons, g1, sgnT, if_neg (by omega), h7]
      · rcases List.mem_cons.1 hk with rfl | hk
        · exact .inr h6
        · exact g2 k hk
theorem node_sgn {l3 : List GRule} {t : TTree} (h : fitT l3 t = 0) : t.f2.map (sgnT l3) = (ruleAt l3 t.f0).f1 ∧ ∀ k ∈ t.f2, okD l3 k := by
  obtain ⟨_, _, _, g3, g4⟩ := fitT_node h
  exact fits_sgn _ _ g4 g3
end Go.Proofs.YtmdjmbdeeodehaaDoor.G
end
section
set_option linter.unusedVariables false
set_option linter.unusedSimpArgs false
namespace Go.Proofs.YtmdjmbdeeodehaaDoor.G
open Go Go.Proofs Go.Proofs.YtmdjmbdeeodehaaDoor Go.RowKit Go.Proofs.YtmdjmbdeeodehaaDoorW.PrintWords Go.Proofs.YtmdjmbdeeodehaaDoorW.PrintLast Go.Proofs.YtmdjmbdeeodehaaDoorW.PrintMore Go.Proofs.YtmdjmbdeeodehaaDoor.Pure
set_option maxHeartbeats 8000000 in
set_option maxRecDepth 100000 in
theorem fits3_calls (A0 : Option Addr) (c0 : Nat) (l0 : List ByteArray) (A1 : Option Addr) (c1 : Nat) (l1 : List ByteArray) (a2 : Int) (A3 : Option Addr) (c3 : Nat) (l3 : List GRule) (hok : gramOk l0 l1 a2 l3 = true) (h0 : l0.length ≤ c0) (h1 : l1.length ≤ c1) (h3 : l3.length ≤ c3) (t : TTree) (T : Option Addr) (tc : Nat) (htc : t.f2.length ≤ tc) (hcnt : cntT t ≤ 1000000)
    (w : World) (hr0 : Kd.C Kd.string w A0 l0.length l0) (hr1 : Kd.C Kd.string w A1 l1.length l1) (hr3 : Kd.C k32 w A3 l3.length l3) (ht : Kd.C k55 w T t.f2.length t.f2) :
    Calls Tryd.prog 35 #[.agg #[.slice A0 l0.length c0, .slice A1 l1.length c1, .int .i64 a2, .slice A3 l3.length c3], .agg #[.int .i64 t.f0, .int .i64 t.f1, .slice T t.f2.length tc]] w fun e w' => e = .returned (.bool (treeC l0 l1 a2 l3 t == 0)) ∧ Below w.heap.size w w' := by
  have hu := Tryd.underlying25
  have hu2 := Tryd.underlying55
  have hu3 := Tryd.underlying63
  have hu4 := Tryd.underlying58
  have HI := Lib.hid (InT.mk0 (A0 := A0) (c0 := c0) (A1 := A1) (c1 := c1) (a2 := a2) (A3 := A3) (c3 := c3) (tc := tc) w hr0 hr1 hr3 ht)
  have hlo := gram_bounds hok
  have HLN : Hid (l3.length ≤ 1000000) := Lib.hid hlo.2.2.1
  have HRO : Hid (l3.all ruleOk = true) := Lib.hid (by simp only [gramOk, Bool.and_eq_true] at hok; exact hok.2)
  have HOK := Lib.hid hok
  obtain ⟨KO, hKO⟩ := Pure.Ev.out (of3_f _ t (Nat.le_refl _) hcnt)
  have HKO := Lib.hid (hKO KO (Nat.le_refl _))
  obtain ⟨cT, hcT⟩ : ∃ cT, treeC l0 l1 a2 l3 t = cT := ⟨_, rfl⟩
  have HCT := Lib.hid hcT
  rw [hcT]
  clear hr0 hr1 hr3 ht hok hlo hKO hcT
  go_enter Tryd.func35, Tryd.ntmps35
  go_wp2_with fail
  refine RegT.regionT (F := ?FF) (InT w A0 c0 l0 A1 c1 l1 a2 A3 c3 l3 t T tc) [fun v _ => v = .agg #[.slice A0 l0.length c0, .slice A1 l1.length c1, .int .i64 a2, .slice A3 l3.length c3], fun v W => ∃ Ao co, v = .agg #[.slice A0 l0.length c0, .slice A1 l1.length c1, .int .i64 a2, .slice Ao l3.length co] ∧ l3.length ≤ co ∧ Kd.C k87 W Ao l3.length (l3.map ofR), fun v _ => v = .agg #[.int .i64 t.f0, .int .i64 t.f1, .slice T t.f2.length tc], fun v W => ∃ R rc, v = .agg #[.int .i64 (toR t).f0, .int .i64 (toR t).f1, .slice R (toR t).f2.length rc] ∧ (toR t).f2.length ≤ rc ∧ Kd.C k58 W R (toR t).f2.length (toR t).f2, fun v _ => v = .int .i64 cT, fun v _ => v = .bool (cT == 0)] (fun i v => match i with  | _ => none) (fun i => match i with  | _ => false) 6 ?hFF (by kernel_rfl) (by kernel_rfl) (by kernel_rfl) (by kernel_rfl) (by kernel_rfl) (by simp) ⟨fun _ _ _ h _ => h, fun _ _ _ ⟨Ao, co, h1, h2, h3⟩ hb => ⟨Ao, co, h1, h2, Kd.C_below h3 hb⟩, fun _ _ _ h _ => h, fun _ _ _ ⟨Ao, co, h1, h2, h3⟩ hb => ⟨Ao, co, h1, h2, Kd.C_below h3 hb⟩, fun _ _ _ h _ => h, fun _ _ _ h _ => h, trivial⟩ ?hSF ⟨?o0F, ?o1F, ?o2F, ?o3F, ?o4F, ?o5F, trivial⟩ ?hendF
  case hFF => intro f; (try simp only [List.take_succ_cons, List.take_zero, RegT.fillIn, RegT.fv, Act.put, List.setIfInBounds_toArray, List.set_cons_zero, List.set_cons_succ]); exact rfl
  case hSF => exact HI.out.step (below_drew (Below.refl _ _))
  case o0F =>
    intro f W1 hS hd ho_ K hK
    clear hd
    clear ho_
    have z0 := hS.g.c0
    have z1 := hS.g.c1
    have z2 := hS.g.c2
    have z3 := hS.g.c3
    have y0 := hS.t0
    have y1 := hS.t1
    have y2 := hS.t2
    (go_simp; exact hK.out (.agg #[.slice A0 l0.length c0, .slice A1 l1.length c1, .int .i64 a2, .slice A3 l3.length c3]) _ hS (Below.refl _ _) rfl (fun _ (h : (none : Option Nat) = some _) => by cases h) _ (by rfl))
  case o1F =>
    intro f W1 hS hd ho_ K hK
    obtain ⟨e5, -⟩ := hd
    clear ho_
    replace e5 : f 5 = .agg #[.slice A0 l0.length c0, .slice A1 l1.length c1, .int .i64 a2, .slice A3 l3.length c3] := e5
    go_simp
    go_at_call 30
    refine (of_calls3 A0 c0 l0 A1 c1 l1 a2 A3 c3 l3 HLN.out HRO.out W1 hS.g.r3).mono ?_
    rintro e w' ⟨Ao, co, rfl, hC, ho, hb⟩
    exact hK.out (.agg #[.slice A0 l0.length c0, .slice A1 l1.length c1, .int .i64 a2, .slice Ao l3.length co]) _ (hS.step hb) hb ⟨Ao, co, rfl, ho, hC⟩ (fun _ (h : (none : Option Nat) = some _) => by cases h) _ (by first | (simp only [e5]; done) | (simp only [e5]; rfl) | rfl)
  case o2F =>
    intro f W1 hS hd ho_ K hK
    clear hd
    clear ho_
    have z0 := hS.g.c0
    have z1 := hS.g.c1
    have z2 := hS.g.c2
    have z3 := hS.g.c3
    have y0 := hS.t0
    have y1 := hS.t1
    have y2 := hS.t2
    (go_simp; exact hK.out (.agg #[.int .i64 t.f0, .int .i64 t.f1, .slice T t.f2.length tc]) _ hS (Below.refl _ _) rfl (fun _ (h : (none : Option Nat) = some _) => by cases h) _ (by rfl))
  case o3F =>
    intro f W1 hS hd ho_ K hK
    obtain ⟨e7, -, -⟩ := hd
    clear ho_
    replace e7 : f 7 = .agg #[.int .i64 t.f0, .int .i64 t.f1, .slice T t.f2.length tc] := e7
    go_simp
    go_at_call 105
    refine (wickerlaw03_Of.calls KO t.f0 t.f1 T tc t.f2 _ _ _ W1 hS.tr htc HKO.out).mono ?_
    rintro e w' ⟨v2, rfl, hv, hb⟩
    obtain ⟨R, rc, rfl, hl, hC⟩ := Kd.R_reads hv
    exact hK.out (.agg #[.int .i64 (toR t).f0, .int .i64 (toR t).f1, .slice R (toR t).f2.length rc]) _ (hS.step hb) hb ⟨R, rc, rfl, hl, hC⟩ (fun _ (h : (none : Option Nat) = some _) => by cases h) _ (by first | (simp only [e7]; done) | (simp only [e7]; rfl) | rfl)
  case o4F =>
    intro f W1 hS hd ho_ K hK
    obtain ⟨e6, e8, -, -⟩ := hd
    clear ho_
    obtain ⟨Ao, co, e6, ho6, hC6⟩ := e6
    obtain ⟨R, rc, e8, ho8, hC8⟩ := e8
    go_simp
    go_at_call 32
    refine (rtreeCheck_calls3 A0 c0 l0 A1 c1 l1 a2 Ao co l3 HOK.out h0 h1 ho6 t R rc ho8 hcnt W1 hS.g.r0 hS.g.r1 hC6 hC8).mono ?_
    rintro e w' ⟨rfl, hb⟩
    rw [HCT.out]
    exact hK.out (.int .i64 cT) _ (hS.step hb) hb rfl (fun _ (h : (none : Option Nat) = some _) => by cases h) _ (by first | (simp only [e6, e8]; done) | (simp only [e6, e8]; rfl) | rfl)
  case o5F =>
    intro f W1 hS hd ho_ K hK
    obtain ⟨e9, -⟩ := hd
    clear ho_
    replace e9 : f 9 = .int .i64 cT := e9
    (go_simp; exact hK.out (.bool (cT == 0)) _ hS (Below.refl _ _) rfl (fun _ (h : (none : Option Nat) = some _) => by cases h) _ (by first | (simp only [e9]; done) | (simp only [e9]; rfl) | rfl))
  case hendF =>
    intro f W1 hS hr hbl
    have e10 := hr 5 _ _ (by omega) rfl rfl
    replace e10 : f 10 = .bool (cT == 0) := e10
    (try dsimp only)
    generalize f 10 = x10 at *
    subst e10
    try simp only [List.drop_succ_cons, List.drop_zero]
    have HB := Lib.hid hS.g.bel
    clear hS hr hbl
    go_wp2
    go_ret
    exact ⟨rfl, HB.out⟩
end Go.Proofs.YtmdjmbdeeodehaaDoor.G
end
