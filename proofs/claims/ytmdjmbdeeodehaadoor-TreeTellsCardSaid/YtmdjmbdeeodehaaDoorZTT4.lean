/- TreeTells of the law03 answers true for every grammar and every two lists of parts: yields, counts, sameness and texts of the built trees are the same by the program and by the document: part 5 of 6 of its proof, packed by a program of this session out of the texts TreeX, TreeY, TreeD, GRef012, UNames0, GRef032, GRef025, GRef033, GLaw033, TreeQ, TreeS. -/
import Derived.Test.YtmdjmbdeeodehaaDoorZTT3
import Derived.Laws.EntriesVeiled
import Derived.Deep.RegionHeld3
import Derived.Lib.FrozenHead2
import Derived.Lib.OthersKept
import Derived.WalkSpells
section
set_option linter.unusedVariables false
set_option linter.unusedSimpArgs false
namespace Go.Proofs.YtmdjmbdeeodehaaDoor.G
open Go Go.Proofs Go.RowKit Go.Proofs.YtmdjmbdeeodehaaDoorW.PrintWords Go.Proofs.YtmdjmbdeeodehaaDoorW.PrintLast Go.Proofs.YtmdjmbdeeodehaaDoorW.PrintMore Go.Proofs.YtmdjmbdeeodehaaDoor.Pure
def sgn (l0 l1 : List ByteArray) (a2 : Int) (l3 : List GRule) (s : Int) : ByteArray := (gram_Grammar_Text.f l0 l1 a2 l3 s).getD ByteArray.empty
mutual
def txT (l0 l1 : List ByteArray) (a2 : Int) (l3 : List GRule) : TTree → List UInt8
  | ⟨r, s, ks⟩ => if r < 0 then (sgn l0 l1 a2 l3 s).data.toList else 40 :: ((rdOf ByteArray.empty l0 (ruleAt l3 r).f0).data.toList ++ (txTs l0 l1 a2 l3 ks ++ [41]))
def txTs (l0 l1 : List ByteArray) (a2 : Int) (l3 : List GRule) : List TTree → List UInt8
  | [] => []
  | k :: ks => 32 :: (txT l0 l1 a2 l3 k ++ txTs l0 l1 a2 l3 ks)
end
mutual
def txOk (l0 l1 : List ByteArray) (a2 : Int) (l3 : List GRule) : TTree → Bool
  | ⟨r, s, ks⟩ => if r < 0 then (gram_Grammar_Text.f l0 l1 a2 l3 s).isSome else decide (r < l3.length) && (decide (0 ≤ (ruleAt l3 r).f0 ∧ (ruleAt l3 r).f0 < l0.length) && txOks l0 l1 a2 l3 ks)
def txOks (l0 l1 : List ByteArray) (a2 : Int) (l3 : List GRule) : List TTree → Bool
  | [] => true
  | k :: ks => txOk l0 l1 a2 l3 k && txOks l0 l1 a2 l3 ks
end
theorem txT_eq (l0 l1 : List ByteArray) (a2 : Int) (l3 : List GRule) (t : TTree) : txT l0 l1 a2 l3 t = if t.f0 < 0 then (sgn l0 l1 a2 l3 t.f1).data.toList else 40 :: ((rdOf ByteArray.empty l0 (ruleAt l3 t.f0).f0).data.toList ++ (txTs l0 l1 a2 l3 t.f2 ++ [41])) := by cases t; simp [txT]
theorem txOk_eq (l0 l1 : List ByteArray) (a2 : Int) (l3 : List GRule) (t : TTree) : txOk l0 l1 a2 l3 t = if t.f0 < 0 then (gram_Grammar_Text.f l0 l1 a2 l3 t.f1).isSome else decide (t.f0 < l3.length) && (decide (0 ≤ (ruleAt l3 t.f0).f0 ∧ (ruleAt l3 t.f0).f0 < l0.length) && txOks l0 l1 a2 l3 t.f2) := by cases t; simp [txOk]
theorem txOks_mem {l0 l1 : List ByteArray} {a2 : Int} {l3 : List GRule} : ∀ {ks : List TTree}, txOks l0 l1 a2 l3 ks = true → ∀ k ∈ ks, txOk l0 l1 a2 l3 k = true
  | k :: ks, h, x, hx => by
    simp only [txOks, Bool.and_eq_true] at h
    rcases List.mem_cons.1 hx with rfl | hx
    · exact h.1
    · exact txOks_mem h.2 x hx
theorem builder_below {B b : Nat} {bs : List Value} {W W' : World} (h : Lib.IsBuilderF 174 5 B b bs W) (hb : Below W.heap.size W W') : Lib.IsBuilderF 174 5 B b bs W' := by
  have one : ∀ p, Lib.BuilderAtF 174 5 B b p bs W → Lib.BuilderAtF 174 5 B b p bs W' := fun p ⟨hB, v, hk, hown, hne⟩ =>
    ⟨hB, v, blk_below hk hb, hown.kept (grown_of_below hb none) (by cases hv : v.ownBlock <;> simp), hne⟩
  exact h.elim (fun x => .inl (one _ x)) (fun x => .inr (one _ x))
theorem builder_blk {B b : Nat} {bs : List Value} {W : World} (h : Lib.IsBuilderF 174 5 B b bs W) : ∃ cs, W.heap[b]? = some (.cells cs 174 (0, 0)) := by
  rcases h with ⟨_, v, hk, _⟩ | ⟨_, v, hk, _⟩
  · exact ⟨_, hk⟩
  · exact ⟨_, hk⟩
structure InTx (w0 : World) (gb : Nat) (A0 : Option Addr) (c0 : Nat) (l0 : List ByteArray) (A1 : Option Addr) (c1 : Nat) (l1 : List ByteArray) (a2 : Int) (A3 : Option Addr) (c3 : Nat) (l3 : List GRule) (wb : Nat) (l : List UInt8) (W : World) : Prop where
  bel : Below w0.heap.size w0 W
  g : w0.heap[gb]? = some (.cells #[.slice A0 l0.length c0, .slice A1 l1.length c1, .int .i64 a2, .slice A3 l3.length c3] 25 (0, 0))
  r0 : Kd.C Kd.string w0 A0 l0.length l0
  r1 : Kd.C Kd.string w0 A1 l1.length l1
  r3 : Kd.C k32 w0 A3 l3.length l3
  b : Lib.IsBuilderF 174 5 w0.heap.size w0.heap.size (Lib.byteCells l) W
  f : W.heap[wb]? = some (.cells #[.func (.func 115) #[] #[.pointer (some ⟨w0.heap.size, 0, none⟩), .pointer (some ⟨gb, 0, none⟩), .pointer (some ⟨wb, 0, none⟩)]] 161 (0, 0))
section
variable {w0 : World} {gb : Nat} {A0 : Option Addr} {c0 : Nat} {l0 : List ByteArray} {A1 : Option Addr} {c1 : Nat} {l1 : List ByteArray} {a2 : Int} {A3 : Option Addr} {c3 : Nat} {l3 : List GRule} {wb : Nat} {l : List UInt8} {W W' : World}
theorem InTx.step (h : InTx w0 gb A0 c0 l0 A1 c1 l1 a2 A3 c3 l3 wb l W) (hb : Below W.heap.size W W') : InTx w0 gb A0 c0 l0 A1 c1 l1 a2 A3 c3 l3 wb l W' := ⟨h.bel.trans (hb.mono h.bel.size), h.g, h.r0, h.r1, h.r3, builder_below h.b hb, blk_below h.f hb⟩
theorem InTx.gW (h : InTx w0 gb A0 c0 l0 A1 c1 l1 a2 A3 c3 l3 wb l W) : W.heap[gb]? = some (.cells #[.slice A0 l0.length c0, .slice A1 l1.length c1, .int .i64 a2, .slice A3 l3.length c3] 25 (0, 0)) := blk_below h.g h.bel
theorem InTx.y0 (h : InTx w0 gb A0 c0 l0 A1 c1 l1 a2 A3 c3 l3 wb l W) : W.cell? ⟨gb, 0, none⟩ = some (.slice A0 l0.length c0) := (blk_cell h.gW 0).trans rfl
theorem InTx.y1 (h : InTx w0 gb A0 c0 l0 A1 c1 l1 a2 A3 c3 l3 wb l W) : W.cell? ⟨gb, 1, none⟩ = some (.slice A1 l1.length c1) := (blk_cell h.gW 1).trans rfl
theorem InTx.y2 (h : InTx w0 gb A0 c0 l0 A1 c1 l1 a2 A3 c3 l3 wb l W) : W.cell? ⟨gb, 2, none⟩ = some (.int .i64 a2) := (blk_cell h.gW 2).trans rfl
theorem InTx.y3 (h : InTx w0 gb A0 c0 l0 A1 c1 l1 a2 A3 c3 l3 wb l W) : W.cell? ⟨gb, 3, none⟩ = some (.slice A3 l3.length c3) := (blk_cell h.gW 3).trans rfl
theorem InTx.f0 (h : InTx w0 gb A0 c0 l0 A1 c1 l1 a2 A3 c3 l3 wb l W) : W.cell? ⟨wb, 0, none⟩ = some (.func (.func 115) #[] #[.pointer (some ⟨w0.heap.size, 0, none⟩), .pointer (some ⟨gb, 0, none⟩), .pointer (some ⟨wb, 0, none⟩)]) := (blk_cell h.f 0).trans rfl
theorem kept_box {b t : Nat} {cs : Array Value} (h : Lib.OthersKept 5 (some b) W W') {k : Nat} (hk : W.heap[k]? = some (.cells cs t (0, 0))) (hkb : k ≠ b) (ht : t ≠ 5) : W'.heap[k]? = some (.cells cs t (0, 0)) :=
  h k _ hk (fun e => hkb (Option.some.inj e)) (fun c fz e => ht (by injection e))
theorem tws (h : InTx w0 gb A0 c0 l0 A1 c1 l1 a2 A3 c3 l3 wb l W) (s : ByteArray) (hl : l.length + s.size ≤ 100000000000000) :
    Calls Tryd.prog 116 #[.pointer (some ⟨w0.heap.size, 0, none⟩), .string s] W fun e w' => e = .returned (.tuple #[.int .i64 s.size, .nilIface]) ∧ InTx w0 gb A0 c0 l0 A1 c1 l1 a2 A3 c3 l3 wb (l ++ s.data.toList) w' ∧ Lib.OthersKept 5 (some w0.heap.size) W w' := by
  refine (Tryd.Builder_WriteString_k w0.heap.size w0.heap.size (Lib.byteCells l) s W h.b (by rw [Lib.byteCells_length]; omega) h.bel.size).mono ?_
  rintro e w' ⟨rfl, h1, hb, hk⟩
  obtain ⟨cs, hbk⟩ := builder_blk h.b
  refine ⟨rfl, ⟨h.bel.trans hb, h.g, h.r0, h.r1, h.r3, ?_, kept_box hk h.f (blk_ne h.f hbk (by decide)) (by decide)⟩, hk⟩
  rw [Lib.byteCells_append]; exact Or.inr h1
end
theorem txenters (u : Value) (bb gb wb : Nat) (W : World) : Sem.run Tryd.prog (callFunc 115 #[u, .pointer (some ⟨bb, 0, none⟩), .pointer (some ⟨gb, 0, none⟩), .pointer (some ⟨wb, 0, none⟩)]) W = .ok (.enter 115 #[u, .pointer (some ⟨bb, 0, none⟩), .pointer (some ⟨gb, 0, none⟩), .pointer (some ⟨wb, 0, none⟩)]) W := by kernel_rfl
set_option maxHeartbeats 8000000 in
set_option maxRecDepth 100000 in
theorem text1_calls : ∀ (n : Nat) (t : TTree) (htn : cntT t ≤ n) (w0 : World) (T : Option Addr) (tc : Nat) (htc : t.f2.length ≤ tc) (ht : Kd.C k55 w0 T t.f2.length t.f2) (gb : Nat) (A0 : Option Addr) (c0 : Nat) (l0 : List ByteArray) (A1 : Option Addr) (c1 : Nat) (l1 : List ByteArray) (a2 : Int) (A3 : Option Addr) (c3 : Nat) (l3 : List GRule) (h0 : l0.length ≤ c0) (h1 : l1.length ≤ c1) (h3 : l3.length ≤ c3) (hk : txOk l0 l1 a2 l3 t = true) (hq0 : l0.length ≤ 1000000) (hq3 : l3.length ≤ 1000000)
    (wb : Nat) (l : List UInt8) (hl : l.length + (txT l0 l1 a2 l3 t).length ≤ 10000000000000) (W : World) (hI : InTx w0 gb A0 c0 l0 A1 c1 l1 a2 A3 c3 l3 wb l W),
    Calls Tryd.prog 115 #[.agg #[.int .i64 t.f0, .int .i64 t.f1, .slice T t.f2.length tc], .pointer (some ⟨w0.heap.size, 0, none⟩), .pointer (some ⟨gb, 0, none⟩), .pointer (some ⟨wb, 0, none⟩)] W fun e w' => e = .returned (.tuple #[]) ∧ InTx w0 gb A0 c0 l0 A1 c1 l1 a2 A3 c3 l3 wb (l ++ txT l0 l1 a2 l3 t) w' := by
  intro n
  induction n with
  | zero => intro t htn; have := cntT_pos t; omega
  | succ n ih =>
    intro t htn w0 T tc htc ht gb A0 c0 l0 A1 c1 l1 a2 A3 c3 l3 h0 h1 h3 hk hq0 hq3 wb l hl W hI
    have hu := Tryd.underlying55
    have hu2 := Tryd.underlying25
    have HIH := Lib.hid ih
    have HTN := Lib.hid htn
    have HT := Lib.hid ht
    have HTC := Lib.hid htc
    have hB0 : Below W.heap.size W (W.alloc (.cells #[.int .i64 t.f0, .int .i64 t.f1, .slice T t.f2.length tc] 55)) := (Below.refl _ _).alloc (Nat.le_refl _) _
    have hI1 := hI.step hB0
    have hTW : Hid (∀ W', InTx w0 gb A0 c0 l0 A1 c1 l1 a2 A3 c3 l3 wb l W' → Kd.C k55 W' T t.f2.length t.f2) := Lib.hid (fun W' h => Kd.C_below ht h.bel)
    have HY := Lib.hid (txT_eq l0 l1 a2 l3 t)
    have HOK := Lib.hid ((txOk_eq l0 l1 a2 l3 t).symm.trans hk)
    obtain ⟨ys, hys⟩ : ∃ ys, ys = txT l0 l1 a2 l3 t := ⟨_, rfl⟩
    rw [← hys] at HY hl ⊢
    have HL := Lib.hid hl
    have hbx := blk_new W (.cells #[.int .i64 t.f0, .int .i64 t.f1, .slice T t.f2.length tc] 55)
    have HBX := Lib.hid hbx
    have HI1 := Lib.hid hI1
    have HWB : Hid (W.heap.size ≠ w0.heap.size) := Lib.hid (by
      obtain ⟨cs, hbk⟩ := builder_blk hI.b
      have := blk_lt hbk
      omega)
    by_cases hlf : t.f0 < 0
    · have HLF : Hid (tree_Tree_leaf.f t.f0 t.f1 t.f2 = some true) := Lib.hid (by unfold tree_Tree_leaf.f; rw [decide_eq_true hlf])
      have HE : Hid (ys = (sgn l0 l1 a2 l3 t.f1).data.toList) := Lib.hid (by rw [HY.out, if_pos hlf])
      have HSG : Hid (gram_Grammar_Text.f l0 l1 a2 l3 t.f1 = some (sgn l0 l1 a2 l3 t.f1)) := Lib.hid (by
        have := HOK.out
        rw [if_pos hlf] at this
        unfold sgn
        obtain ⟨x, hx⟩ := Option.isSome_iff_exists.1 this
        rw [hx]; rfl)
      obtain ⟨sg, hsg⟩ : ∃ sg, sg = sgn l0 l1 a2 l3 t.f1 := ⟨_, rfl⟩
      rw [← hsg] at HSG HE
      have hsz : l.length + sg.size ≤ 10000000000000 := by
        have h := HL.out
        rw [HE.out, Go.Proofs.YtmdjmbdeeodehaaDoorW.PrintWords.data_length] at h; exact h
      have HSZ := Lib.hid hsz
      clear hlf hys hI hI1 ih htn ht htc hB0 hl hbx hk hsg hsz
      go_enter Tryd.func115, Tryd.ntmps115
      go_wp2_with fail
      refine (tree_Tree_leaf.calls t.f0 t.f1 T tc t.f2 true _ (hTW.out _ HI1.out) HTC.out HLF.out).mono ?_
      rintro e w2 ⟨rfl, hb2⟩
      have hI2 := HI1.out.step hb2
      have hbx2 := blk_below HBX.out hb2
      have y1 : w2.cell? ⟨W.heap.size, 1, none⟩ = some (.int .i64 t.f1) := (blk_cell hbx2 1).trans rfl
      have z0 := hI2.y0
      have z1 := hI2.y1
      have z2 := hI2.y2
      have z3 := hI2.y3
      have HI2 := Lib.hid hI2
      clear hb2 hI2 HI1 HBX hbx2
      go_wp2_with fail
      refine (gram_Grammar_Text.calls A0 c0 l0 A1 c1 l1 a2 A3 c3 l3 t.f1 sg _ (Kd.C_below HI2.out.r0 HI2.out.bel) h0 (Kd.C_below HI2.out.r1 HI2.out.bel) h1 (Kd.C_below HI2.out.r3 HI2.out.bel) h3 HSG.out).mono ?_
      rintro e w3 ⟨rfl, hb3⟩
      have HI3 := Lib.hid (HI2.out.step hb3)
      clear hb3 HI2 y1 z0 z1 z2 z3
      go_wp2_with fail
      refine (tws HI3.out sg (by have := HSZ.out; omega)).mono ?_
      rintro e w4 ⟨rfl, hI4, -⟩
      rw [← HE.out] at hI4
      have HI4 := Lib.hid hI4
      clear hI4 HI3
      go_wp2
      first
        | exact bodyPost_end (v := .tuple #[]) (by simp [results, Tryd.results115, go_sem]) rfl ⟨rfl, HI4.out⟩
        | exact bodyPost_ret (v := .tuple #[]) (by simp [results, Tryd.results115, go_sem]) rfl ⟨rfl, HI4.out⟩
    · have HLF : Hid (tree_Tree_leaf.f t.f0 t.f1 t.f2 = some false) := Lib.hid (by unfold tree_Tree_leaf.f; rw [decide_eq_false hlf])
      have HE := Lib.hid (HY.out.trans (if_neg hlf))
      have hok := HOK.out
      rw [if_neg hlf, Bool.and_eq_true, Bool.and_eq_true, decide_eq_true_eq, decide_eq_true_eq] at hok
      obtain ⟨ho1, ⟨ho2, ho3⟩, ho4⟩ := hok
      have hp0 : 0 ≤ t.f0 := by omega
      obtain ⟨ad, R2, rc2, eA, hx0, -, -, -⟩ := at_T32 HI1.out.r3 t.f0 hp0 ho1
      subst eA
      obtain ⟨q2, hq2⟩ : ∃ q2, q2 = (ruleAt l3 t.f0).f0 := ⟨_, rfl⟩
      rw [show (rd_T32 l3 t.f0).f0 = q2 from hq2.symm] at hx0
      rw [← hq2] at HE ho2 ho3
      obtain ⟨nad, eN, hxn⟩ := Kd.at_string HI1.out.r0 q2 ho2 ho3
      subst eN
      obtain ⟨nm, hnm⟩ : ∃ nm, nm = rdOf ByteArray.empty l0 q2 := ⟨_, rfl⟩
      rw [← hnm] at hxn HE
      have HX0 := Lib.hid hx0
      have HXN := Lib.hid hxn
      have HKS := Lib.hid ho4
      have htl : t.f2.length ≤ 9223372036854775807 := Kd.C_max HT.out
      have hnl : l.length + (nm.size + (txTs l0 l1 a2 l3 t.f2).length + 2) ≤ 10000000000000 := by
        have h := HL.out
        rw [HE.out] at h
        simp only [List.length_cons, List.length_append, Go.Proofs.YtmdjmbdeeodehaaDoorW.PrintWords.data_length, List.length_nil] at h
        omega
      have HNL := Lib.hid hnl
      clear hlf hys hI hI1 ih htn ht htc hB0 hl hbx hk hnl hnm hx0 hxn ho4 HOK HY hq2
      go_enter Tryd.func115, Tryd.ntmps115
      go_wp2_with fail
      refine (tree_Tree_leaf.calls t.f0 t.f1 T tc t.f2 false _ (hTW.out _ HI1.out) HTC.out HLF.out).mono ?_
      rintro e w2 ⟨rfl, hb2⟩
      have hI2 := HI1.out.step hb2
      have hbx2 := blk_below HBX.out hb2
      have y0 : w2.cell? ⟨W.heap.size, 0, none⟩ = some (.int .i64 t.f0) := (blk_cell hbx2 0).trans rfl
      have z0 := hI2.y0
      have z3 := hI2.y3
      have x0 := (hI2.bel.cell (World.block_lt_of_cell? _ _ HX0.out)).trans HX0.out
      have xn := (hI2.bel.cell (World.block_lt_of_cell? _ _ HXN.out)).trans HXN.out
      have HI2 := Lib.hid hI2
      have HBX2 := Lib.hid hbx2
      clear hb2 hI2 HI1 HBX hbx2
      go_wp2_with fail
      have hd2 := HI2.out.step (below_drew (Below.refl w2.heap.size w2))
      clear y0 z0 z3 x0 xn
      have hs1 : (⟨#[40]⟩ ++ nm : ByteArray).size ≤ 9223372036854775807 := by have := HNL.out; rw [ByteArray.size_append, show (⟨#[40]⟩ : ByteArray).size = 1 from rfl]; omega
      have hs2 : 1 + nm.size ≤ 9223372036854775807 := by have := HNL.out; omega
      refine RegT.regionT (F := ?FX) (fun W1 => InTx w0 gb (some nad) c0 l0 A1 c1 l1 a2 (some ad) c3 l3 wb l W1 ∧ W1.heap[W.heap.size]? = some (.cells #[.int .i64 t.f0, .int .i64 t.f1, .slice T t.f2.length tc] 55 (0, 0))) [fun v _ => v = .pointer (some ⟨gb, 0, none⟩), fun v _ => v = .slice (some nad) l0.length c0, fun v _ => v = .pointer (some ⟨gb, 3, none⟩), fun v _ => v = .slice (some ad) l3.length c3, fun v _ => v = .pointer (some ⟨W.heap.size, 0, none⟩), fun v _ => v = .int .i64 t.f0, fun v _ => v = .pointer (some (ad.add (t.f0.toNat * 2))), fun v _ => v = .pointer (some (ad.add (t.f0.toNat * 2))), fun v _ => v = .int .i64 q2, fun v _ => v = .pointer (some (nad.add q2.toNat)), fun v _ => v = .string nm, fun v _ => v = .string ((⟨#[40]⟩ : ByteArray) ++ nm)] (fun i v => match i with  | _ => none) (fun i => match i with  | _ => false) 12 ?hFX (by kernel_rfl) (by kernel_rfl) (by kernel_rfl) (by kernel_rfl) (by kernel_rfl) (by simp) ⟨fun _ _ _ h _ => h, fun _ _ _ h _ => h, fun _ _ _ h _ => h, fun _ _ _ h _ => h, fun _ _ _ h _ => h, fun _ _ _ h _ => h, fun _ _ _ h _ => h, fun _ _ _ h _ => h, fun _ _ _ h _ => h, fun _ _ _ h _ => h, fun _ _ _ h _ => h, fun _ _ _ h _ => h, trivial⟩ ?hSX ⟨?o0X, ?o1X, ?o2X, ?o3X, ?o4X, ?o5X, ?o6X, ?o7X, ?o8X, ?o9X, ?o10X, ?o11X, trivial⟩ ?hendX
      case hFX => intro f; (try simp only [List.take_succ_cons, List.take_zero, RegT.fillIn, RegT.fv, Act.put, List.setIfInBounds_toArray, List.set_cons_zero, List.set_cons_succ]); exact rfl
      case hSX => exact ⟨hd2, blk_drew HBX2.out⟩
      case o0X =>
        intro f W1 hS hd K hK
        clear hd
        (go_simp; exact hK.out (.pointer (some ⟨gb, 0, none⟩)) _ hS (Below.refl _ _) rfl (fun _ (h : (none : Option Nat) = some _) => by cases h) _ (by rfl))
      case o1X =>
        intro f W1 hS hd K hK
        obtain ⟨e14, -⟩ := hd
        replace e14 : f 14 = .pointer (some ⟨gb, 0, none⟩) := e14
        have y0 : W1.cell? ⟨W.heap.size, 0, none⟩ = some (.int .i64 t.f0) := (blk_cell hS.2 0).trans rfl
        have z0 := hS.1.y0
        have z3 := hS.1.y3
        have x0 := (hS.1.bel.cell (World.block_lt_of_cell? _ _ HX0.out)).trans HX0.out
        have xn := (hS.1.bel.cell (World.block_lt_of_cell? _ _ HXN.out)).trans HXN.out
        (go_simp; exact hK.out (.slice (some nad) l0.length c0) _ hS (Below.refl _ _) rfl (fun _ (h : (none : Option Nat) = some _) => by cases h) _ (by first | (simp only [e14]; done) | (simp only [e14]; rfl) | rfl))
      case o2X =>
        intro f W1 hS hd K hK
        clear hd
        (go_simp; exact hK.out (.pointer (some ⟨gb, 3, none⟩)) _ hS (Below.refl _ _) rfl (fun _ (h : (none : Option Nat) = some _) => by cases h) _ (by rfl))
      case o3X =>
        intro f W1 hS hd K hK
        obtain ⟨e16, -⟩ := hd
        replace e16 : f 16 = .pointer (some ⟨gb, 3, none⟩) := e16
        have y0 : W1.cell? ⟨W.heap.size, 0, none⟩ = some (.int .i64 t.f0) := (blk_cell hS.2 0).trans rfl
        have z0 := hS.1.y0
        have z3 := hS.1.y3
        have x0 := (hS.1.bel.cell (World.block_lt_of_cell? _ _ HX0.out)).trans HX0.out
        have xn := (hS.1.bel.cell (World.block_lt_of_cell? _ _ HXN.out)).trans HXN.out
        (go_simp; exact hK.out (.slice (some ad) l3.length c3) _ hS (Below.refl _ _) rfl (fun _ (h : (none : Option Nat) = some _) => by cases h) _ (by first | (simp only [e16]; done) | (simp only [e16]; rfl) | rfl))
      case o4X =>
        intro f W1 hS hd K hK
        clear hd
        (go_simp; exact hK.out (.pointer (some ⟨W.heap.size, 0, none⟩)) _ hS (Below.refl _ _) rfl (fun _ (h : (none : Option Nat) = some _) => by cases h) _ (by rfl))
      case o5X =>
        intro f W1 hS hd K hK
        obtain ⟨e18, -⟩ := hd
        replace e18 : f 18 = .pointer (some ⟨W.heap.size, 0, none⟩) := e18
        have y0 : W1.cell? ⟨W.heap.size, 0, none⟩ = some (.int .i64 t.f0) := (blk_cell hS.2 0).trans rfl
        have z0 := hS.1.y0
        have z3 := hS.1.y3
        have x0 := (hS.1.bel.cell (World.block_lt_of_cell? _ _ HX0.out)).trans HX0.out
        have xn := (hS.1.bel.cell (World.block_lt_of_cell? _ _ HXN.out)).trans HXN.out
        (go_simp; exact hK.out (.int .i64 t.f0) _ hS (Below.refl _ _) rfl (fun _ (h : (none : Option Nat) = some _) => by cases h) _ (by first | (simp only [e18]; done) | (simp only [e18]; rfl) | rfl))
      case o6X =>
        intro f W1 hS hd K hK
        obtain ⟨e17, e19, -⟩ := hd
        replace e17 : f 17 = .slice (some ad) l3.length c3 := e17
        replace e19 : f 19 = .int .i64 t.f0 := e19
        (go_simp; exact hK.out (.pointer (some (ad.add (t.f0.toNat * 2)))) _ hS (Below.refl _ _) rfl (fun _ (h : (none : Option Nat) = some _) => by cases h) _ (by first | (simp only [e17, e19]; done) | (simp only [e17, e19]; rfl) | rfl))
      case o7X =>
        intro f W1 hS hd K hK
        obtain ⟨e20, -⟩ := hd
        replace e20 : f 20 = .pointer (some (ad.add (t.f0.toNat * 2))) := e20
        (go_simp; exact hK.out (.pointer (some (ad.add (t.f0.toNat * 2)))) _ hS (Below.refl _ _) rfl (fun _ (h : (none : Option Nat) = some _) => by cases h) _ (by first | (simp only [e20]; done) | (simp only [e20]; rfl) | rfl))
      case o8X =>
        intro f W1 hS hd K hK
        obtain ⟨e21, -⟩ := hd
        replace e21 : f 21 = .pointer (some (ad.add (t.f0.toNat * 2))) := e21
        have y0 : W1.cell? ⟨W.heap.size, 0, none⟩ = some (.int .i64 t.f0) := (blk_cell hS.2 0).trans rfl
        have z0 := hS.1.y0
        have z3 := hS.1.y3
        have x0 := (hS.1.bel.cell (World.block_lt_of_cell? _ _ HX0.out)).trans HX0.out
        have xn := (hS.1.bel.cell (World.block_lt_of_cell? _ _ HXN.out)).trans HXN.out
        (go_simp; exact hK.out (.int .i64 q2) _ hS (Below.refl _ _) rfl (fun _ (h : (none : Option Nat) = some _) => by cases h) _ (by first | (simp only [e21]; done) | (simp only [e21]; rfl) | rfl))
      case o9X =>
        intro f W1 hS hd K hK
        obtain ⟨e15, e22, -⟩ := hd
        replace e15 : f 15 = .slice (some nad) l0.length c0 := e15
        replace e22 : f 22 = .int .i64 q2 := e22
        (go_simp; exact hK.out (.pointer (some (nad.add q2.toNat))) _ hS (Below.refl _ _) rfl (fun _ (h : (none : Option Nat) = some _) => by cases h) _ (by first | (simp only [e15, e22]; done) | (simp only [e15, e22]; rfl) | rfl))
      case o10X =>
        intro f W1 hS hd K hK
        obtain ⟨e23, -⟩ := hd
        replace e23 : f 23 = .pointer (some (nad.add q2.toNat)) := e23
        have y0 : W1.cell? ⟨W.heap.size, 0, none⟩ = some (.int .i64 t.f0) := (blk_cell hS.2 0).trans rfl
        have z0 := hS.1.y0
        have z3 := hS.1.y3
        have x0 := (hS.1.bel.cell (World.block_lt_of_cell? _ _ HX0.out)).trans HX0.out
        have xn := (hS.1.bel.cell (World.block_lt_of_cell? _ _ HXN.out)).trans HXN.out
        (go_simp; exact hK.out (.string nm) _ hS (Below.refl _ _) rfl (fun _ (h : (none : Option Nat) = some _) => by cases h) _ (by first | (simp only [e23]; done) | (simp only [e23]; rfl) | rfl))
      case o11X =>
        intro f W1 hS hd K hK
        obtain ⟨e24, -⟩ := hd
        replace e24 : f 24 = .string nm := e24
        have hs3 : ¬ 9223372036854775807 < 1 + nm.size := by omega
        go_simp
        (try rw [if_neg hs3])
        (try go_simp)
        exact hK.out (.string ((⟨#[40]⟩ : ByteArray) ++ nm)) _ hS (Below.refl _ _) rfl (fun _ (h : (none : Option Nat) = some _) => by cases h) _ (by first | (simp only [e24]; done) | (simp only [e24]; rfl) | rfl)
      intro f W1 hS hr hbl
      have e25 := hr 11 _ _ (by omega) rfl rfl
      obtain e25 := e25
      (try dsimp only)
      generalize f 25 = x25 at *
      subst e25
      try simp only [List.drop_succ_cons, List.drop_zero]
      have HBX3 := Lib.hid hS.2
      have HS3 := Lib.hid hS.1
      clear hr hbl hS hd2
      go_wp2_with fail
      with_reducible refine (tws HS3.out ((⟨#[40]⟩ : ByteArray) ++ nm) (by have := HNL.out; rw [ByteArray.size_append, show (⟨#[40]⟩ : ByteArray).size = 1 from rfl]; omega)).mono ?_
      rintro e w3 ⟨rfl, hI3, hk3⟩
      have hbx3 := kept_box hk3 HBX3.out HWB.out (by decide)
      have y2 : w3.cell? ⟨W.heap.size, 2, none⟩ = some (.slice T t.f2.length tc) := (blk_cell hbx3 2).trans rfl
      have HI3 : Hid (InTx w0 gb (some nad) c0 l0 A1 c1 l1 a2 (some ad) c3 l3 wb (l ++ (40 :: nm.data.toList)) w3) := Lib.hid (by
        rw [show (⟨#[40]⟩ ++ nm : ByteArray).data.toList = 40 :: nm.data.toList by rw [ByteArray.data_append]; simp] at hI3
        exact hI3)
      clear hk3 hI3 hbx3 HI2 HBX2 HBX3 HS3
      go_wp2
      clear y2
      go_loopw [30] (fun i wr => ∃ (j : Nat) (l' : List UInt8), j ≤ t.f2.length ∧ i = .int .i64 j ∧ Hid (l' ++ (txTs l0 l1 a2 l3 (t.f2.drop j) ++ [41]) = l ++ ys) ∧ Hid (InTx w0 gb (some nad) c0 l0 A1 c1 l1 a2 (some ad) c3 l3 wb l' wr)) (fun i _ => t.f2.length - (intOf i).toNat)
      case atStart => exact ⟨0, _, Nat.zero_le _, rfl, Lib.hid (by rw [HE.out, List.drop_zero]; simp), HI3⟩
      case round =>
        clear HI3
        obtain ⟨j, l', hj, rfl, HO, HI⟩ := hrel
        by_cases hjl : j < t.f2.length
        · obtain ⟨kad, K2, kc, e1, hk0, hk1, hk2, hkc, hkr⟩ := at_T55 HT.out (j : Int) (by omega) (by omega)
          subst e1
          obtain ⟨k, hk⟩ : ∃ k, k = t.f2[j] := ⟨_, rfl⟩
          rw [rdT_at _ j hjl, ← hk] at hk0 hk1 hk2 hkc hkr
          rw [Int.toNat_natCast] at hk0 hk1 hk2
          replace hk0 := (HI.out.bel.cell (World.block_lt_of_cell? _ _ hk0)).trans hk0
          replace hk1 := (HI.out.bel.cell (World.block_lt_of_cell? _ _ hk1)).trans hk1
          replace hk2 := (HI.out.bel.cell (World.block_lt_of_cell? _ _ hk2)).trans hk2
          have HO2 : Hid ((l' ++ [32] ++ txT l0 l1 a2 l3 k) ++ (txTs l0 l1 a2 l3 (t.f2.drop (j + 1)) ++ [41]) = l ++ ys) := Lib.hid (by
            have := HO.out
            rw [List.drop_eq_getElem_cons hjl, ← hk, txTs] at this
            rw [← this]; simp)
          have HCN : Hid (cntT k ≤ n) := Lib.hid (by
            have h1 := cntTs_mem (List.getElem_mem hjl)
            have h2 := cntT_eq t
            have h3 := HTN.out
            rw [← hk] at h1; omega)
          have HKO : Hid (txOk l0 l1 a2 l3 k = true) := Lib.hid (txOks_mem HKS.out k (by rw [hk]; exact List.getElem_mem _))
          have HLE : Hid (l'.length + 1 + (txT l0 l1 a2 l3 k).length ≤ 10000000000000) := Lib.hid (by
            have h1 := congrArg List.length HO2.out
            have h2 := HL.out
            simp only [List.length_append, List.length_singleton] at h1; omega)
          have HKR := Lib.hid hkr
          have HKC := Lib.hid hkc
          have HJ := Lib.hid hjl
          have hj0 : 0 ≤ (j : Int) := Int.natCast_nonneg _
          have hj1 : (j : Int) < (t.f2.length : Int) := by omega
          have hI3 := HI.out.step (W' := wr.alloc (.cells #[.int .i64 k.f0, .int .i64 k.f1, .slice K2 k.f2.length kc] 55)) ((Below.refl _ _).alloc (Nat.le_refl _) _)
          have hkb := blk_new wr (.cells #[.int .i64 k.f0, .int .i64 k.f1, .slice K2 k.f2.length kc] 55)
          have HKB : Hid (wr.heap.size ≠ w0.heap.size) := Lib.hid (by
            obtain ⟨cs, hbk⟩ := builder_blk HI.out.b
            have := blk_lt hbk
            omega)
          have HKX := Lib.hid hkb
          have HI3 := Lib.hid hI3
          have hen := fun (u : Value) (W : World) => txenters u w0.heap.size gb wb W
          clear hk hkr hkc hjl hj hI3 hkb
          go_wp2_with fail
          refine (tws HI3.out ⟨#[32]⟩ (by have := HLE.out; rw [show (⟨#[32]⟩ : ByteArray).size = 1 from rfl]; omega)).mono ?_
          rintro e w4 ⟨rfl, hI4, hk4⟩
          have hkb4 := kept_box hk4 HKX.out HKB.out (by decide)
          have k0 : w4.cell? ⟨wr.heap.size, 0, none⟩ = some (.int .i64 k.f0) := (blk_cell hkb4 0).trans rfl
          have k1 : w4.cell? ⟨wr.heap.size, 1, none⟩ = some (.int .i64 k.f1) := (blk_cell hkb4 1).trans rfl
          have k2 : w4.cell? ⟨wr.heap.size, 2, none⟩ = some (.slice K2 k.f2.length kc) := (blk_cell hkb4 2).trans rfl
          have f4 := hI4.f0
          have HI4 := Lib.hid hI4
          clear hkb4 hk4 hI4 HI3 hk0 hk1 hk2
          go_wp2_with fail
          refine (HIH.out k HCN.out w0 K2 kc HKC.out HKR.out gb _ c0 l0 A1 c1 l1 a2 _ c3 l3 h0 h1 h3 HKO.out hq0 hq3 wb (l' ++ [32]) (by have := HLE.out; simp only [List.length_append, List.length_singleton]; omega) _ HI4.out).mono ?_
          rintro e w5 ⟨rfl, hI5⟩
          have HI5 := Lib.hid hI5
          clear hI5 HI4 k0 k1 k2 f4 hen
          go_wp2
          go_roundw
          case rel => exact ⟨j + 1, _, HJ.out, by go_num, HO2, HI5⟩
          case measure => have := HJ.out; simp [intOf]; omega
        · obtain rfl : j = t.f2.length := by omega
          have HO2 : Hid (l' ++ [41] = l ++ ys) := Lib.hid (by have := HO.out; rwa [List.drop_length, txTs, List.nil_append] at this)
          have HLE : Hid (l'.length + 1 ≤ 10000000000000) := Lib.hid (by
            have h1 := congrArg List.length HO2.out
            have h2 := HL.out
            simp only [List.length_append, List.length_singleton] at h1; omega)
          clear hj hjl
          go_wp2_with fail
          refine (tws HI.out ⟨#[41]⟩ (by have := HLE.out; rw [show (⟨#[41]⟩ : ByteArray).size = 1 from rfl]; omega)).mono ?_
          rintro e w4 ⟨rfl, hI4, -⟩
          rw [show (⟨#[41]⟩ : ByteArray).data.toList = [41] from rfl, HO2.out] at hI4
          have HI4 := Lib.hid hI4
          clear hI4 HI
          go_wp2
          first
            | exact bodyPost_end (v := .tuple #[]) (by simp [results, Tryd.results115, go_sem]) rfl ⟨rfl, HI4.out⟩
            | exact bodyPost_ret (v := .tuple #[]) (by simp [results, Tryd.results115, go_sem]) rfl ⟨rfl, HI4.out⟩
set_option maxHeartbeats 8000000 in
set_option maxRecDepth 100000 in
theorem text_calls (A0 : Option Addr) (c0 : Nat) (l0 : List ByteArray) (A1 : Option Addr) (c1 : Nat) (l1 : List ByteArray) (a2 : Int) (A3 : Option Addr) (c3 : Nat) (l3 : List GRule) (hok : gramOk l0 l1 a2 l3 = true) (h0 : l0.length ≤ c0) (h1 : l1.length ≤ c1) (h3 : l3.length ≤ c3) (t : TTree) (T : Option Addr) (tc : Nat) (htc : t.f2.length ≤ tc) (hcnt : cntT t ≤ 1000000) (hsy : symOk t.f1 = true)
    (hk : treeC l0 l1 a2 l3 t = 0 → txOk l0 l1 a2 l3 t = true ∧ (txT l0 l1 a2 l3 t).length ≤ 10000000000000)
    (w : World) (hG : Laid w) (hr0 : Kd.C Kd.string w A0 l0.length l0) (hr1 : Kd.C Kd.string w A1 l1.length l1) (hr3 : Kd.C k32 w A3 l3.length l3) (ht : Kd.C k55 w T t.f2.length t.f2) :
    Calls Tryd.prog 60 #[.agg #[.slice A0 l0.length c0, .slice A1 l1.length c1, .int .i64 a2, .slice A3 l3.length c3], .agg #[.int .i64 t.f0, .int .i64 t.f1, .slice T t.f2.length tc]] w fun e w' => e = .returned (.string (if treeC l0 l1 a2 l3 t = 0 then ⟨(txT l0 l1 a2 l3 t).toArray⟩ else ByteArray.empty)) ∧ Below w.heap.size w w' := by
  have hu := Tryd.underlying25
  have hu2 := Tryd.underlying55
  have hI : InT w A0 c0 l0 A1 c1 l1 a2 A3 c3 l3 t T tc _ := InT.mk0 w hr0 hr1 hr3 ht
  have HG := Lib.hid hG
  have HCH := Lib.hid (fun (W : World) hG hr0 hr1 hr3 ht => treeCheck_calls A0 c0 l0 A1 c1 l1 a2 A3 c3 l3 hok h0 h1 h3 t T tc htc hcnt hsy W hG hr0 hr1 hr3 ht)
  have HB := Lib.hid (gram_bounds hok)
  have HK := Lib.hid hk
  obtain ⟨ch, hch⟩ : ∃ ch, ch = treeC l0 l1 a2 l3 t := ⟨_, rfl⟩
  rw [← hch] at HK HCH ⊢
  have hz0 := hI.g.c0
  have hz1 := hI.g.c1
  have hz2 := hI.g.c2
  have hz3 := hI.g.c3
  have y0 := hI.t0
  have y1 := hI.t1
  have y2 := hI.t2
  have HI := Lib.hid hI
  have HTC := Lib.hid htc
  clear hr0 hr1 hr3 ht hG hok hcnt hsy hI hch hk htc
  go_enter Tryd.func60, Tryd.ntmps60
  go_wp2_with fail
  refine (HCH.out _ (Laid.below HG.out HI.out.g.bel) HI.out.g.r0 HI.out.g.r1 HI.out.g.r3 HI.out.tr).mono ?_
  rintro e w2 ⟨rfl, hb2⟩
  have hI2 := HI.out.step hb2
  clear hb2 HI hz0 hz1 hz2 hz3 y0 y1 y2
  by_cases hne : ch ≠ 0
  · have hneb : (ch != 0) = true := bne_iff_ne.2 hne
    have HE : Hid (¬ ch = 0) := Lib.hid hne
    have HI2 := Lib.hid hI2
    clear hne hI2
    go_wp2
    go_ret
    try rw [if_neg HE.out]
    exact ⟨rfl, HI2.out.g.bel⟩
  replace hne := Decidable.not_not.1 hne
  subst hne
  have HPS : Hid ((if (0 : Int) = 0 then (⟨(txT l0 l1 a2 l3 t).toArray⟩ : ByteArray) else ByteArray.empty) = ⟨(txT l0 l1 a2 l3 t).toArray⟩) := Lib.hid (if_pos rfl)
  have y0 := hI2.t0
  have y1 := hI2.t1
  have y2 := hI2.t2
  have HI2 := Lib.hid hI2
  obtain ⟨hko, hkl⟩ := HK.out rfl
  have HKO := Lib.hid hko
  have HKL := Lib.hid hkl
  have hen := fun (u : Value) (bb gb wb : Nat) (W : World) => txenters u bb gb wb W
  have hbelt : w.heap.size + 1 < w2.heap.size := blk_lt hI2.tb
  have tb2 := blk_alloc (blk_alloc hI2.tb (.cells #[.pointer none, .slice none 0 0] 174)) (.cells #[.func (.func 115) #[] #[.pointer (some ⟨w2.heap.size, 0, none⟩), .pointer (some ⟨w.heap.size, 0, none⟩), .pointer (some ⟨w2.heap.size + 1, 0, none⟩)]] 161)
  have u0 : ((w2.alloc (.cells #[.pointer none, .slice none 0 0] 174)).alloc (.cells #[.func (.func 115) #[] #[.pointer (some ⟨w2.heap.size, 0, none⟩), .pointer (some ⟨w.heap.size, 0, none⟩), .pointer (some ⟨w2.heap.size + 1, 0, none⟩)]] 161)).cell? ⟨w.heap.size + 1, 0, none⟩ = some (.int .i64 t.f0) := (blk_cell tb2 0).trans rfl
  have u1 : ((w2.alloc (.cells #[.pointer none, .slice none 0 0] 174)).alloc (.cells #[.func (.func 115) #[] #[.pointer (some ⟨w2.heap.size, 0, none⟩), .pointer (some ⟨w.heap.size, 0, none⟩), .pointer (some ⟨w2.heap.size + 1, 0, none⟩)]] 161)).cell? ⟨w.heap.size + 1, 1, none⟩ = some (.int .i64 t.f1) := (blk_cell tb2 1).trans rfl
  have u2 : ((w2.alloc (.cells #[.pointer none, .slice none 0 0] 174)).alloc (.cells #[.func (.func 115) #[] #[.pointer (some ⟨w2.heap.size, 0, none⟩), .pointer (some ⟨w.heap.size, 0, none⟩), .pointer (some ⟨w2.heap.size + 1, 0, none⟩)]] 161)).cell? ⟨w.heap.size + 1, 2, none⟩ = some (.slice T t.f2.length tc) := (blk_cell tb2 2).trans rfl
  clear hI2 hko hkl tb2
  go_wp2_with fail
  have hI : InTx w2 w.heap.size A0 c0 l0 A1 c1 l1 a2 A3 c3 l3 (w2.heap.size + 1) [] ((w2.alloc (.cells #[.pointer none, .slice none 0 0] 174)).alloc (.cells #[.func (.func 115) #[] #[.pointer (some ⟨w2.heap.size, 0, none⟩), .pointer (some ⟨w.heap.size, 0, none⟩), .pointer (some ⟨w2.heap.size + 1, 0, none⟩)]] 161)) := by
    refine ⟨((Below.refl _ w2).alloc (Nat.le_refl _) _).alloc (by simp) _, HI2.out.g.box.1, HI2.out.g.r0, HI2.out.g.r1, HI2.out.g.r3, (Lib.IsBuilderF.of (Lib.fresh_isBuilder 174 5 w2)).alloc _, ?_⟩
    have := blk_new (w2.alloc (.cells #[.pointer none, .slice none 0 0] 174)) (.cells #[.func (.func 115) #[] #[.pointer (some ⟨w2.heap.size, 0, none⟩), .pointer (some ⟨w.heap.size, 0, none⟩), .pointer (some ⟨w2.heap.size + 1, 0, none⟩)]] 161)
    rwa [show (w2.alloc (.cells #[.pointer none, .slice none 0 0] 174)).heap.size = w2.heap.size + 1 by simp] at this
  refine (text1_calls _ t (Nat.le_refl _) w2 T tc HTC.out HI2.out.tr w.heap.size A0 c0 l0 A1 c1 l1 a2 A3 c3 l3 h0 h1 h3 HKO.out HB.out.1 HB.out.2.2.1 (w2.heap.size + 1) [] (by simpa using HKL.out) _ hI).mono ?_
  rintro e w5 ⟨rfl, hI5⟩
  rw [List.nil_append] at hI5
  have HI5 := Lib.hid hI5
  clear hI hI5 hen y0 y1 y2 u0 u1 u2
  go_wp2_with fail
  refine (Tryd.Builder_String_any_k w2.heap.size w2.heap.size _ _ HI5.out.b HI5.out.bel.size).mono ?_
  rintro e w6 ⟨rfl, -, hb6, -⟩
  have HB6 : Hid (Below w.heap.size w w6) := Lib.hid (HI2.out.g.bel.trans ((HI5.out.bel.mono HI2.out.g.bel.size).trans (hb6.mono HI2.out.g.bel.size)))
  clear hb6 HI5
  go_wp2
  go_ret
  exact ⟨by first | rfl | rw [HPS.out]; rfl, HB6.out⟩
end Go.Proofs.YtmdjmbdeeodehaaDoor.G
end
section
set_option linter.unusedVariables false
set_option linter.unusedSimpArgs false
namespace Go.Proofs.YtmdjmbdeeodehaaDoor.G
open Go Go.Proofs Go.RowKit Go.Proofs.YtmdjmbdeeodehaaDoorW.PrintWords Go.Proofs.YtmdjmbdeeodehaaDoorW.PrintLast Go.Proofs.YtmdjmbdeeodehaaDoorW.PrintMore Go.Proofs.YtmdjmbdeeodehaaDoor.Pure
mutual
def yieldT : TTree → List Int
  | ⟨r, s, ks⟩ => if r < 0 then [s] else yieldTs ks
def yieldTs : List TTree → List Int
  | [] => []
  | k :: ks => yieldT k ++ yieldTs ks
end
theorem yieldT_eq (t : TTree) : yieldT t = if t.f0 < 0 then [t.f1] else yieldTs t.f2 := by cases t; simp [yieldT]
mutual
theorem yieldT_len : ∀ t : TTree, (yieldT t).length ≤ cntT t
  | ⟨r, s, ks⟩ => by
    simp only [yieldT, cntT]
    have := yieldTs_len ks
    split
    · simp
    · omega
theorem yieldTs_len : ∀ l : List TTree, (yieldTs l).length ≤ cntTs l
  | [] => by simp [yieldTs]
  | k :: ks => by
    have := yieldT_len k
    have := yieldTs_len ks
    simp only [yieldTs, cntTs, List.length_append]; omega
end
structure InYl (w0 : World) (ob wb : Nat) (v : Value) (out : List Int) (W : World) : Prop where
  bel : Below w0.heap.size w0 W
  ho : w0.heap.size ≤ ob
  hw : w0.heap.size ≤ wb
  o : W.heap[ob]? = some (.cells #[v] 30 (0, 0))
  f : W.heap[wb]? = some (.cells #[.func (.func 106) #[] #[.pointer (some ⟨ob, 0, none⟩), .pointer (some ⟨wb, 0, none⟩)]] 161 (0, 0))
  row : Kd.R (Kd.int .i64) 52 W w0.heap.size (fun _ => True) v out
section
variable {w0 : World} {ob wb : Nat} {v : Value} {out : List Int} {W W' : World}
theorem InYl.step (h : InYl w0 ob wb v out W) (hb : Below W.heap.size W W') : InYl w0 ob wb v out W' := ⟨h.bel.trans (hb.mono h.bel.size), h.ho, h.hw, blk_below h.o hb, blk_below h.f hb, Kd.R_below h.row hb⟩
theorem InYl.o0 (h : InYl w0 ob wb v out W) : W.cell? ⟨ob, 0, none⟩ = some v := (blk_cell h.o 0).trans rfl
theorem InYl.f0 (h : InYl w0 ob wb v out W) : W.cell? ⟨wb, 0, none⟩ = some (.func (.func 106) #[] #[.pointer (some ⟨ob, 0, none⟩), .pointer (some ⟨wb, 0, none⟩)]) := (blk_cell h.f 0).trans rfl
theorem InYl.put {v2 : Value} {out2 : List Int} (h : InYl w0 ob wb v out W) (hb : Below w0.heap.size w0 W') (hg : W.grownBy W' v.ownBlock) (hr : Kd.R (Kd.int .i64) 52 W' w0.heap.size (fun _ => True) v2 out2) : InYl w0 ob wb v2 out2 (W'.setCell ⟨ob, 0, none⟩ v2) := by
  have ho2 := blk_grown h.o hg (Kd.R_ne h.row h.o (by decide))
  have hf2 := blk_grown h.f hg (Kd.R_ne h.row h.f (by decide))
  have hne : wb ≠ ob := blk_ne h.f h.o (by decide)
  exact ⟨hb.setCell h.ho _, h.ho, h.hw, blk_put (cs := #[v]) ho2 0 _ rfl, blk_far hf2 hne _, Kd.R_mono (Kd.R_far (p := ⟨ob, 0, none⟩) (Kd.R_types hr ho2 (by decide)) (fun _ hk => hk.2) _) (fun _ _ => trivial)⟩
end
theorem yenters (u : Value) (ob wb : Nat) (W : World) : Sem.run Tryd.prog (callFunc 106 #[u, .pointer (some ⟨ob, 0, none⟩), .pointer (some ⟨wb, 0, none⟩)]) W = .ok (.enter 106 #[u, .pointer (some ⟨ob, 0, none⟩), .pointer (some ⟨wb, 0, none⟩)]) W := by kernel_rfl
set_option maxHeartbeats 4000000 in
set_option maxRecDepth 100000 in
theorem yield1_calls : ∀ (n : Nat) (t : TTree) (htn : cntT t ≤ n) (w0 : World) (T : Option Addr) (tc : Nat) (htc : t.f2.length ≤ tc) (ht : Kd.C k55 w0 T t.f2.length t.f2) (ob wb : Nat) (v : Value) (out : List Int) (hl : out.length + (yieldT t).length ≤ 1000000) (W : World) (hI : InYl w0 ob wb v out W),
    Calls Tryd.prog 106 #[.agg #[.int .i64 t.f0, .int .i64 t.f1, .slice T t.f2.length tc], .pointer (some ⟨ob, 0, none⟩), .pointer (some ⟨wb, 0, none⟩)] W fun e w' => e = .returned (.tuple #[]) ∧ ∃ v', InYl w0 ob wb v' (out ++ yieldT t) w' := by
  intro n
  induction n with
  | zero => intro t htn; have := cntT_pos t; omega
  | succ n ih =>
    intro t htn w0 T tc htc ht ob wb v out hl W hI
    have hu := Tryd.underlying55
    have HIH := Lib.hid ih
    have HTN := Lib.hid htn
    have HT := Lib.hid ht
    have HTC := Lib.hid htc
    have hB0 : Below W.heap.size W (W.alloc (.cells #[.int .i64 t.f0, .int .i64 t.f1, .slice T t.f2.length tc] 55)) := (Below.refl _ _).alloc (Nat.le_refl _) _
    have hI1 := hI.step hB0
    have hTW : Hid (∀ W', InYl w0 ob wb v out W' → Kd.C k55 W' T t.f2.length t.f2) := Lib.hid (fun W' h => Kd.C_below ht h.bel)
    have HY := Lib.hid (yieldT_eq t)
    obtain ⟨ys, hys⟩ : ∃ ys, ys = yieldT t := ⟨_, rfl⟩
    rw [← hys] at HY hl ⊢
    have hbx := blk_new W (.cells #[.int .i64 t.f0, .int .i64 t.f1, .slice T t.f2.length tc] 55)
    by_cases hlf : t.f0 < 0
    · have HLF : Hid (tree_Tree_leaf.f t.f0 t.f1 t.f2 = some true) := Lib.hid (by unfold tree_Tree_leaf.f; rw [decide_eq_true hlf])
      have HE : Hid (ys = [t.f1]) := Lib.hid (by rw [HY.out, if_pos hlf])
      have hl2 : out.length + 1 ≤ 1000000 := by rw [HE.out] at hl; simpa using hl
      have HBX := Lib.hid hbx
      have HI1 := Lib.hid hI1
      clear hlf hys hI hI1 ih htn ht htc hB0 hl hbx
      go_enter Tryd.func106, Tryd.ntmps106
      go_wp2_with fail
      refine (tree_Tree_leaf.calls t.f0 t.f1 T tc t.f2 true _ (hTW.out _ HI1.out) HTC.out HLF.out).mono ?_
      rintro e w2 ⟨rfl, hb2⟩
      have hI2 := HI1.out.step hb2
      have hbx2 := blk_below HBX.out hb2
      have y1 : w2.cell? ⟨W.heap.size, 1, none⟩ = some (.int .i64 t.f1) := (blk_cell hbx2 1).trans rfl
      have z0 := hI2.o0
      have zf := blk_frozen hI2.o 0
      have HI2 := Lib.hid hI2
      have hsz : w0.heap.size ≤ w2.heap.size := HI2.out.bel.size
      clear hb2 hI2 HI1 HBX hbx2
      go_wp2_with (((with_reducible refine gate_dst (N := 12) rfl ?_); refine Kd.R_append (Kd.int .i64) (w0 := w0) w0.heap.size rfl (.tmp 8) (.tmp 11) 30 52 (.int .i64 0) 8 rfl Tryd.underlying30 info52 rfl (by decide) (by omega) v out t.f1 [.int .i64 t.f1] (fun _ => True) (fun _ => False) rfl ?aX ?aP (fun _ hk => hk.elim) ?aF ?aO ?aB ?aS ?aL ?_; (case aP => exact rfl); (case aX => first | rfl | (simp; done) | (go_simp; done) | (go_simp; simp; done)); (case aF => exact (fun _ _ => trivial)); (case aO => exact HI2.out.row); (case aB => exact HI2.out.bel); (case aS => exact hsz); (case aL => omega); intro v2 w6 ho hb hg hat; obtain ⟨A9, c9, e9⟩ := Kd.R_slice ho; subst e9; have hput := HI2.out.put hb hg ho; have zo := blk_grown HI2.out.o hg (Kd.R_ne HI2.out.row HI2.out.o (by decide)); have zc : w6.cell? ⟨ob, 0, none⟩ = some v := (blk_cell zo 0).trans rfl; have zg := blk_frozen zo 0; clear hat hg hb ho zo))
      rw [HE.out]
      clear zc zg
      simp only [List.length_append, List.length_singleton] at hput
      exact bodyPost_ret (v := .tuple #[]) (by simp [results, Tryd.results106, go_sem]) rfl ⟨rfl, _, hput⟩
    · have HLF : Hid (tree_Tree_leaf.f t.f0 t.f1 t.f2 = some false) := Lib.hid (by unfold tree_Tree_leaf.f; rw [decide_eq_false hlf])
      have HE : Hid (ys = yieldTs t.f2) := Lib.hid (by rw [HY.out, if_neg hlf])
      have HLL : Hid (out.length + ys.length ≤ 1000000) := Lib.hid hl
      have HBX := Lib.hid hbx
      have HI1 := Lib.hid hI1
      have htl : t.f2.length ≤ 9223372036854775807 := Kd.C_max HT.out
      clear hlf hys hI hI1 ih htn ht htc hB0 hl hbx
      go_enter Tryd.func106, Tryd.ntmps106
      go_wp2_with fail
      refine (tree_Tree_leaf.calls t.f0 t.f1 T tc t.f2 false _ (hTW.out _ HI1.out) HTC.out HLF.out).mono ?_
      rintro e w2 ⟨rfl, hb2⟩
      have hI2 := HI1.out.step hb2
      have hbx2 := blk_below HBX.out hb2
      have y2 : w2.cell? ⟨W.heap.size, 2, none⟩ = some (.slice T t.f2.length tc) := (blk_cell hbx2 2).trans rfl
      have HI2 := Lib.hid hI2
      clear hb2 hI2 HI1 HBX hbx2
      go_wp2
      clear y2
      go_loopw [16] (fun i wr => ∃ (j : Nat) (v1 : Value) (out1 : List Int), j ≤ t.f2.length ∧ i = .int .i64 j ∧ Hid (out1 ++ yieldTs (t.f2.drop j) = out ++ ys) ∧ Hid (InYl w0 ob wb v1 out1 wr)) (fun i _ => t.f2.length - (intOf i).toNat)
      case atStart => exact ⟨0, v, out, Nat.zero_le _, rfl, Lib.hid (by rw [HE.out, List.drop_zero]), HI2⟩
      case round =>
        clear HI2
        obtain ⟨j, v1, out1, hj, rfl, HO, HI⟩ := hrel
        by_cases hjl : j < t.f2.length
        · obtain ⟨kad, K2, kc, e1, hk0, hk1, hk2, hkc, hkr⟩ := at_T55 HT.out (j : Int) (by omega) (by omega)
          subst e1
          obtain ⟨k, hk⟩ : ∃ k, k = t.f2[j] := ⟨_, rfl⟩
          rw [rdT_at _ j hjl, ← hk] at hk0 hk1 hk2 hkc hkr
          rw [Int.toNat_natCast] at hk0 hk1 hk2
          replace hk0 := (HI.out.bel.cell (World.block_lt_of_cell? _ _ hk0)).trans hk0
          replace hk1 := (HI.out.bel.cell (World.block_lt_of_cell? _ _ hk1)).trans hk1
          replace hk2 := (HI.out.bel.cell (World.block_lt_of_cell? _ _ hk2)).trans hk2
          have HO2 : Hid ((out1 ++ yieldT k) ++ yieldTs (t.f2.drop (j + 1)) = out ++ ys) := Lib.hid (by have := HO.out; rw [List.drop_eq_getElem_cons hjl, ← hk, yieldTs, ← List.append_assoc] at this; exact this)
          have HCN : Hid (cntT k ≤ n) := Lib.hid (by
            have h1 := cntTs_mem (List.getElem_mem hjl)
            have h2 := cntT_eq t
            have h3 := HTN.out
            rw [← hk] at h1; omega)
          have HKR := Lib.hid hkr
          have HKC := Lib.hid hkc
          have HJ := Lib.hid hjl
          have hj0 : 0 ≤ (j : Int) := Int.natCast_nonneg _
          have hj1 : (j : Int) < (t.f2.length : Int) := by omega
          have hI3 := HI.out.step (W' := wr.alloc (.cells #[.int .i64 k.f0, .int .i64 k.f1, .slice K2 k.f2.length kc] 55)) ((Below.refl _ _).alloc (Nat.le_refl _) _)
          have hf3 := hI3.f0
          have HI3 := Lib.hid hI3
          have hen := fun (u : Value) (W : World) => yenters u ob wb W
          clear hk hkr hkc hjl hj hI3
          go_wp2_with fail
          refine (HIH.out k HCN.out w0 K2 kc HKC.out HKR.out ob wb v1 out1 (by
            have h1 := congrArg List.length HO2.out
            have h2 := HLL.out
            simp only [List.length_append] at h1; omega) _ HI3.out).mono ?_
          rintro e w5 ⟨rfl, v2, hI5⟩
          have HI5 := Lib.hid hI5
          clear hI5 HI3 hf3 hk0 hk1 hk2 hen
          go_wp2
          go_roundw
          case rel => exact ⟨j + 1, v2, out1 ++ yieldT k, HJ.out, by go_num, HO2, HI5⟩
          case measure => have := HJ.out; simp [intOf]; omega
        · obtain rfl : j = t.f2.length := by omega
          have HO2 : Hid (out1 = out ++ ys) := Lib.hid (by have := HO.out; rwa [List.drop_length, yieldTs, List.append_nil] at this)
          clear hj hjl
          go_wp2
          rw [← HO2.out]
          first
            | exact bodyPost_end (v := .tuple #[]) (by simp [results, Tryd.results106, go_sem]) rfl ⟨rfl, _, HI.out⟩
            | exact bodyPost_ret (v := .tuple #[]) (by simp [results, Tryd.results106, go_sem]) rfl ⟨rfl, _, HI.out⟩
set_option maxHeartbeats 4000000 in
set_option maxRecDepth 100000 in
theorem yield_calls (t : TTree) (hcnt : cntT t ≤ 1000000) (T : Option Addr) (tc : Nat) (htc : t.f2.length ≤ tc) (w : World) (ht : Kd.C k55 w T t.f2.length t.f2) :
    Calls Tryd.prog 38 #[.agg #[.int .i64 t.f0, .int .i64 t.f1, .slice T t.f2.length tc]] w fun e w' => ∃ v, e = .returned v ∧ Kd.R (Kd.int .i64) 52 w' w.heap.size (fun _ => True) v (yieldT t) ∧ Below w.heap.size w w' := by
  have hu := Tryd.underlying55
  have HT := Lib.hid ht
  have HTC := Lib.hid htc
  have HL : Hid ((yieldT t).length ≤ 1000000) := Lib.hid (Nat.le_trans (yieldT_len t) hcnt)
  have hen := fun (u : Value) (ob wb : Nat) (W : World) => yenters u ob wb W
  clear ht htc hcnt
  go_enter Tryd.func38, Tryd.ntmps38
  go_wp2_with fail
  have hI : InYl w (w.heap.size + 1) (w.heap.size + 1 + 1) (.slice none 0 0) [] (((w.alloc (.cells #[.int .i64 t.f0, .int .i64 t.f1, .slice T t.f2.length tc] 55)).alloc (.cells #[.slice none 0 0] 30)).alloc (.cells #[.func (.func 106) #[] #[.pointer (some ⟨w.heap.size + 1, 0, none⟩), .pointer (some ⟨w.heap.size + 1 + 1, 0, none⟩)]] 161)) := by
    refine ⟨(((Below.refl _ w).alloc (Nat.le_refl _) _).alloc (by simp) _).alloc (by simp; omega) _, by omega, by omega, ?_, ?_, Kd.R_nil _ _ _ _ _⟩
    · have := blk_alloc (blk_new (w.alloc (.cells #[.int .i64 t.f0, .int .i64 t.f1, .slice T t.f2.length tc] 55)) (.cells #[.slice none 0 0] 30)) (.cells #[.func (.func 106) #[] #[.pointer (some ⟨w.heap.size + 1, 0, none⟩), .pointer (some ⟨w.heap.size + 1 + 1, 0, none⟩)]] 161)
      rwa [show (w.alloc (.cells #[.int .i64 t.f0, .int .i64 t.f1, .slice T t.f2.length tc] 55)).heap.size = w.heap.size + 1 by simp] at this
    · have := blk_new ((w.alloc (.cells #[.int .i64 t.f0, .int .i64 t.f1, .slice T t.f2.length tc] 55)).alloc (.cells #[.slice none 0 0] 30)) (.cells #[.func (.func 106) #[] #[.pointer (some ⟨w.heap.size + 1, 0, none⟩), .pointer (some ⟨w.heap.size + 1 + 1, 0, none⟩)]] 161)
      rwa [show ((w.alloc (.cells #[.int .i64 t.f0, .int .i64 t.f1, .slice T t.f2.length tc] 55)).alloc (.cells #[.slice none 0 0] 30)).heap.size = w.heap.size + 1 + 1 by simp] at this
  refine (yield1_calls _ t (Nat.le_refl _) w T tc HTC.out HT.out (w.heap.size + 1) (w.heap.size + 1 + 1) (.slice none 0 0) [] (by simpa using HL.out) _ hI).mono ?_
  rintro e w5 ⟨rfl, v5, hI5⟩
  rw [List.nil_append] at hI5
  obtain ⟨A9, c9, e9⟩ := Kd.R_slice hI5.row
  subst e9
  have z0 := hI5.o0
  have HI5 := Lib.hid hI5
  clear hI hI5 hen
  go_wp2
  go_ret
  exact ⟨_, rfl, HI5.out.row, HI5.out.bel⟩
end Go.Proofs.YtmdjmbdeeodehaaDoor.G
end
section
set_option linter.unusedVariables false
set_option linter.unusedSimpArgs false
namespace Go.Proofs.YtmdjmbdeeodehaaDoor.G
open Go Go.Proofs Go.RowKit Go.Proofs.YtmdjmbdeeodehaaDoorW.PrintWords Go.Proofs.YtmdjmbdeeodehaaDoorW.PrintLast Go.Proofs.YtmdjmbdeeodehaaDoorW.PrintMore Go.Proofs.YtmdjmbdeeodehaaDoor.Pure
structure InQ (w : World) (A0 : Option Addr) (c0 : Nat) (l0 : List ByteArray) (A1 : Option Addr) (c1 : Nat) (l1 : List ByteArray) (a2 : Int) (Ao : Option Addr) (co : Nat) (m3 : List S87) (t : RTree) (T : Option Addr) (tc : Nat) (W : World) : Prop where
  v : InV w A0 l0.length c0 A1 l1.length c1 a2 Ao co m3 t T tc W
  r0 : Kd.C Kd.string W A0 l0.length l0
  r1 : Kd.C Kd.string W A1 l1.length l1
theorem InQ.step {w : World} {A0 : Option Addr} {c0 : Nat} {l0 : List ByteArray} {A1 : Option Addr} {c1 : Nat} {l1 : List ByteArray} {a2 : Int} {Ao : Option Addr} {co : Nat} {m3 : List S87} {t : RTree} {T : Option Addr} {tc : Nat} {W W' : World} (h : InQ w A0 c0 l0 A1 c1 l1 a2 Ao co m3 t T tc W) (hb : Below W.heap.size W W') : InQ w A0 c0 l0 A1 c1 l1 a2 Ao co m3 t T tc W' := ⟨h.v.step hb, Kd.C_below h.r0 hb, Kd.C_below h.r1 hb⟩
theorem InQ.mk0 {A0 : Option Addr} {c0 : Nat} {l0 : List ByteArray} {A1 : Option Addr} {c1 : Nat} {l1 : List ByteArray} {a2 : Int} {Ao : Option Addr} {co : Nat} {m3 : List S87} {t : RTree} {T : Option Addr} {tc : Nat} (w : World) (hr0 : Kd.C Kd.string w A0 l0.length l0) (hr1 : Kd.C Kd.string w A1 l1.length l1) (hm : Kd.C k87 w Ao m3.length m3) (ht : Kd.C k58 w T t.f2.length t.f2) :
    InQ w A0 c0 l0 A1 c1 l1 a2 Ao co m3 t T tc ((w.alloc (.cells #[.slice A0 l0.length c0, .slice A1 l1.length c1, .int .i64 a2, .slice Ao m3.length co] 63)).alloc (.cells #[.int .i64 t.f0, .int .i64 t.f1, .slice T t.f2.length tc] 58)) := by
  have h := InV.mk0 (A0 := A0) (n0 := l0.length) (c0 := c0) (A1 := A1) (n1 := l1.length) (c1 := c1) (a2 := a2) (c3 := co) (tc := tc) w hm ht
  exact ⟨h, Kd.C_below hr0 h.bel, Kd.C_below hr1 h.bel⟩
theorem rhas_f (l0 l1 : List ByteArray) (a2 : Int) (m3 : List S87) (s : Int) (hs : s < 0) (hl : l1.length ≤ 1000000) : wickerref02_Has.f l0 l1 a2 m3 s = some (decide (-1 - s < (l1.length : Int))) := by
  unfold wickerref02_Has.f
  rw [if_pos (by omega)]
  congr 1
  rw [show wrap64 (-(l1.length : Int)) = -(l1.length : Int) by unfold wrap64; omega, decide_eq_decide]
  omega
set_option maxHeartbeats 4000000 in
set_option maxRecDepth 100000 in
theorem rtreeCheck_calls (A0 : Option Addr) (c0 : Nat) (l0 : List ByteArray) (A1 : Option Addr) (c1 : Nat) (l1 : List ByteArray) (a2 : Int) (Ao : Option Addr) (co : Nat) (l3 : List GRule) (hok : gramOk l0 l1 a2 l3 = true) (h0 : l0.length ≤ c0) (h1 : l1.length ≤ c1) (h3 : (l3.map ofR).length ≤ co) (t : TTree) (rt : RTree) (hrt : rt = toR t) (T : Option Addr) (tc : Nat) (htc : rt.f2.length ≤ tc) (hcnt : cntT t ≤ 1000000)
    (w : World) (hr0 : Kd.C Kd.string w A0 l0.length l0) (hr1 : Kd.C Kd.string w A1 l1.length l1) (hm : Kd.C k87 w Ao (l3.map ofR).length (l3.map ofR)) (ht : Kd.C k58 w T rt.f2.length rt.f2) :
    Calls Tryd.prog 32 #[.agg #[.slice A0 l0.length c0, .slice A1 l1.length c1, .int .i64 a2, .slice Ao (l3.map ofR).length co], .agg #[.int .i64 rt.f0, .int .i64 rt.f1, .slice T rt.f2.length tc]] w fun e w' => e = .returned (.int .i64 (treeC l0 l1 a2 l3 t)) ∧ Below w.heap.size w w' := by
  have hu := Tryd.underlying63
  have hu2 := Tryd.underlying58
  have hb := gram_bounds hok
  have hI : InQ w A0 c0 l0 A1 c1 l1 a2 Ao co (l3.map ofR) rt T tc _ := InQ.mk0 w hr0 hr1 hm ht
  have HN : Hid ((l3.map ofR).length ≤ 1000000) := Lib.hid (by rw [List.length_map]; exact hb.2.2.1)
  have HO : Hid (∀ r ∈ l3.map ofR, r.f1.length ≤ 1000000) := Lib.hid (fun r hr => by
    obtain ⟨g, hg, rfl⟩ := List.mem_map.1 hr
    have := List.all_eq_true.1 hb.2.2.2.2.2.2 g hg
    simp only [ruleOk, Bool.and_eq_true, decide_eq_true_eq] at this
    exact this.1.2)
  obtain ⟨KC, hKC⟩ := Pure.Ev.out (ref_check_f l0 l1 a2 l3 hok)
  have HCH := Lib.hid (hKC KC (Nat.le_refl _))
  obtain ⟨ch, hch⟩ : ∃ ch, ch = checkC nmB mkB l0 l1 a2 l3 := ⟨_, rfl⟩
  have hcn : cntR rt = cntT t := by rw [hrt, cnt_toR]
  obtain ⟨K, hK⟩ := Pure.Ev.out (rcount_f _ rt (Nat.le_refl _) (by omega))
  have HK := Lib.hid (hK K (Nat.le_refl _))
  obtain ⟨rs, hrs⟩ : ∃ rs, rs = treeC l0 l1 a2 l3 t := ⟨_, rfl⟩
  have HRU : Hid (rs = if ch ≠ 0 then ch else if 65536 < cntR rt then 11 else if 0 ≤ rt.f0 then fitR (l3.map ofR) rt else if rt.f0 ≠ -1 ∨ 0 ≤ rt.f1 ∨ (l1.length : Int) ≤ -1 - rt.f1 ∨ 0 < rt.f2.length then 9 else 0) := Lib.hid (by
    have e0 : rt.f0 = t.f0 := by rw [hrt, toR_f0]
    have e1 : rt.f1 = t.f1 := by rw [hrt, toR_f1]
    have e2 : rt.f2.length = t.f2.length := by rw [hrt, toR_f2, toRs_length]
    have e3 : fitR (l3.map ofR) rt = fitT l3 t := by rw [hrt, fit_toR]
    rw [hrs, treeC, ← hch, hcn, e0, e1, e2, e3]
    by_cases x0 : ch ≠ 0
    · rw [if_pos x0, if_pos x0]
    rw [if_neg x0, if_neg x0]
    by_cases x1 : 65536 < cntT t
    · rw [if_pos x1, if_pos x1]
    rw [if_neg x1, if_neg x1]
    by_cases x2 : t.f0 < 0
    · rw [if_neg (not_not_intro x2), if_neg (show ¬ 0 ≤ t.f0 by omega)]
      by_cases x3 : ¬ t.f1 < 0 ∨ (l1.length : Int) ≤ -1 - t.f1
      · rw [if_pos x3, if_pos (by omega)]
      · rw [if_neg x3]
        by_cases x4 : t.f0 ≠ -1 ∨ 0 < t.f2.length
        · rw [if_pos x4, if_pos (by omega)]
        · rw [if_neg x4, if_neg (by omega)]
    · rw [if_pos x2, if_pos (show 0 ≤ t.f0 by omega)])
  rw [← hrs]
  rw [← hch] at HCH
  have hl1 : l1.length ≤ 1000000 := hb.2.1
  have HHAS := Lib.hid (fun hs => rhas_f l0 l1 a2 (l3.map ofR) rt.f1 hs hl1)
  generalize l3.map ofR = m3 at *
  have hz0 := hI.v.g0
  have hz1 := hI.v.g1
  have hz2 := hI.v.g2
  have hz3 := hI.v.g3
  have HI := Lib.hid hI
  clear hr0 hr1 hm ht hb hok hI hK hKC hrs hch hrt hcn hcnt
  go_enter Tryd.func32, Tryd.ntmps32
  go_wp2_with fail
  refine (wickerref02_Check.calls KC A0 c0 l0 A1 c1 l1 a2 Ao co m3 ch _ HI.out.r0 h0 HI.out.r1 h1 HI.out.v.r3 h3 HCH.out).mono ?_
  rintro e w2 ⟨rfl, hb2⟩
  have hI2 := HI.out.step hb2
  clear hb2 HI hz0 hz1 hz2 hz3
  by_cases hne : ch ≠ 0
  · have hneb : (ch != 0) = true := bne_iff_ne.2 hne
    have HE : Hid (rs = ch) := Lib.hid (by rw [HRU.out, if_pos hne])
    have HI2 := Lib.hid hI2
    clear hne hI2
    go_wp2
    go_ret
    rw [HE.out]
    exact ⟨rfl, HI2.out.v.bel⟩
  have hneb : (ch != 0) = false := by rw [Decidable.not_not.1 hne]; rfl
  have HE := Lib.hid (HRU.out.trans (if_neg hne))
  have y0 := hI2.v.t0
  have y1 := hI2.v.t1
  have y2 := hI2.v.t2
  have HI2 := Lib.hid hI2
  clear hne hI2 HRU
  go_wp2_with fail
  refine (wickerref03_Count.calls K rt.f0 rt.f1 T tc rt.f2 _ _ HI2.out.v.tr htc HK.out).mono ?_
  rintro e w3 ⟨rfl, hb3⟩
  have hI3 := HI2.out.step hb3
  have y0 := hI3.v.t0
  have y1 := hI3.v.t1
  have y2 := hI3.v.t2
  have z0 := hI3.v.g0
  have z1 := hI3.v.g1
  have z2 := hI3.v.g2
  have z3 := hI3.v.g3
  have HI3 := Lib.hid hI3
  clear hb3 HI2 hI3
  by_cases hgt : 65536 < cntR rt
  · have hgtb : decide ((cntR rt : Int) > 65536) = true := decide_eq_true (by omega)
    have HE2 : Hid (rs = 11) := Lib.hid (HE.out.trans (if_pos hgt))
    go_wp2
    go_ret
    rw [HE2.out]
    exact ⟨rfl, HI3.out.v.bel⟩
  have hgtb : decide ((cntR rt : Int) > 65536) = false := decide_eq_false (by omega)
  have HE2 := Lib.hid (HE.out.trans (if_neg hgt))
  by_cases hlf : 0 ≤ rt.f0
  · have hlfb : decide (rt.f0 ≥ 0) = true := decide_eq_true hlf
    have HE3 : Hid (rs = fitR m3 rt) := Lib.hid (HE2.out.trans (if_pos hlf))
    clear hlf
    go_wp2_with fail
    refine (fits_calls _ A0 l0.length c0 A1 l1.length c1 a2 Ao co m3 HN.out HO.out rt T tc (Nat.le_refl _) _ HI3.out.v.r3 HI3.out.v.tr).mono ?_
    rintro e w5 ⟨rfl, hb5⟩
    have HI5 := Lib.hid (HI3.out.step hb5)
    rw [← HE3.out]
    clear hb5 HI3 y0 y1 y2 z0 z1 z2 z3
    go_wp2
    go_ret
    exact ⟨rfl, HI5.out.v.bel⟩
  have hlfb : decide (rt.f0 ≥ 0) = false := decide_eq_false hlf
  have HE3 := Lib.hid (HE2.out.trans (if_neg hlf))
  clear hlf HE2 HE
  by_cases x0 : rt.f0 ≠ -1
  · have x0b : (rt.f0 != -1) = true := bne_iff_ne.2 x0
    have HE4 : Hid (rs = 9) := Lib.hid (HE3.out.trans (if_pos (Or.inl x0)))
    clear x0
    go_wp2
    go_ret
    rw [HE4.out]
    exact ⟨rfl, HI3.out.v.bel⟩
  have x0b : (rt.f0 != -1) = false := by rw [Decidable.not_not.1 x0]; rfl
  by_cases x1 : 0 ≤ rt.f1
  · have x1b : decide (rt.f1 ≥ 0) = true := decide_eq_true x1
    have HE4 : Hid (rs = 9) := Lib.hid (HE3.out.trans (if_pos (Or.inr (Or.inl x1))))
    clear x0 x1
    go_wp2
    go_ret
    rw [HE4.out]
    exact ⟨rfl, HI3.out.v.bel⟩
  have x1b : decide (rt.f1 ≥ 0) = false := decide_eq_false x1
  have hh := HHAS.out (by omega)
  obtain ⟨hs, hhs⟩ : ∃ hs, hs = decide (-1 - rt.f1 < (l1.length : Int)) := ⟨_, rfl⟩
  rw [← hhs] at hh
  have HH := Lib.hid hh
  clear hh
  cases hs with
  | false =>
    have HE4 : Hid (rs = 9) := Lib.hid (HE3.out.trans (if_pos (Or.inr (Or.inr (Or.inl (by have := of_decide_eq_false hhs.symm; omega))))))
    clear x0 x1 hhs
    go_wp2_with fail
    refine (wickerref02_Has.calls A0 c0 l0 A1 c1 l1 a2 Ao co m3 rt.f1 false _ HI3.out.r0 h0 HI3.out.r1 h1 HI3.out.v.r3 h3 HH.out).mono ?_
    rintro e w5 ⟨rfl, hb5⟩
    have HI5 := Lib.hid (HI3.out.step hb5)
    clear hb5 HI3 y0 y1 y2 z0 z1 z2 z3
    go_wp2
    go_ret
    rw [HE4.out]
    exact ⟨rfl, HI5.out.v.bel⟩
  | true =>
    by_cases x3 : 0 < rt.f2.length
    · have x3b : decide ((rt.f2.length : Int) > 0) = true := decide_eq_true (by omega)
      have HE4 : Hid (rs = 9) := Lib.hid (HE3.out.trans (if_pos (Or.inr (Or.inr (Or.inr x3)))))
      clear x0 x1 hhs
      go_wp2_with fail
      refine (wickerref02_Has.calls A0 c0 l0 A1 c1 l1 a2 Ao co m3 rt.f1 true _ HI3.out.r0 h0 HI3.out.r1 h1 HI3.out.v.r3 h3 HH.out).mono ?_
      rintro e w5 ⟨rfl, hb5⟩
      have hI5 := HI3.out.step hb5
      have y2 := hI5.v.t2
      have HI5 := Lib.hid hI5
      clear hb5 HI3 z0 z1 z2 z3 hI5
      go_wp2
      go_ret
      rw [HE4.out]
      exact ⟨rfl, HI5.out.v.bel⟩
    · have x3b : decide ((rt.f2.length : Int) > 0) = false := decide_eq_false (by omega)
      have HE4 : Hid (rs = 0) := Lib.hid (HE3.out.trans (if_neg (by have := of_decide_eq_true hhs.symm; omega)))
      clear x0 x1 hhs
      go_wp2_with fail
      refine (wickerref02_Has.calls A0 c0 l0 A1 c1 l1 a2 Ao co m3 rt.f1 true _ HI3.out.r0 h0 HI3.out.r1 h1 HI3.out.v.r3 h3 HH.out).mono ?_
      rintro e w5 ⟨rfl, hb5⟩
      have hI5 := HI3.out.step hb5
      have y2 := hI5.v.t2
      have HI5 := Lib.hid hI5
      clear hb5 HI3 z0 z1 z2 z3 hI5
      go_wp2
      go_ret
      rw [HE4.out]
      exact ⟨rfl, HI5.out.v.bel⟩
end Go.Proofs.YtmdjmbdeeodehaaDoor.G
end
section
namespace Go.Proofs.YtmdjmbdeeodehaaDoor.G
open Go.RowKit Go.Proofs.YtmdjmbdeeodehaaDoorW.PrintWords Go.Proofs.YtmdjmbdeeodehaaDoorW.PrintLast Go.Proofs.YtmdjmbdeeodehaaDoorW.PrintMore
attribute [local go_sem] max2_int min2_int max_two min_two max_three min_three max_four min_four
attribute [local go_sem] Go.Proofs.YtmdjmbdeeodehaaDoorOwn.isSome_setCell
set_option linter.unusedVariables false
set_option linter.unusedSimpArgs false
mutual
def wickerref01_Quote.l0 : Nat → ByteArray → List Int → Int → Option (ByteArray)
 | 0, _, _, _ => none
 | k + 1, x0, x3, x4 => if x4 < (x0.size : Int) then (if 0 ≤ x4 then (if (bt x0 x4) = 10 then ((some (([92, 110] : List Int) : List Int)).bind fun y107 => (if x3.length + y107.length < 140737488355328 then (wickerref01_Quote.l0 k x0 (x3 ++ y107) (wrap64 (x4 + 1))) else (none))) else (if (bt x0 x4) = 9 then ((some (([92, 116] : List Int) : List Int)).bind fun y113 => (if x3.length + y113.length < 140737488355328 then (wickerref01_Quote.l0 k x0 (x3 ++ y113) (wrap64 (x4 + 1))) else (none))) else (if (bt x0 x4) < 32 then (wickerref01_Quote.j1 k x0 x3 x4 (bt x0 x4) true) else (wickerref01_Quote.j1 k x0 x3 x4 (bt x0 x4) (decide ((bt x0 x4) > 126)))))) else (none)) else (if x3.length < 140737488355328 then (some (strOfNums (x3 ++ [34]))) else (none))
def wickerref01_Quote.j1 : Nat → ByteArray → List Int → Int → Int → Bool → Option (ByteArray)
 | 0, _, _, _, _, _ => none
 | k + 1, x0, x3, x4, x5, x32 => if x32 = true then ((wickerref01_hex.f (wrap64 (Int.tdiv (wrap64 (x5)) 16))).bind fun t119 => ((wickerref01_hex.f (Int.tmod (wrap64 (x5)) 16)).bind fun t120 => ((some (([92, 120, t119, t120] : List Int) : List Int)).bind fun y121 => (if x3.length + y121.length < 140737488355328 then (wickerref01_Quote.l0 k x0 (x3 ++ y121) (wrap64 (x4 + 1))) else (none))))) else (if x5 = 34 then ((some (([92, x5] : List Int) : List Int)).bind fun y127 => (if x3.length + y127.length < 140737488355328 then (wickerref01_Quote.l0 k x0 (x3 ++ y127) (wrap64 (x4 + 1))) else (none))) else (if x5 = 92 then ((some (([92, x5] : List Int) : List Int)).bind fun y133 => (if x3.length + y133.length < 140737488355328 then (wickerref01_Quote.l0 k x0 (x3 ++ y133) (wrap64 (x4 + 1))) else (none))) else (if x3.length < 140737488355328 then (wickerref01_Quote.l0 k x0 (x3 ++ [x5]) (wrap64 (x4 + 1))) else (none))))
end
def wickerref01_Quote.f (k : Nat) (a0 : ByteArray) : Option (ByteArray) := wickerref01_Quote.l0 k a0 (([34] : List Int)) 0
set_option maxHeartbeats 8000000 in
set_option maxRecDepth 100000 in
theorem wickerref01_Quote.calls (k : Nat) (a0 : ByteArray) (r : ByteArray) (w : World) (h : wickerref01_Quote.f k a0 = some r) :
  Calls Tryd.prog 167 #[.string a0] w fun e w' => e = .returned (.string r) ∧ Below w.heap.size w w' := by
 have HB := Aside0.mk (Below.refl w.heap.size w)
 have H : (wickerref01_Quote.l0 k a0 (([34] : List Int)) 0) = some r := h
 clear h
 obtain ⟨y101, hy101⟩ : ∃ y_ : List Int, y_ = (([34] : List Int)) := ⟨_, rfl⟩
 replace H : (wickerref01_Quote.l0 k a0 y101 0) = some r := by first | (rw [hy101]; with_reducible exact H) | (have H2_ := (Option.bind_some _ _).symm.trans H; rw [hy101]; with_reducible exact H2_) | (have H2_ := (Option.bind_some _ _).symm.trans H; with_reducible exact H2_) | with_reducible exact H | (rw [hy101]; exact H) | exact H
 have Ny101 := Aside0.mk hy101
 clear hy101
 have H' := Aside0.mk H
 clear H
 go_enter Tryd.func167, Tryd.ntmps167
 go_wp2_with (first | ((with_reducible refine gate_dst (N := 6) rfl ?_); refine Kd.R_lit (Kd.int .u8) _ 5 ?hg (N := 6) ?hd (xs := ([34] : List Int)) (inner := [.int .u8 34]) (ok := fun _ => True) (okp := fun _ => True) ?hr ?hp (fun _ hk => hk) trivial (Below.refl _ _) (Nat.le_refl _) (by simp) ?_; (case hd => rfl); (case hg => rfl); (case hr => first | (go_simp; done) | (go_simp; rfl)); (case hp => exact (Reps.one (show Kd.M (Kd.int .u8) _ _ _ 34 [.int .u8 34] from rfl) (Reps.none _ _))); intro v102 w2 ho3 hb hg_ hnew_; clear hg_ hnew_; (first | rw [← Ny101.out] at ho3 | (simp only [Int.reduceToNat] at ho3; rw [← Ny101.out] at ho3)); have n0_ := Aside0.mk (Kd.R_lower ho3 (below_size (by repeat (first | (with_reducible first | exact HB.out | apply below_alloc | apply pw_below_drewN | apply below_drew1) | exact HB.out)))); have n1_ := Aside0.mk (below_step (by repeat (first | (with_reducible first | exact HB.out | apply below_alloc | apply pw_below_drewN | apply below_drew1) | exact HB.out)) hb); clear HB; have HO103 := n0_; have HB := n1_; clear n0_ n1_; clear hb ho3))
 go_loopg [3, 4] k (fun kq v3 v4 w' => ∃ (x3_1 : List Int) (x4_1 : Int), v4 = .int .i64 x4_1 ∧ Aside0 (wickerref01_Quote.l0 kq a0 x3_1 x4_1 = some r) ∧ Aside0 (kq ≤ k) ∧ Aside0 (Kd.R (Kd.int .u8) 5 w' w.heap.size (fun _ => True) v3 x3_1) ∧ Aside0 (Below w.heap.size w w'))
 case atStart => exact ⟨(y101), (0), (by first | rfl | (simp; done) | (simp [*]; done)), H', ⟨Nat.le_refl _⟩, ⟨by (with_reducible repeat (first | apply Kd.R_alloc | apply Kd.R_drewN | apply Kd.R_drew)); exact HO103.out⟩, ⟨by repeat (first | (with_reducible first | exact HB.out | apply below_alloc | apply pw_below_drewN | apply below_drew1) | exact HB.out)⟩⟩
 case round =>
  clear H'
  try clear c1
  try clear p2
  obtain ⟨x3_1, x4_1, rfl, HA, HK1, HO_3, HB⟩ := hrel
  cases gk with
  | zero => exact absurd HA.out (by simp [wickerref01_Quote.l0])
  | succ k1 =>
   have H := HA.out
   clear HA
   simp only [wickerref01_Quote.l0] at H
   by_cases c4 : x4_1 < (a0.size : Int)
   ·rw [if_pos c4] at H
    have c4b0 : decide (x4_1 < (a0.size : Int)) = true := decide_eq_true c4
    clear c4
    by_cases c5 : 0 ≤ x4_1
    ·rw [if_pos c5] at H
     have c5b0 : decide (0 ≤ x4_1) = true := decide_eq_true c5
     clear c5
     by_cases c7 : (bt a0 x4_1) = 10
     ·rw [if_pos c7] at H
      have c7b0 : ((bt a0 x4_1) == 10) = true := beq_iff_eq.mpr c7
      have c7b1 : ((bt a0 x4_1) != 10) = false := bne_eq_false_iff_eq.mpr c7
      clear c7
      obtain ⟨y107, hy107⟩ : ∃ y_ : List Int, y_ = (([92, 110] : List Int)) := ⟨_, rfl⟩
      replace H : (if x3_1.length + y107.length < 140737488355328 then (wickerref01_Quote.l0 k1 a0 (x3_1 ++ y107) (wrap64 (x4_1 + 1))) else (none)) = some r := by first | (rw [hy107]; with_reducible exact H) | (have H2_ := (Option.bind_some _ _).symm.trans H; rw [hy107]; with_reducible exact H2_) | (have H2_ := (Option.bind_some _ _).symm.trans H; with_reducible exact H2_) | with_reducible exact H | (rw [hy107]; exact H) | exact H
      have Ny107 := Aside0.mk hy107
      clear hy107
      by_cases c8 : x3_1.length + y107.length < 140737488355328
      ·rw [if_pos c8] at H
       have LMc8 := Aside0.mk c8
       clear c8
       obtain ⟨y110, hy110⟩ : ∃ y_ : List Int, y_ = (x3_1 ++ y107) := ⟨_, rfl⟩
       replace H : (wickerref01_Quote.l0 k1 a0 y110 (wrap64 (x4_1 + 1))) = some r := by first | (rw [hy110]; with_reducible exact H) | (have H2_ := (Option.bind_some _ _).symm.trans H; rw [hy110]; with_reducible exact H2_) | (have H2_ := (Option.bind_some _ _).symm.trans H; with_reducible exact H2_) | with_reducible exact H | (rw [hy110]; exact H) | exact H
       have Ny110 := Aside0.mk hy110
       clear hy110
       have H' := Aside0.mk H
       clear H
       have p6 : 0 ≤ (x4_1 : Int) := of_decide_eq_true (by first | (with_reducible assumption) | assumption)
       have q6 : x4_1 < (a0.size : Int) := of_decide_eq_true (by first | (with_reducible assumption) | assumption)
       have hx6 := bt_at a0 x4_1
       replace p6 := eq_true p6
       replace q6 := eq_true q6
       go_wp2_with (first | ((with_reducible refine gate_dst (N := 24) rfl ?_); refine Kd.R_lit (Kd.int .u8) _ 5 ?hg (N := 24) ?hd (xs := ([92, 110] : List Int)) (inner := [.int .u8 92, .int .u8 110]) (ok := fun _ => True) (okp := fun _ => True) ?hr ?hp (fun _ hk => hk) trivial (Below.refl _ _) (Nat.le_refl _) (by simp) ?_; (case hd => rfl); (case hg => rfl); (case hr => first | (go_simp; done) | (go_simp; rfl)); (case hp => exact (Reps.one (show Kd.M (Kd.int .u8) _ _ _ 92 [.int .u8 92] from rfl) (Reps.one (show Kd.M (Kd.int .u8) _ _ _ 110 [.int .u8 110] from rfl) (Reps.none _ _)))); intro v108 w9 ho10 hb hg_ hnew_; clear hg_ hnew_; (first | rw [← Ny107.out] at ho10 | (simp only [Int.reduceToNat] at ho10; rw [← Ny107.out] at ho10)); have n0_ := Aside0.mk (Kd.R_elder' (by (with_reducible repeat (first | apply Kd.R_alloc | apply Kd.R_drewN | apply Kd.R_drew)); exact HO_3.out) (Kd.R_base ho10) hb); have n1_ := Aside0.mk (Kd.R_lower (Kd.R_new' ho10 (Kd.R_lt (by (with_reducible repeat (first | apply Kd.R_alloc | apply Kd.R_drewN | apply Kd.R_drew)); exact HO_3.out))) (below_size (by repeat (first | (with_reducible first | exact HB.out | apply below_alloc | apply pw_below_drewN | apply below_drew1) | exact HB.out)))); have n2_ := Aside0.mk (below_step (by repeat (first | (with_reducible first | exact HB.out | apply below_alloc | apply pw_below_drewN | apply below_drew1) | exact HB.out)) hb); clear HO_3; clear HB; have HO_3 := n0_; have HO109 := n1_; have HB := n2_; clear n0_ n1_ n2_; clear hb ho10; obtain ⟨Ao12, co12, eo12⟩ := Kd.R_slice HO109.out; subst eo12) | ((with_reducible refine gate_builtin (b := .append) (xs := #[.tmp 23, .tmp 24]) rfl ?_); at_builtin; refine Kd.R_append_rows (Kd.int .u8) (w0 := w) w.heap.size rfl (.tmp 23) (.tmp 24) 172 5 (.int .u8 0) 1 rfl Tryd.underlying172 info5 rfl (by decide) (by omega) u3 x3_1 y107 _ _ _ (fun k_ => some k_ ≠ (.slice Ao12 y107.length co12 : Value).ownBlock) (fun _ => False) rfl rfl ?aO ?aR (fun _ _ h => h) (fun _ h => h.elim) ?aF ?aB ?aS ?aL ?_; (case aR => repeat (first | exact (Kd.R_reads' HO109.out).2.2 | (with_reducible refine Kd.C_alloc ?_ _) | (with_reducible refine Kd.C_drewN ?_ _) | (with_reducible refine Kd.C_drew ?_))); (case aB => exact (by repeat (first | (with_reducible first | exact HB.out | apply below_alloc | apply pw_below_drewN | apply below_drew1) | exact HB.out))); (case aF => exact (fun k_ hk => Kd.fresh' (Kd.R_lt (by (with_reducible repeat (first | apply Kd.R_alloc | apply Kd.R_drewN | apply Kd.R_drew)); exact HO109.out)) k_ hk)); (case aO => exact (by (with_reducible repeat (first | apply Kd.R_alloc | apply Kd.R_drewN | apply Kd.R_drew)); exact Kd.R_mono HO_3.out (fun _ hk => hk.2))); (case aS => exact (below_size (by repeat (first | (with_reducible first | exact HB.out | apply below_alloc | apply pw_below_drewN | apply below_drew1) | exact HB.out)))); (case aL => have := LMc8.out; omega); intro v111 w11 ho hb hg hat; rw [← Ny110.out] at ho; have n0_ := Aside0.mk (Kd.R_after (ok := (fun _ => True)) (by (with_reducible repeat (first | apply Kd.R_alloc | apply Kd.R_drewN | apply Kd.R_drew)); exact HO109.out) hg hat); have n1_ := Aside0.mk (hb); have n2_ := Aside0.mk (ho); clear HO109; clear HB; clear HO_3; have HO109 := n0_; have HB := n1_; have HO112 := n2_; clear n0_ n1_ n2_; clear ho hb hg hat))
       go_roundg k1
       case measure => have := HK1.out; omega
       case rel => exact ⟨(y110), (wrap64 (x4_1 + 1)), (by first | rfl | (simp; done) | (simp [*]; done)), H', ⟨by have := HK1.out; omega⟩, ⟨by (with_reducible repeat (first | apply Kd.R_alloc | apply Kd.R_drewN | apply Kd.R_drew)); exact Kd.R_mono HO112.out (fun _ hk => trivial)⟩, ⟨by repeat (first | (with_reducible first | exact HB.out | apply below_alloc | apply pw_below_drewN | apply below_drew1) | exact HB.out)⟩⟩
      ·rw [if_neg c8] at H
       exact absurd H (by simp)
     ·rw [if_neg c7] at H
      have c7b0 : ((bt a0 x4_1) == 10) = false := beq_eq_false_iff_ne.mpr c7
      have c7b1 : ((bt a0 x4_1) != 10) = true := bne_iff_ne.mpr c7
      by_cases c13 : (bt a0 x4_1) = 9
      ·rw [if_pos c13] at H
       have c13b0 : ((bt a0 x4_1) == 9) = true := beq_iff_eq.mpr c13
       have c13b1 : ((bt a0 x4_1) != 9) = false := bne_eq_false_iff_eq.mpr c13
       clear c13
       obtain ⟨y113, hy113⟩ : ∃ y_ : List Int, y_ = (([92, 116] : List Int)) := ⟨_, rfl⟩
       replace H : (if x3_1.length + y113.length < 140737488355328 then (wickerref01_Quote.l0 k1 a0 (x3_1 ++ y113) (wrap64 (x4_1 + 1))) else (none)) = some r := by first | (rw [hy113]; with_reducible exact H) | (have H2_ := (Option.bind_some _ _).symm.trans H; rw [hy113]; with_reducible exact H2_) | (have H2_ := (Option.bind_some _ _).symm.trans H; with_reducible exact H2_) | with_reducible exact H | (rw [hy113]; exact H) | exact H
       have Ny113 := Aside0.mk hy113
       clear hy113
       by_cases c14 : x3_1.length + y113.length < 140737488355328
       ·rw [if_pos c14] at H
        have LMc14 := Aside0.mk c14
        clear c14
        obtain ⟨y116, hy116⟩ : ∃ y_ : List Int, y_ = (x3_1 ++ y113) := ⟨_, rfl⟩
        replace H : (wickerref01_Quote.l0 k1 a0 y116 (wrap64 (x4_1 + 1))) = some r := by first | (rw [hy116]; with_reducible exact H) | (have H2_ := (Option.bind_some _ _).symm.trans H; rw [hy116]; with_reducible exact H2_) | (have H2_ := (Option.bind_some _ _).symm.trans H; with_reducible exact H2_) | with_reducible exact H | (rw [hy116]; exact H) | exact H
        have Ny116 := Aside0.mk hy116
        clear hy116
        have H' := Aside0.mk H
        clear H
        have p6 : 0 ≤ (x4_1 : Int) := of_decide_eq_true (by first | (with_reducible assumption) | assumption)
        have q6 : x4_1 < (a0.size : Int) := of_decide_eq_true (by first | (with_reducible assumption) | assumption)
        have hx6 := bt_at a0 x4_1
        replace p6 := eq_true p6
        replace q6 := eq_true q6
        go_wp2_with (first | ((with_reducible refine gate_dst (N := 30) rfl ?_); refine Kd.R_lit (Kd.int .u8) _ 5 ?hg (N := 30) ?hd (xs := ([92, 116] : List Int)) (inner := [.int .u8 92, .int .u8 116]) (ok := fun _ => True) (okp := fun _ => True) ?hr ?hp (fun _ hk => hk) trivial (Below.refl _ _) (Nat.le_refl _) (by simp) ?_; (case hd => rfl); (case hg => rfl); (case hr => first | (go_simp; done) | (go_simp; rfl)); (case hp => exact (Reps.one (show Kd.M (Kd.int .u8) _ _ _ 92 [.int .u8 92] from rfl) (Reps.one (show Kd.M (Kd.int .u8) _ _ _ 116 [.int .u8 116] from rfl) (Reps.none _ _)))); intro v114 w15 ho16 hb hg_ hnew_; clear hg_ hnew_; (first | rw [← Ny113.out] at ho16 | (simp only [Int.reduceToNat] at ho16; rw [← Ny113.out] at ho16)); have n0_ := Aside0.mk (Kd.R_elder' (by (with_reducible repeat (first | apply Kd.R_alloc | apply Kd.R_drewN | apply Kd.R_drew)); exact HO_3.out) (Kd.R_base ho16) hb); have n1_ := Aside0.mk (Kd.R_lower (Kd.R_new' ho16 (Kd.R_lt (by (with_reducible repeat (first | apply Kd.R_alloc | apply Kd.R_drewN | apply Kd.R_drew)); exact HO_3.out))) (below_size (by repeat (first | (with_reducible first | exact HB.out | apply below_alloc | apply pw_below_drewN | apply below_drew1) | exact HB.out)))); have n2_ := Aside0.mk (below_step (by repeat (first | (with_reducible first | exact HB.out | apply below_alloc | apply pw_below_drewN | apply below_drew1) | exact HB.out)) hb); clear HO_3; clear HB; have HO_3 := n0_; have HO115 := n1_; have HB := n2_; clear n0_ n1_ n2_; clear hb ho16; obtain ⟨Ao18, co18, eo18⟩ := Kd.R_slice HO115.out; subst eo18) | ((with_reducible refine gate_builtin (b := .append) (xs := #[.tmp 29, .tmp 30]) rfl ?_); at_builtin; refine Kd.R_append_rows (Kd.int .u8) (w0 := w) w.heap.size rfl (.tmp 29) (.tmp 30) 172 5 (.int .u8 0) 1 rfl Tryd.underlying172 info5 rfl (by decide) (by omega) u3 x3_1 y113 _ _ _ (fun k_ => some k_ ≠ (.slice Ao18 y113.length co18 : Value).ownBlock) (fun _ => False) rfl rfl ?aO ?aR (fun _ _ h => h) (fun _ h => h.elim) ?aF ?aB ?aS ?aL ?_; (case aR => repeat (first | exact (Kd.R_reads' HO115.out).2.2 | (with_reducible refine Kd.C_alloc ?_ _) | (with_reducible refine Kd.C_drewN ?_ _) | (with_reducible refine Kd.C_drew ?_))); (case aB => exact (by repeat (first | (with_reducible first | exact HB.out | apply below_alloc | apply pw_below_drewN | apply below_drew1) | exact HB.out))); (case aF => exact (fun k_ hk => Kd.fresh' (Kd.R_lt (by (with_reducible repeat (first | apply Kd.R_alloc | apply Kd.R_drewN | apply Kd.R_drew)); exact HO115.out)) k_ hk)); (case aO => exact (by (with_reducible repeat (first | apply Kd.R_alloc | apply Kd.R_drewN | apply Kd.R_drew)); exact Kd.R_mono HO_3.out (fun _ hk => hk.2))); (case aS => exact (below_size (by repeat (first | (with_reducible first | exact HB.out | apply below_alloc | apply pw_below_drewN | apply below_drew1) | exact HB.out)))); (case aL => have := LMc14.out; omega); intro v117 w17 ho hb hg hat; rw [← Ny116.out] at ho; have n0_ := Aside0.mk (Kd.R_after (ok := (fun _ => True)) (by (with_reducible repeat (first | apply Kd.R_alloc | apply Kd.R_drewN | apply Kd.R_drew)); exact HO115.out) hg hat); have n1_ := Aside0.mk (hb); have n2_ := Aside0.mk (ho); clear HO115; clear HB; clear HO_3; have HO115 := n0_; have HB := n1_; have HO118 := n2_; clear n0_ n1_ n2_; clear ho hb hg hat))
        go_roundg k1
        case measure => have := HK1.out; omega
        case rel => exact ⟨(y116), (wrap64 (x4_1 + 1)), (by first | rfl | (simp; done) | (simp [*]; done)), H', ⟨by have := HK1.out; omega⟩, ⟨by (with_reducible repeat (first | apply Kd.R_alloc | apply Kd.R_drewN | apply Kd.R_drew)); exact Kd.R_mono HO118.out (fun _ hk => trivial)⟩, ⟨by repeat (first | (with_reducible first | exact HB.out | apply below_alloc | apply pw_below_drewN | apply below_drew1) | exact HB.out)⟩⟩
       ·rw [if_neg c14] at H
        exact absurd H (by simp)
      ·rw [if_neg c13] at H
       have c13b0 : ((bt a0 x4_1) == 9) = false := beq_eq_false_iff_ne.mpr c13
       have c13b1 : ((bt a0 x4_1) != 9) = true := bne_iff_ne.mpr c13
       have HC19 := Aside0.mk H
       clear H
       have p6 : 0 ≤ (x4_1 : Int) := of_decide_eq_true (by first | (with_reducible assumption) | assumption)
       have q6 : x4_1 < (a0.size : Int) := of_decide_eq_true (by first | (with_reducible assumption) | assumption)
       have hx6 := bt_at a0 x4_1
       replace p6 := eq_true p6
       replace q6 := eq_true q6
       go_upto_region 11 with (fail)
       go_cut [32] (fun v32 wc => ∃ (kq : Nat) (x32_18 : Bool), v32 = .bool x32_18 ∧ Aside0 (wickerref01_Quote.j1 kq a0 x3_1 x4_1 (bt a0 x4_1) x32_18 = some r) ∧ Aside0 (kq ≤ k1) ∧ Aside0 (Kd.R (Kd.int .u8) 5 wc w.heap.size (fun _ => True) u3 x3_1) ∧ Aside0 (Below w.heap.size w wc))
       case first =>
        have H := HC19.out
        clear HC19
        by_cases c20 : (bt a0 x4_1) < 32
        ·rw [if_pos c20] at H
         have c20b0 : decide ((bt a0 x4_1) < 32) = true := decide_eq_true c20
         clear c20
         (first | rw [c20b0] | (simp only [i64_w, i32_w]; rw [c20b0]) | skip)
         have H' := Aside0.mk H
         clear H
         go_wp2
         go_meet
         case rel => exact ⟨_, (true), (by first | rfl | (simp; done) | (simp [*]; done)), H', ⟨by have := HK1.out; first | omega | exact Nat.le_refl _⟩, ⟨by (with_reducible repeat (first | apply Kd.R_alloc | apply Kd.R_drewN | apply Kd.R_drew)); exact HO_3.out⟩, ⟨by repeat (first | (with_reducible first | exact HB.out | apply below_alloc | apply pw_below_drewN | apply below_drew1) | exact HB.out)⟩⟩
        ·rw [if_neg c20] at H
         have c20b0 : decide ((bt a0 x4_1) < 32) = false := decide_eq_false c20
         clear c20
         (first | rw [c20b0] | (simp only [i64_w, i32_w]; rw [c20b0]) | skip)
         have H' := Aside0.mk H
         clear H
         go_wp2
         go_meet
         case rel => exact ⟨_, (decide ((bt a0 x4_1) > 126)), (by first | rfl | (simp; done) | (simp [*]; done)), H', ⟨by have := HK1.out; first | omega | exact Nat.le_refl _⟩, ⟨by (with_reducible repeat (first | apply Kd.R_alloc | apply Kd.R_drewN | apply Kd.R_drew)); exact HO_3.out⟩, ⟨by repeat (first | (with_reducible first | exact HB.out | apply below_alloc | apply pw_below_drewN | apply below_drew1) | exact HB.out)⟩⟩
       case rest =>
        clear HC19
        try clear c1
        try clear c2
        try clear p2
        try clear c4
        try clear c4b0
        try clear c5
        try clear c5b0
        try clear p6
        try clear q6
        try clear hx6
        try clear c7
        try clear c7b0
        try clear c7b1
        try clear c8
        try clear c13
        try clear c13b0
        try clear c13b1
        try clear c14
        try clear c16
        try clear c20
        try clear c20b0
        try clear p2
        try clear p6
        try clear q6
        obtain ⟨kq, x32_18, rfl, HA, HJ18, HO_3, HB⟩ := hcut
        cases kq with
        | zero => exact absurd HA.out (by simp [wickerref01_Quote.j1])
        | succ kj18 =>
         have H := HA.out
         clear HA
         simp only [wickerref01_Quote.j1] at H
         by_cases c21 : x32_18 = true
         ·subst c21
          have H1 : ((wickerref01_hex.f (wrap64 (Int.tdiv (wrap64 ((bt a0 x4_1))) 16))).bind fun t119 => ((wickerref01_hex.f (Int.tmod (wrap64 ((bt a0 x4_1))) 16)).bind fun t120 => ((some (([92, 120, t119, t120] : List Int) : List Int)).bind fun y121 => (if x3_1.length + y121.length < 140737488355328 then (wickerref01_Quote.l0 kj18 a0 (x3_1 ++ y121) (wrap64 (x4_1 + 1))) else (none))))) = some r := by rw [if_pos rfl] at H; exact H
          clear H
          have H := H1
          clear H1
          replace H := Option.bind_eq_some_iff.mp H
          obtain ⟨t119, A220, H⟩ := H
          replace H : ((wickerref01_hex.f (Int.tmod (wrap64 ((bt a0 x4_1))) 16)).bind fun t120 => ((some (([92, 120, t119, t120] : List Int) : List Int)).bind fun y121 => (if x3_1.length + y121.length < 140737488355328 then (wickerref01_Quote.l0 kj18 a0 (x3_1 ++ y121) (wrap64 (x4_1 + 1))) else (none)))) = some r := H
          have A22 := Aside0.mk A220
          clear A220
          replace H := Option.bind_eq_some_iff.mp H
          obtain ⟨t120, A230, H⟩ := H
          replace H : ((some (([92, 120, t119, t120] : List Int) : List Int)).bind fun y121 => (if x3_1.length + y121.length < 140737488355328 then (wickerref01_Quote.l0 kj18 a0 (x3_1 ++ y121) (wrap64 (x4_1 + 1))) else (none))) = some r := H
          have A23 := Aside0.mk A230
          clear A230
          obtain ⟨y121, hy121⟩ : ∃ y_ : List Int, y_ = (([92, 120, t119, t120] : List Int)) := ⟨_, rfl⟩
          replace H : (if x3_1.length + y121.length < 140737488355328 then (wickerref01_Quote.l0 kj18 a0 (x3_1 ++ y121) (wrap64 (x4_1 + 1))) else (none)) = some r := by first | (rw [hy121]; with_reducible exact H) | (have H2_ := (Option.bind_some _ _).symm.trans H; rw [hy121]; with_reducible exact H2_) | (have H2_ := (Option.bind_some _ _).symm.trans H; with_reducible exact H2_) | with_reducible exact H | (rw [hy121]; exact H) | exact H
          have Ny121 := Aside0.mk hy121
          clear hy121
          by_cases c24 : x3_1.length + y121.length < 140737488355328
          ·rw [if_pos c24] at H
           have LMc24 := Aside0.mk c24
           clear c24
           obtain ⟨y124, hy124⟩ : ∃ y_ : List Int, y_ = (x3_1 ++ y121) := ⟨_, rfl⟩
           replace H : (wickerref01_Quote.l0 kj18 a0 y124 (wrap64 (x4_1 + 1))) = some r := by first | (rw [hy124]; with_reducible exact H) | (have H2_ := (Option.bind_some _ _).symm.trans H; rw [hy124]; with_reducible exact H2_) | (have H2_ := (Option.bind_some _ _).symm.trans H; with_reducible exact H2_) | with_reducible exact H | (rw [hy124]; exact H) | exact H
           have Ny124 := Aside0.mk hy124
           clear hy124
           have H' := Aside0.mk H
           clear H
           go_wp2_with (first | ((with_reducible refine gate_callee (f := 177) rfl ?_); refine goesL_ (some 43) rfl rfl Tryd.func177 (by kernel_rfl) rfl #[.int .i64 (wrap64 (Int.tdiv (wrap64 ((bt a0 x4_1))) 16))] rfl (by (try simp only [List.map_toArray, List.map_cons, List.map_nil]); first | done | rfl | (simp only [List.length_drop, List.length_take]; rfl)) ?_; (with_reducible refine (wickerref01_hex.calls (wrap64 (Int.tdiv (wrap64 ((bt a0 x4_1))) 16)) t119 _ A22.out).mono ?_); rintro e w' ⟨rfl, ⟨nd, rfl⟩⟩; refine ⟨_, rfl, ?_⟩) | ((with_reducible refine gate_callee (f := 177) rfl ?_); refine goesL_ (some 47) rfl rfl Tryd.func177 (by kernel_rfl) rfl #[.int .i64 (Int.tmod (wrap64 ((bt a0 x4_1))) 16)] rfl (by (try simp only [List.map_toArray, List.map_cons, List.map_nil]); first | done | rfl | (simp only [List.length_drop, List.length_take]; rfl)) ?_; (with_reducible refine (wickerref01_hex.calls (Int.tmod (wrap64 ((bt a0 x4_1))) 16) t120 _ A23.out).mono ?_); rintro e w' ⟨rfl, ⟨nd, rfl⟩⟩; refine ⟨_, rfl, ?_⟩) | ((with_reducible refine gate_dst (N := 48) rfl ?_); refine Kd.R_lit (Kd.int .u8) _ 5 ?hg (N := 48) ?hd (xs := ([92, 120, t119, t120] : List Int)) (inner := [.int .u8 92, .int .u8 120, .int .u8 t119, .int .u8 t120]) (ok := fun _ => True) (okp := fun _ => True) ?hr ?hp (fun _ hk => hk) trivial (Below.refl _ _) (Nat.le_refl _) (by simp) ?_; (case hd => rfl); (case hg => rfl); (case hr => first | (go_simp; done) | (go_simp; rfl)); (case hp => exact (Reps.one (show Kd.M (Kd.int .u8) _ _ _ 92 [.int .u8 92] from rfl) (Reps.one (show Kd.M (Kd.int .u8) _ _ _ 120 [.int .u8 120] from rfl) (Reps.one (show Kd.M (Kd.int .u8) _ _ _ t119 [.int .u8 t119] from rfl) (Reps.one (show Kd.M (Kd.int .u8) _ _ _ t120 [.int .u8 t120] from rfl) (Reps.none _ _)))))); intro v122 w25 ho26 hb hg_ hnew_; clear hg_ hnew_; (first | rw [← Ny121.out] at ho26 | (simp only [Int.reduceToNat] at ho26; rw [← Ny121.out] at ho26)); have n0_ := Aside0.mk (Kd.R_elder' (by (with_reducible repeat (first | apply Kd.R_alloc | apply Kd.R_drewN | apply Kd.R_drew)); exact HO_3.out) (Kd.R_base ho26) hb); have n1_ := Aside0.mk (Kd.R_lower (Kd.R_new' ho26 (Kd.R_lt (by (with_reducible repeat (first | apply Kd.R_alloc | apply Kd.R_drewN | apply Kd.R_drew)); exact HO_3.out))) (below_size (by repeat (first | (with_reducible first | exact HB.out | apply below_alloc | apply pw_below_drewN | apply below_drew1) | exact HB.out)))); have n2_ := Aside0.mk (below_step (by repeat (first | (with_reducible first | exact HB.out | apply below_alloc | apply pw_below_drewN | apply below_drew1) | exact HB.out)) hb); clear HO_3; clear HB; have HO_3 := n0_; have HO123 := n1_; have HB := n2_; clear n0_ n1_ n2_; clear hb ho26; obtain ⟨Ao28, co28, eo28⟩ := Kd.R_slice HO123.out; subst eo28) | ((with_reducible refine gate_builtin (b := .append) (xs := #[.tmp 39, .tmp 48]) rfl ?_); at_builtin; refine Kd.R_append_rows (Kd.int .u8) (w0 := w) w.heap.size rfl (.tmp 39) (.tmp 48) 172 5 (.int .u8 0) 1 rfl Tryd.underlying172 info5 rfl (by decide) (by omega) u3 x3_1 y121 _ _ _ (fun k_ => some k_ ≠ (.slice Ao28 y121.length co28 : Value).ownBlock) (fun _ => False) rfl rfl ?aO ?aR (fun _ _ h => h) (fun _ h => h.elim) ?aF ?aB ?aS ?aL ?_; (case aR => repeat (first | exact (Kd.R_reads' HO123.out).2.2 | (with_reducible refine Kd.C_alloc ?_ _) | (with_reducible refine Kd.C_drewN ?_ _) | (with_reducible refine Kd.C_drew ?_))); (case aB => exact (by repeat (first | (with_reducible first | exact HB.out | apply below_alloc | apply pw_below_drewN | apply below_drew1) | exact HB.out))); (case aF => exact (fun k_ hk => Kd.fresh' (Kd.R_lt (by (with_reducible repeat (first | apply Kd.R_alloc | apply Kd.R_drewN | apply Kd.R_drew)); exact HO123.out)) k_ hk)); (case aO => exact (by (with_reducible repeat (first | apply Kd.R_alloc | apply Kd.R_drewN | apply Kd.R_drew)); exact Kd.R_mono HO_3.out (fun _ hk => hk.2))); (case aS => exact (below_size (by repeat (first | (with_reducible first | exact HB.out | apply below_alloc | apply pw_below_drewN | apply below_drew1) | exact HB.out)))); (case aL => have := LMc24.out; omega); intro v125 w27 ho hb hg hat; rw [← Ny124.out] at ho; have n0_ := Aside0.mk (Kd.R_after (ok := (fun _ => True)) (by (with_reducible repeat (first | apply Kd.R_alloc | apply Kd.R_drewN | apply Kd.R_drew)); exact HO123.out) hg hat); have n1_ := Aside0.mk (hb); have n2_ := Aside0.mk (ho); clear HO123; clear HB; clear HO_3; have HO123 := n0_; have HB := n1_; have HO126 := n2_; clear n0_ n1_ n2_; clear ho hb hg hat))
           go_roundg kj18
           case measure => have := HK1.out; have := HJ18.out; omega
           case rel => exact ⟨(y124), (wrap64 (x4_1 + 1)), (by first | rfl | (simp; done) | (simp [*]; done)), H', ⟨by have := HK1.out; have := HJ18.out; omega⟩, ⟨by (with_reducible repeat (first | apply Kd.R_alloc | apply Kd.R_drewN | apply Kd.R_drew)); exact Kd.R_mono HO126.out (fun _ hk => trivial)⟩, ⟨by repeat (first | (with_reducible first | exact HB.out | apply below_alloc | apply pw_below_drewN | apply below_drew1) | exact HB.out)⟩⟩
          ·rw [if_neg c24] at H
           exact absurd H (by simp)
         ·replace c21 := Bool.eq_false_iff.mpr c21
          subst c21
          have H1 : (if (bt a0 x4_1) = 34 then ((some (([92, (bt a0 x4_1)] : List Int) : List Int)).bind fun y127 => (if x3_1.length + y127.length < 140737488355328 then (wickerref01_Quote.l0 kj18 a0 (x3_1 ++ y127) (wrap64 (x4_1 + 1))) else (none))) else (if (bt a0 x4_1) = 92 then ((some (([92, (bt a0 x4_1)] : List Int) : List Int)).bind fun y133 => (if x3_1.length + y133.length < 140737488355328 then (wickerref01_Quote.l0 kj18 a0 (x3_1 ++ y133) (wrap64 (x4_1 + 1))) else (none))) else (if x3_1.length < 140737488355328 then (wickerref01_Quote.l0 kj18 a0 (x3_1 ++ [(bt a0 x4_1)]) (wrap64 (x4_1 + 1))) else (none)))) = some r := by rw [if_neg (show ¬ (false = true) by decide)] at H; exact H
          clear H
          have H := H1
          clear H1
          by_cases c29 : (bt a0 x4_1) = 34
          ·rw [if_pos c29] at H
           have c29b0 : ((bt a0 x4_1) == 34) = true := beq_iff_eq.mpr c29
           have c29b1 : ((bt a0 x4_1) != 34) = false := bne_eq_false_iff_eq.mpr c29
           clear c29
           obtain ⟨y127, hy127⟩ : ∃ y_ : List Int, y_ = (([92, (bt a0 x4_1)] : List Int)) := ⟨_, rfl⟩
           replace H : (if x3_1.length + y127.length < 140737488355328 then (wickerref01_Quote.l0 kj18 a0 (x3_1 ++ y127) (wrap64 (x4_1 + 1))) else (none)) = some r := by first | (rw [hy127]; with_reducible exact H) | (have H2_ := (Option.bind_some _ _).symm.trans H; rw [hy127]; with_reducible exact H2_) | (have H2_ := (Option.bind_some _ _).symm.trans H; with_reducible exact H2_) | with_reducible exact H | (rw [hy127]; exact H) | exact H
           have Ny127 := Aside0.mk hy127
           clear hy127
           by_cases c30 : x3_1.length + y127.length < 140737488355328
           ·rw [if_pos c30] at H
            have LMc30 := Aside0.mk c30
            clear c30
            obtain ⟨y130, hy130⟩ : ∃ y_ : List Int, y_ = (x3_1 ++ y127) := ⟨_, rfl⟩
            replace H : (wickerref01_Quote.l0 kj18 a0 y130 (wrap64 (x4_1 + 1))) = some r := by first | (rw [hy130]; with_reducible exact H) | (have H2_ := (Option.bind_some _ _).symm.trans H; rw [hy130]; with_reducible exact H2_) | (have H2_ := (Option.bind_some _ _).symm.trans H; with_reducible exact H2_) | with_reducible exact H | (rw [hy130]; exact H) | exact H
            have Ny130 := Aside0.mk hy130
            clear hy130
            have H' := Aside0.mk H
            clear H
            go_wp2_with (first | ((with_reducible refine gate_dst (N := 59) rfl ?_); refine Kd.R_lit (Kd.int .u8) _ 5 ?hg (N := 59) ?hd (xs := ([92, (bt a0 x4_1)] : List Int)) (inner := [.int .u8 92, .int .u8 (bt a0 x4_1)]) (ok := fun _ => True) (okp := fun _ => True) ?hr ?hp (fun _ hk => hk) trivial (Below.refl _ _) (Nat.le_refl _) (by simp) ?_; (case hd => rfl); (case hg => rfl); (case hr => first | (go_simp; done) | (go_simp; rfl)); (case hp => exact (Reps.one (show Kd.M (Kd.int .u8) _ _ _ 92 [.int .u8 92] from rfl) (Reps.one (show Kd.M (Kd.int .u8) _ _ _ (bt a0 x4_1) [.int .u8 (bt a0 x4_1)] from rfl) (Reps.none _ _)))); intro v128 w31 ho32 hb hg_ hnew_; clear hg_ hnew_; (first | rw [← Ny127.out] at ho32 | (simp only [Int.reduceToNat] at ho32; rw [← Ny127.out] at ho32)); have n0_ := Aside0.mk (Kd.R_elder' (by (with_reducible repeat (first | apply Kd.R_alloc | apply Kd.R_drewN | apply Kd.R_drew)); exact HO_3.out) (Kd.R_base ho32) hb); have n1_ := Aside0.mk (Kd.R_lower (Kd.R_new' ho32 (Kd.R_lt (by (with_reducible repeat (first | apply Kd.R_alloc | apply Kd.R_drewN | apply Kd.R_drew)); exact HO_3.out))) (below_size (by repeat (first | (with_reducible first | exact HB.out | apply below_alloc | apply pw_below_drewN | apply below_drew1) | exact HB.out)))); have n2_ := Aside0.mk (below_step (by repeat (first | (with_reducible first | exact HB.out | apply below_alloc | apply pw_below_drewN | apply below_drew1) | exact HB.out)) hb); clear HO_3; clear HB; have HO_3 := n0_; have HO129 := n1_; have HB := n2_; clear n0_ n1_ n2_; clear hb ho32; obtain ⟨Ao34, co34, eo34⟩ := Kd.R_slice HO129.out; subst eo34) | ((with_reducible refine gate_builtin (b := .append) (xs := #[.tmp 57, .tmp 59]) rfl ?_); at_builtin; refine Kd.R_append_rows (Kd.int .u8) (w0 := w) w.heap.size rfl (.tmp 57) (.tmp 59) 172 5 (.int .u8 0) 1 rfl Tryd.underlying172 info5 rfl (by decide) (by omega) u3 x3_1 y127 _ _ _ (fun k_ => some k_ ≠ (.slice Ao34 y127.length co34 : Value).ownBlock) (fun _ => False) rfl rfl ?aO ?aR (fun _ _ h => h) (fun _ h => h.elim) ?aF ?aB ?aS ?aL ?_; (case aR => repeat (first | exact (Kd.R_reads' HO129.out).2.2 | (with_reducible refine Kd.C_alloc ?_ _) | (with_reducible refine Kd.C_drewN ?_ _) | (with_reducible refine Kd.C_drew ?_))); (case aB => exact (by repeat (first | (with_reducible first | exact HB.out | apply below_alloc | apply pw_below_drewN | apply below_drew1) | exact HB.out))); (case aF => exact (fun k_ hk => Kd.fresh' (Kd.R_lt (by (with_reducible repeat (first | apply Kd.R_alloc | apply Kd.R_drewN | apply Kd.R_drew)); exact HO129.out)) k_ hk)); (case aO => exact (by (with_reducible repeat (first | apply Kd.R_alloc | apply Kd.R_drewN | apply Kd.R_drew)); exact Kd.R_mono HO_3.out (fun _ hk => hk.2))); (case aS => exact (below_size (by repeat (first | (with_reducible first | exact HB.out | apply below_alloc | apply pw_below_drewN | apply below_drew1) | exact HB.out)))); (case aL => have := LMc30.out; omega); intro v131 w33 ho hb hg hat; rw [← Ny130.out] at ho; have n0_ := Aside0.mk (Kd.R_after (ok := (fun _ => True)) (by (with_reducible repeat (first | apply Kd.R_alloc | apply Kd.R_drewN | apply Kd.R_drew)); exact HO129.out) hg hat); have n1_ := Aside0.mk (hb); have n2_ := Aside0.mk (ho); clear HO129; clear HB; clear HO_3; have HO129 := n0_; have HB := n1_; have HO132 := n2_; clear n0_ n1_ n2_; clear ho hb hg hat))
            go_roundg kj18
            case measure => have := HK1.out; have := HJ18.out; omega
            case rel => exact ⟨(y130), (wrap64 (x4_1 + 1)), (by first | rfl | (simp; done) | (simp [*]; done)), H', ⟨by have := HK1.out; have := HJ18.out; omega⟩, ⟨by (with_reducible repeat (first | apply Kd.R_alloc | apply Kd.R_drewN | apply Kd.R_drew)); exact Kd.R_mono HO132.out (fun _ hk => trivial)⟩, ⟨by repeat (first | (with_reducible first | exact HB.out | apply below_alloc | apply pw_below_drewN | apply below_drew1) | exact HB.out)⟩⟩
           ·rw [if_neg c30] at H
            exact absurd H (by simp)
          ·rw [if_neg c29] at H
           have c29b0 : ((bt a0 x4_1) == 34) = false := beq_eq_false_iff_ne.mpr c29
           have c29b1 : ((bt a0 x4_1) != 34) = true := bne_iff_ne.mpr c29
           by_cases c35 : (bt a0 x4_1) = 92
           ·rw [if_pos c35] at H
            have c35b0 : ((bt a0 x4_1) == 92) = true := beq_iff_eq.mpr c35
            have c35b1 : ((bt a0 x4_1) != 92) = false := bne_eq_false_iff_eq.mpr c35
            clear c35
            obtain ⟨y133, hy133⟩ : ∃ y_ : List Int, y_ = (([92, (bt a0 x4_1)] : List Int)) := ⟨_, rfl⟩
            replace H : (if x3_1.length + y133.length < 140737488355328 then (wickerref01_Quote.l0 kj18 a0 (x3_1 ++ y133) (wrap64 (x4_1 + 1))) else (none)) = some r := by first | (rw [hy133]; with_reducible exact H) | (have H2_ := (Option.bind_some _ _).symm.trans H; rw [hy133]; with_reducible exact H2_) | (have H2_ := (Option.bind_some _ _).symm.trans H; with_reducible exact H2_) | with_reducible exact H | (rw [hy133]; exact H) | exact H
            have Ny133 := Aside0.mk hy133
            clear hy133
            by_cases c36 : x3_1.length + y133.length < 140737488355328
            ·rw [if_pos c36] at H
             have LMc36 := Aside0.mk c36
             clear c36
             obtain ⟨y136, hy136⟩ : ∃ y_ : List Int, y_ = (x3_1 ++ y133) := ⟨_, rfl⟩
             replace H : (wickerref01_Quote.l0 kj18 a0 y136 (wrap64 (x4_1 + 1))) = some r := by first | (rw [hy136]; with_reducible exact H) | (have H2_ := (Option.bind_some _ _).symm.trans H; rw [hy136]; with_reducible exact H2_) | (have H2_ := (Option.bind_some _ _).symm.trans H; with_reducible exact H2_) | with_reducible exact H | (rw [hy136]; exact H) | exact H
             have Ny136 := Aside0.mk hy136
             clear hy136
             have H' := Aside0.mk H
             clear H
             go_wp2_with (first | ((with_reducible refine gate_dst (N := 59) rfl ?_); refine Kd.R_lit (Kd.int .u8) _ 5 ?hg (N := 59) ?hd (xs := ([92, (bt a0 x4_1)] : List Int)) (inner := [.int .u8 92, .int .u8 (bt a0 x4_1)]) (ok := fun _ => True) (okp := fun _ => True) ?hr ?hp (fun _ hk => hk) trivial (Below.refl _ _) (Nat.le_refl _) (by simp) ?_; (case hd => rfl); (case hg => rfl); (case hr => first | (go_simp; done) | (go_simp; rfl)); (case hp => exact (Reps.one (show Kd.M (Kd.int .u8) _ _ _ 92 [.int .u8 92] from rfl) (Reps.one (show Kd.M (Kd.int .u8) _ _ _ (bt a0 x4_1) [.int .u8 (bt a0 x4_1)] from rfl) (Reps.none _ _)))); intro v134 w37 ho38 hb hg_ hnew_; clear hg_ hnew_; (first | rw [← Ny133.out] at ho38 | (simp only [Int.reduceToNat] at ho38; rw [← Ny133.out] at ho38)); have n0_ := Aside0.mk (Kd.R_elder' (by (with_reducible repeat (first | apply Kd.R_alloc | apply Kd.R_drewN | apply Kd.R_drew)); exact HO_3.out) (Kd.R_base ho38) hb); have n1_ := Aside0.mk (Kd.R_lower (Kd.R_new' ho38 (Kd.R_lt (by (with_reducible repeat (first | apply Kd.R_alloc | apply Kd.R_drewN | apply Kd.R_drew)); exact HO_3.out))) (below_size (by repeat (first | (with_reducible first | exact HB.out | apply below_alloc | apply pw_below_drewN | apply below_drew1) | exact HB.out)))); have n2_ := Aside0.mk (below_step (by repeat (first | (with_reducible first | exact HB.out | apply below_alloc | apply pw_below_drewN | apply below_drew1) | exact HB.out)) hb); clear HO_3; clear HB; have HO_3 := n0_; have HO135 := n1_; have HB := n2_; clear n0_ n1_ n2_; clear hb ho38; obtain ⟨Ao40, co40, eo40⟩ := Kd.R_slice HO135.out; subst eo40) | ((with_reducible refine gate_builtin (b := .append) (xs := #[.tmp 57, .tmp 59]) rfl ?_); at_builtin; refine Kd.R_append_rows (Kd.int .u8) (w0 := w) w.heap.size rfl (.tmp 57) (.tmp 59) 172 5 (.int .u8 0) 1 rfl Tryd.underlying172 info5 rfl (by decide) (by omega) u3 x3_1 y133 _ _ _ (fun k_ => some k_ ≠ (.slice Ao40 y133.length co40 : Value).ownBlock) (fun _ => False) rfl rfl ?aO ?aR (fun _ _ h => h) (fun _ h => h.elim) ?aF ?aB ?aS ?aL ?_; (case aR => repeat (first | exact (Kd.R_reads' HO135.out).2.2 | (with_reducible refine Kd.C_alloc ?_ _) | (with_reducible refine Kd.C_drewN ?_ _) | (with_reducible refine Kd.C_drew ?_))); (case aB => exact (by repeat (first | (with_reducible first | exact HB.out | apply below_alloc | apply pw_below_drewN | apply below_drew1) | exact HB.out))); (case aF => exact (fun k_ hk => Kd.fresh' (Kd.R_lt (by (with_reducible repeat (first | apply Kd.R_alloc | apply Kd.R_drewN | apply Kd.R_drew)); exact HO135.out)) k_ hk)); (case aO => exact (by (with_reducible repeat (first | apply Kd.R_alloc | apply Kd.R_drewN | apply Kd.R_drew)); exact Kd.R_mono HO_3.out (fun _ hk => hk.2))); (case aS => exact (below_size (by repeat (first | (with_reducible first | exact HB.out | apply below_alloc | apply pw_below_drewN | apply below_drew1) | exact HB.out)))); (case aL => have := LMc36.out; omega); intro v137 w39 ho hb hg hat; rw [← Ny136.out] at ho; have n0_ := Aside0.mk (Kd.R_after (ok := (fun _ => True)) (by (with_reducible repeat (first | apply Kd.R_alloc | apply Kd.R_drewN | apply Kd.R_drew)); exact HO135.out) hg hat); have n1_ := Aside0.mk (hb); have n2_ := Aside0.mk (ho); clear HO135; clear HB; clear HO_3; have HO135 := n0_; have HB := n1_; have HO138 := n2_; clear n0_ n1_ n2_; clear ho hb hg hat))
             go_roundg kj18
             case measure => have := HK1.out; have := HJ18.out; omega
             case rel => exact ⟨(y136), (wrap64 (x4_1 + 1)), (by first | rfl | (simp; done) | (simp [*]; done)), H', ⟨by have := HK1.out; have := HJ18.out; omega⟩, ⟨by (with_reducible repeat (first | apply Kd.R_alloc | apply Kd.R_drewN | apply Kd.R_drew)); exact Kd.R_mono HO138.out (fun _ hk => trivial)⟩, ⟨by repeat (first | (with_reducible first | exact HB.out | apply below_alloc | apply pw_below_drewN | apply below_drew1) | exact HB.out)⟩⟩
            ·rw [if_neg c36] at H
             exact absurd H (by simp)
           ·rw [if_neg c35] at H
            have c35b0 : ((bt a0 x4_1) == 92) = false := beq_eq_false_iff_ne.mpr c35
            have c35b1 : ((bt a0 x4_1) != 92) = true := bne_iff_ne.mpr c35
            by_cases c41 : x3_1.length < 140737488355328
            ·rw [if_pos c41] at H
             have LMc41 := Aside0.mk c41
             clear c41
             obtain ⟨y139, hy139⟩ : ∃ y_ : List Int, y_ = (x3_1 ++ [(bt a0 x4_1)]) := ⟨_, rfl⟩
             replace H : (wickerref01_Quote.l0 kj18 a0 y139 (wrap64 (x4_1 + 1))) = some r := by first | (rw [hy139]; with_reducible exact H) | (have H2_ := (Option.bind_some _ _).symm.trans H; rw [hy139]; with_reducible exact H2_) | (have H2_ := (Option.bind_some _ _).symm.trans H; with_reducible exact H2_) | with_reducible exact H | (rw [hy139]; exact H) | exact H
             have Ny139 := Aside0.mk hy139
             clear hy139
             have H' := Aside0.mk H
             clear H
             go_wp2_with (first | ((with_reducible refine gate_builtin (b := .append) (xs := #[.tmp 16, .tmp 18]) rfl ?_); at_builtin; refine Kd.R_append (Kd.int .u8) (w0 := w) w.heap.size rfl (.tmp 16) (.tmp 18) 172 5 (.int .u8 0) 1 rfl Tryd.underlying172 info5 rfl (by decide) (by omega) u3 x3_1 (bt a0 x4_1) [.int .u8 (bt a0 x4_1)] (fun _ => True) (fun _ => False) rfl rfl ?aP (fun _ hk => hk.elim) ?aF ?aO ?aB ?aS ?aL ?_; (case aP => exact rfl); (case aB => exact (by repeat (first | (with_reducible first | exact HB.out | apply below_alloc | apply pw_below_drewN | apply below_drew1) | exact HB.out))); (case aF => exact (fun _ _ => trivial)); (case aO => exact (by (with_reducible repeat (first | apply Kd.R_alloc | apply Kd.R_drewN | apply Kd.R_drew)); exact HO_3.out)); (case aS => exact (below_size (by repeat (first | (with_reducible first | exact HB.out | apply below_alloc | apply pw_below_drewN | apply below_drew1) | exact HB.out)))); (case aL => have := LMc41.out; omega); intro v140 w42 ho hb hg hat; rw [← Ny139.out] at ho; have n0_ := Aside0.mk (hb); have n1_ := Aside0.mk (ho); clear HB; clear HO_3; have HB := n0_; have HO141 := n1_; clear n0_ n1_; clear ho hb hg hat))
             go_roundg kj18
             case measure => have := HK1.out; have := HJ18.out; omega
             case rel => exact ⟨(y139), (wrap64 (x4_1 + 1)), (by first | rfl | (simp; done) | (simp [*]; done)), H', ⟨by have := HK1.out; have := HJ18.out; omega⟩, ⟨by (with_reducible repeat (first | apply Kd.R_alloc | apply Kd.R_drewN | apply Kd.R_drew)); exact HO141.out⟩, ⟨by repeat (first | (with_reducible first | exact HB.out | apply below_alloc | apply pw_below_drewN | apply below_drew1) | exact HB.out)⟩⟩
            ·rw [if_neg c41] at H
             exact absurd H (by simp)
    ·rw [if_neg c5] at H
     exact absurd H (by simp)
   ·rw [if_neg c4] at H
    have c4b0 : decide (x4_1 < (a0.size : Int)) = false := decide_eq_false c4
    clear c4
    by_cases c43 : x3_1.length < 140737488355328
    ·rw [if_pos c43] at H
     have LMc43 := Aside0.mk c43
     clear c43
     obtain ⟨y104, hy104⟩ : ∃ y_ : List Int, y_ = (x3_1 ++ [34]) := ⟨_, rfl⟩
     replace H : (some (strOfNums y104)) = some r := by first | (rw [hy104]; with_reducible exact H) | (have H2_ := (Option.bind_some _ _).symm.trans H; rw [hy104]; with_reducible exact H2_) | (have H2_ := (Option.bind_some _ _).symm.trans H; with_reducible exact H2_) | with_reducible exact H | (rw [hy104]; exact H) | exact H
     have Ny104 := Aside0.mk hy104
     clear hy104
     obtain rfl := Option.some.inj H
     go_wp2_with (first | ((with_reducible refine gate_builtin (b := .append) (xs := #[.tmp 61, .tmp 62]) rfl ?_); at_builtin; refine Kd.R_append (Kd.int .u8) (w0 := w) w.heap.size rfl (.tmp 61) (.tmp 62) 172 5 (.int .u8 0) 1 rfl Tryd.underlying172 info5 rfl (by decide) (by omega) u3 x3_1 34 [.int .u8 34] (fun _ => True) (fun _ => False) rfl rfl ?aP (fun _ hk => hk.elim) ?aF ?aO ?aB ?aS ?aL ?_; (case aP => exact rfl); (case aB => exact (by repeat (first | (with_reducible first | exact HB.out | apply below_alloc | apply pw_below_drewN | apply below_drew1) | exact HB.out))); (case aF => exact (fun _ _ => trivial)); (case aO => exact (by (with_reducible repeat (first | apply Kd.R_alloc | apply Kd.R_drewN | apply Kd.R_drew)); exact HO_3.out)); (case aS => exact (below_size (by repeat (first | (with_reducible first | exact HB.out | apply below_alloc | apply pw_below_drewN | apply below_drew1) | exact HB.out)))); (case aL => have := LMc43.out; omega); intro v105 w44 ho hb hg hat; rw [← Ny104.out] at ho; have n0_ := Aside0.mk (hb); have n1_ := Aside0.mk (ho); clear HB; clear HO_3; have HB := n0_; have HO106 := n1_; clear n0_ n1_; clear ho hb hg hat; have hcv45 := own_string (P := Tryd.prog) Tryd.underlying172 Tryd.underlying5 Tryd.underlying9 (Kd.own_of_R HO106.out); have hcw45 := Go.Proofs.YtmdjmbdeeodehaaDoorOwn.own_stringD (P := Tryd.prog) Tryd.underlying172 Tryd.underlying5 Tryd.underlying9 (Kd.own_of_R HO106.out)))
     go_ret
     exact ⟨by first | rfl | (simp [errW_none, errW_some] <;> rfl) | (simp [*, errW_none, errW_some] <;> rfl), by repeat (first | (with_reducible first | exact HB.out | apply below_alloc | apply pw_below_drewN | apply below_drew1) | exact HB.out)⟩
    ·rw [if_neg c43] at H
     exact absurd H (by simp)
end Go.Proofs.YtmdjmbdeeodehaaDoor.G
end
section
set_option linter.unusedVariables false
set_option linter.unusedSimpArgs false
namespace Go.Proofs.YtmdjmbdeeodehaaDoor.Pure
open Go.RowKit Go.Proofs.YtmdjmbdeeodehaaDoorW.PrintWords Go.Proofs.YtmdjmbdeeodehaaDoor.G
def numsL (l : List UInt8) : List Int := l.map fun b => (b.toNat : Int)
theorem numsL_append (a b : List UInt8) : numsL (a ++ b) = numsL a ++ numsL b := by simp [numsL]
theorem numsL_length (a : List UInt8) : (numsL a).length = a.length := by simp [numsL]
theorem strOf_numsL (l : List UInt8) : strOfNums (numsL l) = ⟨l.toArray⟩ := by
  apply ba_ext
  rw [strOfNums_data, numsL, List.map_map]
  exact (List.map_congr_left (g := id) (fun b _ => by simp)).trans (List.map_id l)
theorem hexd_toNat (n : Nat) (h : n < 16) : (hexd n).toNat = if n < 10 then 48 + n else 87 + n := by
  unfold hexd
  split <;> simp <;> omega
theorem hex_f (n : Nat) (h : n < 16) : wickerref01_hex.f (n : Int) = some ((hexd n).toNat : Int) := by
  unfold wickerref01_hex.f
  rw [hexd_toNat n h]
  by_cases h10 : n < 10
  · rw [if_pos (by omega), if_pos h10, w64 (by omega) (by omega)]; congr 1; omega
  · rw [if_neg (by omega), if_neg h10, w64 (by omega) (by omega)]; congr 1; omega
theorem ref_quote_l0 (s : ByteArray) (hn : s.size ≤ 1000000000000) : ∀ (d i : Nat) (acc : List UInt8), i + d = s.size → acc.length ≤ 4 * i + 1 →
    Ev (fun k => wickerref01_Quote.l0 k s (numsL acc) (i : Int)) ⟨(acc ++ ((s.data.toList.drop i).flatMap escB ++ [34])).toArray⟩ := by
  intro d
  induction d with
  | zero =>
    intro i acc hi ha
    refine ev_nowS fun k => ?_
    simp only [wickerref01_Quote.l0]
    rw [if_neg (by omega), List.drop_eq_nil_of_le (by rw [data_length]; omega), if_pos (by rw [numsL_length]; omega)]
    have : numsL acc ++ [34] = numsL (acc ++ [34]) := by simp [numsL]
    rw [this, strOf_numsL]; rfl
  | succ d ih =>
    intro i acc hi ha
    have hl : i < s.data.toList.length := by rw [data_length]; omega
    have hb := bt_get s i hl
    have e1 : wrap64 ((i : Int) + 1) = ((i + 1 : Nat) : Int) := by rw [w64 (by omega) (by omega)]; omega
    rw [List.drop_eq_getElem_cons hl, List.flatMap_cons]
    generalize s.data.toList[i] = b at hb
    have hb2 : b.toNat < 256 := UInt8.toNat_lt b
    have hlen := escB_le b
    have key := ih (i + 1) (acc ++ escB b) (by omega) (by rw [List.length_append]; omega)
    have hal : (numsL acc).length + 4 < 140737488355328 := by rw [numsL_length]; omega
    refine Ev.eq (r := ⟨((acc ++ escB b) ++ ((s.data.toList.drop (i + 1)).flatMap escB ++ [34])).toArray⟩) ?_ (by simp)
    rw [numsL_append] at key
    by_cases h10 : b.toNat = 10
    · have he : escB b = [92, 110] := by unfold escB; rw [if_pos h10]
      refine Ev.step (fun k => ?_) key
      simp only [wickerref01_Quote.l0]
      rw [if_pos (by omega), if_pos (by omega), hb, if_pos (by omega), Option.bind_some, if_pos (by simp only [List.length_cons, List.length_nil]; omega), he, e1]; rfl
    by_cases h9 : b.toNat = 9
    · have he : escB b = [92, 116] := by unfold escB; rw [if_neg h10, if_pos h9]
      refine Ev.step (fun k => ?_) key
      simp only [wickerref01_Quote.l0]
      rw [if_pos (by omega), if_pos (by omega), hb, if_neg (by omega), if_pos (by omega), Option.bind_some, if_pos (by simp only [List.length_cons, List.length_nil]; omega), he, e1]; rfl
    by_cases hp : b.toNat < 32 ∨ 126 < b.toNat
    · have he : escB b = [92, 120, hexd (b.toNat / 16), hexd (b.toNat % 16)] := by unfold escB; rw [if_neg h10, if_neg h9, if_pos hp]
      refine Ev.step (f := fun k => wickerref01_Quote.j1 k s (numsL acc) (i : Int) (b.toNat : Int) true) (fun k => ?_) (Ev.step (fun k => ?_) key)
      · simp only [wickerref01_Quote.l0]
        rw [if_pos (by omega), if_pos (by omega), hb, if_neg (by omega), if_neg (by omega)]
        by_cases h32 : (b.toNat : Int) < 32
        · rw [if_pos h32]
        · rw [if_neg h32, decide_eq_true (by omega)]
      · simp only [wickerref01_Quote.j1]
        rw [if_pos trivial, w64 (i := (b.toNat : Int)) (by omega) (by omega), Int.tdiv_eq_ediv_of_nonneg (by omega), Int.tmod_eq_emod_of_nonneg (by omega), w64 (i := (b.toNat : Int) / 16) (by omega) (by omega),
          show (b.toNat : Int) / 16 = ((b.toNat / 16 : Nat) : Int) by omega, show (b.toNat : Int) % 16 = ((b.toNat % 16 : Nat) : Int) by omega, hex_f _ (by omega), Option.bind_some, hex_f _ (by omega), Option.bind_some, Option.bind_some, if_pos (by simp only [List.length_cons, List.length_nil]; omega), he, e1]; rfl
    have hj : ∀ k, wickerref01_Quote.l0 (k + 1) s (numsL acc) (i : Int) = wickerref01_Quote.j1 k s (numsL acc) (i : Int) (b.toNat : Int) false := by
      intro k
      simp only [wickerref01_Quote.l0]
      rw [if_pos (by omega), if_pos (by omega), hb, if_neg (by omega), if_neg (by omega), if_neg (by omega), decide_eq_false (by omega)]
    by_cases hq : b.toNat = 34 ∨ b.toNat = 92
    · have he : escB b = [92, b] := by unfold escB; rw [if_neg h10, if_neg h9, if_neg hp, if_pos hq]
      refine Ev.step hj (Ev.step (fun k => ?_) key)
      simp only [wickerref01_Quote.j1]
      rw [if_neg (by simp)]
      by_cases h34 : (b.toNat : Int) = 34
      · rw [if_pos h34, Option.bind_some, if_pos (by simp only [List.length_cons, List.length_nil]; omega), he, e1]; rfl
      · rw [if_neg h34, if_pos (by omega), Option.bind_some, if_pos (by simp only [List.length_cons, List.length_nil]; omega), he, e1]; rfl
    · have he : escB b = [b] := by unfold escB; rw [if_neg h10, if_neg h9, if_neg hp, if_neg hq]
      refine Ev.step hj (Ev.step (fun k => ?_) key)
      simp only [wickerref01_Quote.j1]
      rw [if_neg (by simp), if_neg (by omega), if_neg (by omega), if_pos (by omega), he, e1]; rfl
theorem ref_quote_f (s : ByteArray) (hn : s.size ≤ 1000000000000) : Ev (fun k => wickerref01_Quote.f k s) ⟨(quoteL s.data.toList).toArray⟩ := by
  have := ref_quote_l0 s hn s.size 0 [34] (by omega) (by simp)
  refine Ev.eq this ?_
  simp [quoteL]
end Go.Proofs.YtmdjmbdeeodehaaDoor.Pure
end
section
namespace Go.Proofs.YtmdjmbdeeodehaaDoor.G
open Go.RowKit Go.Proofs.YtmdjmbdeeodehaaDoorW.PrintWords Go.Proofs.YtmdjmbdeeodehaaDoorW.PrintLast Go.Proofs.YtmdjmbdeeodehaaDoorW.PrintMore
attribute [local go_sem] max2_int min2_int max_two min_two max_three min_three max_four min_four
attribute [local go_sem] Go.Proofs.YtmdjmbdeeodehaaDoorOwn.isSome_setCell
set_option linter.unusedVariables false
set_option linter.unusedSimpArgs false
mutual
def wickerref03_Same.j0 : Nat → Bool → Int → Int → List (S58) → Int → Int → List (S58) → Option (Bool)
 | 0, _, _, _, _, _, _, _ => none
 | k + 1, x26, x102000, x102001, x102002, x103000, x103001, x103002 => if x26 = true then (some false) else (wickerref03_Same.l0 k 0 x102000 x102001 x102002 x103000 x103001 x103002)
def wickerref03_Same.l0 : Nat → Int → Int → Int → List (S58) → Int → Int → List (S58) → Option (Bool)
 | 0, _, _, _, _, _, _, _ => none
 | k + 1, x5, x102000, x102001, x102002, x103000, x103001, x103002 => if x5 < (x102002.length : Int) then (if 0 ≤ x5 then (if x5 < (x103002.length : Int) then ((wickerref03_Same.f k ((rd_T58 x102002 x5).f0) ((rd_T58 x102002 x5).f1) ((rd_T58 x102002 x5).f2) ((rd_T58 x103002 x5).f0) ((rd_T58 x103002 x5).f1) ((rd_T58 x103002 x5).f2)).bind fun t105 => (if t105 = true then (wickerref03_Same.l0 k (wrap64 (x5 + 1)) x102000 x102001 x102002 x103000 x103001 x103002) else (some false))) else (none)) else (none)) else (some true)
def wickerref03_Same.f : Nat → Int → Int → List (S58) → Int → Int → List (S58) → Option (Bool)
 | 0, _, _, _, _, _, _ => none
 | k + 1, a0_0, a0_1, l0_2, a1_0, a1_1, l1_2 => if a0_0 = a1_0 then (if a0_1 = a1_1 then (wickerref03_Same.j0 k ((l0_2.length : Int) != (l1_2.length : Int)) a0_0 a0_1 l0_2 a1_0 a1_1 l1_2) else (wickerref03_Same.j0 k true a0_0 a0_1 l0_2 a1_0 a1_1 l1_2)) else (wickerref03_Same.j0 k true a0_0 a0_1 l0_2 a1_0 a1_1 l1_2)
end
def wickerref03_Same.T6 : Bool × List (List Nat × List Nat) := (true, [([], []), ([0], [0]), ([], []), ([1, 2], [1, 2]), ([3], [3]), ([], []), ([5], [5]), ([], []), ([6, 7], [6, 7]), ([8], [8]), ([4, 9], [4, 9]), ([10], [10])])
def wickerref03_Same.B6 : List Nat := [0, 1, 0, 7, 15, 0, 32, 0, 224, 480, 1023, 2047]
theorem wickerref03_Same.tab6 : rtab .any (opsOf Tryd.f59 6) = wickerref03_Same.T6 := by kernel_rfl
theorem wickerref03_Same.bits6 : waitsOk wickerref03_Same.T6.2 wickerref03_Same.B6 = true := by kernel_rfl
set_option maxHeartbeats 8000000 in
set_option maxRecDepth 100000 in
theorem wickerref03_Same.calls (k : Nat) : ∀ (a0_0 : Int) (a0_1 : Int) (A0_2 : Option Addr) (c0_2 : Nat) (l0_2 : List (S58)) (a1_0 : Int) (a1_1 : Int) (A1_2 : Option Addr) (c1_2 : Nat) (l1_2 : List (S58)) (r : Bool) (w : World) (hr0_2 : Kd.C k58 w A0_2 l0_2.length l0_2) (hc0_2 : l0_2.length ≤ c0_2) (hr1_2 : Kd.C k58 w A1_2 l1_2.length l1_2) (hc1_2 : l1_2.length ≤ c1_2) (h : wickerref03_Same.f k a0_0 a0_1 l0_2 a1_0 a1_1 l1_2 = some r),
  Calls Tryd.prog 59 #[.agg #[.int .i64 a0_0, .int .i64 a0_1, .slice A0_2 l0_2.length c0_2], .agg #[.int .i64 a1_0, .int .i64 a1_1, .slice A1_2 l1_2.length c1_2]] w fun e w' => e = .returned (.bool r) ∧ Below w.heap.size w w' := by
 induction k using Nat.strongRecOn with
 | _ k ih =>
 intro a0_0 a0_1 A0_2 c0_2 l0_2 a1_0 a1_1 A1_2 c1_2 l1_2 r w hr0_2 hc0_2 hr1_2 hc1_2 h
 cases k with
 | zero => exact absurd h (by simp [wickerref03_Same.f])
 | succ k =>
 simp only [wickerref03_Same.f] at h
 have hu58 := Tryd.underlying58
 have HR0_2 := Aside0.mk hr0_2
 have HC0_2 := Aside0.mk hc0_2
 clear hr0_2 hc0_2
 have HR1_2 := Aside0.mk hr1_2
 have HC1_2 := Aside0.mk hc1_2
 clear hr1_2 hc1_2
 have HB := Aside0.mk (Below.refl w.heap.size w)
 have H : (if a0_0 = a1_0 then (if a0_1 = a1_1 then (wickerref03_Same.j0 k ((l0_2.length : Int) != (l1_2.length : Int)) a0_0 a0_1 l0_2 a1_0 a1_1 l1_2) else (wickerref03_Same.j0 k true a0_0 a0_1 l0_2 a1_0 a1_1 l1_2)) else (wickerref03_Same.j0 k true a0_0 a0_1 l0_2 a1_0 a1_1 l1_2)) = some r := h
 clear h
 have HC3 := Aside0.mk H
 clear H
 go_enter Tryd.func59, Tryd.ntmps59
 go_upto_region 1 with (first | ((with_reducible refine gate_dst (N := 2) rfl ?_); (try (refine gate_guard (by rfl) ?_; dsimp only)); refine box_event ?hg (N := 2) ?hd (cs := #[.int .i64 a0_0, .int .i64 a0_1, .slice A0_2 l0_2.length c0_2]) (t := 58) ?hr ?_; (case hd => rfl); (case hg => rfl); (case hr => first | (go_simp; done) | (go_simp; rfl)); intro gb101 hg w4 hbox hb; have n0_ := Aside0.mk (below_step (by repeat (first | (with_reducible first | exact HB.out | apply below_alloc | apply pw_below_drewN | apply below_drew1) | exact HB.out)) hb); have n1_ := Aside0.mk (hbox); have n2_ := Aside0.mk ((by rw [hg]; exact (below_size (by repeat (first | (with_reducible first | exact HB.out | apply below_alloc | apply pw_below_drewN | apply below_drew1) | exact HB.out))) : w.heap.size ≤ gb101)); have n3_ := Aside0.mk ((by rw [hg]; exact (below_size (by repeat (first | (with_reducible first | exact HB.out | apply below_alloc | apply pw_below_drewN | apply below_drew1) | exact HB.out))) : w.heap.size ≤ gb101)); clear HB; have HB := n0_; have BK101 := n1_; have GW101 := n2_; have GE101 := n3_; clear n0_ n1_ n2_ n3_; clear hb hbox hg) | ((with_reducible refine gate_dst (N := 3) rfl ?_); (try (refine gate_guard (by rfl) ?_; dsimp only)); refine box_event ?hg (N := 3) ?hd (cs := #[.int .i64 a1_0, .int .i64 a1_1, .slice A1_2 l1_2.length c1_2]) (t := 58) ?hr ?_; (case hd => rfl); (case hg => rfl); (case hr => first | (go_simp; done) | (go_simp; rfl)); intro gb102 hg w5 hbox hb; have n0_ := Aside0.mk (blk_below (g := gb101) (o := .cells #[.int .i64 a0_0, .int .i64 a0_1, .slice A0_2 l0_2.length c0_2] 58 (0, 0)) (by (with_reducible repeat (first | refine blk_drewN ?_ _ | refine blk_drew ?_ | refine blk_alloc ?_ _)); exact BK101.out) hb); have n1_ := Aside0.mk (below_step (by repeat (first | (with_reducible first | exact HB.out | apply below_alloc | apply pw_below_drewN | apply below_drew1 | refine below_set ?_ GE101.out) | exact HB.out)) hb); have n2_ := Aside0.mk (hbox); have n3_ := Aside0.mk ((by rw [hg]; exact (below_size (by repeat (first | (with_reducible first | exact HB.out | apply below_alloc | apply pw_below_drewN | apply below_drew1 | refine below_set ?_ GE101.out) | exact HB.out))) : w.heap.size ≤ gb102)); have n4_ := Aside0.mk ((by rw [hg]; exact (below_size (by repeat (first | (with_reducible first | exact HB.out | apply below_alloc | apply pw_below_drewN | apply below_drew1 | refine below_set ?_ GE101.out) | exact HB.out))) : w.heap.size ≤ gb102)); have n5_ := Aside0.mk ((by rw [hg]; exact Nat.ne_of_lt (blk_lt (g := gb101) (o := .cells #[.int .i64 a0_0, .int .i64 a0_1, .slice A0_2 l0_2.length c0_2] 58 (0, 0)) (by (with_reducible repeat (first | refine blk_drewN ?_ _ | refine blk_drew ?_ | refine blk_alloc ?_ _)); exact BK101.out)) : gb101 ≠ gb102)); have n6_ := Aside0.mk ((by rw [hg]; exact Nat.ne_of_gt (blk_lt (g := gb101) (o := .cells #[.int .i64 a0_0, .int .i64 a0_1, .slice A0_2 l0_2.length c0_2] 58 (0, 0)) (by (with_reducible repeat (first | refine blk_drewN ?_ _ | refine blk_drew ?_ | refine blk_alloc ?_ _)); exact BK101.out)) : gb102 ≠ gb101)); clear BK101; clear HB; have BK101 := n0_; have HB := n1_; have BK102 := n2_; have GW102 := n3_; have GE102 := n4_; have NB101_102 := n5_; have NB102_101 := n6_; clear n0_ n1_ n2_ n3_ n4_ n5_ n6_; clear hb hbox hg))
 (try simp only [Act.put, List.setIfInBounds_toArray, List.set_cons_zero, List.set_cons_succ])
 go_cut [26] (fun v26 wc => ∃ (kq : Nat) (x26_2 : Bool), v26 = .bool x26_2 ∧ Aside0 (wickerref03_Same.j0 kq x26_2 a0_0 a0_1 l0_2 a1_0 a1_1 l1_2 = some r) ∧ Aside0 (kq ≤ k) ∧ Aside0 (wc.heap[gb101]? = some (.cells #[.int .i64 a0_0, .int .i64 a0_1, (.slice A0_2 l0_2.length c0_2)] 58 (0, 0))) ∧ Aside0 (wc.heap[gb102]? = some (.cells #[.int .i64 a1_0, .int .i64 a1_1, (.slice A1_2 l1_2.length c1_2)] 58 (0, 0))) ∧ Aside0 (Below w.heap.size w wc))
 case first =>
  have H := HC3.out
  clear HC3
  by_cases c6 : a0_0 = a1_0
  ·rw [if_pos c6] at H
   have c6b0 : (a0_0 == a1_0) = true := beq_iff_eq.mpr c6
   have c6b1 : (a0_0 != a1_0) = false := bne_eq_false_iff_eq.mpr c6
   clear c6
   (first | rw [c6b0] | (simp only [i64_w, i32_w]; rw [c6b0]) | skip)
   by_cases c7 : a0_1 = a1_1
   ·rw [if_pos c7] at H
    have c7b0 : (a0_1 == a1_1) = true := beq_iff_eq.mpr c7
    have c7b1 : (a0_1 != a1_1) = false := bne_eq_false_iff_eq.mpr c7
    clear c7
    have H' := Aside0.mk H
    clear H
    have hnb8 := NB101_102.out
    have hnc8 := NB102_101.out
    have hcz9_0 : w5.cell? ⟨gb101, 0, none⟩ = some (.int .i64 a0_0) := (blk_cell BK101.out 0).trans rfl
    have hcz9_1 : w5.cell? ⟨gb101, 1, none⟩ = some (.int .i64 a0_1) := (blk_cell BK101.out 1).trans rfl
    have hcz9_2 : w5.cell? ⟨gb101, 2, none⟩ = some (.slice A0_2 l0_2.length c0_2) := (blk_cell BK101.out 2).trans rfl
    have hfz9_0 := blk_frozen BK101.out 0
    have hfz9_1 := blk_frozen BK101.out 1
    have hfz9_2 := blk_frozen BK101.out 2
    have hcz10_0 : w5.cell? ⟨gb102, 0, none⟩ = some (.int .i64 a1_0) := (blk_cell BK102.out 0).trans rfl
    have hcz10_1 : w5.cell? ⟨gb102, 1, none⟩ = some (.int .i64 a1_1) := (blk_cell BK102.out 1).trans rfl
    have hcz10_2 : w5.cell? ⟨gb102, 2, none⟩ = some (.slice A1_2 l1_2.length c1_2) := (blk_cell BK102.out 2).trans rfl
    have hfz10_0 := blk_frozen BK102.out 0
    have hfz10_1 := blk_frozen BK102.out 1
    have hfz10_2 := blk_frozen BK102.out 2
    go_wp2
    go_meet
    case rel => exact ⟨_, (((l0_2.length : Int) != (l1_2.length : Int))), (by first | rfl | (simp; done) | (simp [*]; done)), H', ⟨by first | omega | exact Nat.le_refl _⟩, ⟨by (with_reducible repeat (first | refine blk_drewN ?_ _ | refine blk_drew ?_ | refine blk_alloc ?_ _)); exact BK101.out⟩, ⟨by (with_reducible repeat (first | refine blk_drewN ?_ _ | refine blk_drew ?_ | refine blk_alloc ?_ _)); exact BK102.out⟩, ⟨by repeat (first | (with_reducible first | exact HB.out | apply below_alloc | apply pw_below_drewN | apply below_drew1 | refine below_set ?_ GE101.out | refine below_set ?_ GE102.out) | exact HB.out)⟩⟩
   ·rw [if_neg c7] at H
    have c7b0 : (a0_1 == a1_1) = false := beq_eq_false_iff_ne.mpr c7
    have c7b1 : (a0_1 != a1_1) = true := bne_iff_ne.mpr c7
    have H' := Aside0.mk H
    clear H
    have hnb11 := NB101_102.out
    have hnc11 := NB102_101.out
    have hcz12_0 : w5.cell? ⟨gb101, 0, none⟩ = some (.int .i64 a0_0) := (blk_cell BK101.out 0).trans rfl
    have hcz12_1 : w5.cell? ⟨gb101, 1, none⟩ = some (.int .i64 a0_1) := (blk_cell BK101.out 1).trans rfl
    have hcz12_2 : w5.cell? ⟨gb101, 2, none⟩ = some (.slice A0_2 l0_2.length c0_2) := (blk_cell BK101.out 2).trans rfl
    have hfz12_0 := blk_frozen BK101.out 0
    have hfz12_1 := blk_frozen BK101.out 1
    have hfz12_2 := blk_frozen BK101.out 2
    have hcz13_0 : w5.cell? ⟨gb102, 0, none⟩ = some (.int .i64 a1_0) := (blk_cell BK102.out 0).trans rfl
    have hcz13_1 : w5.cell? ⟨gb102, 1, none⟩ = some (.int .i64 a1_1) := (blk_cell BK102.out 1).trans rfl
    have hcz13_2 : w5.cell? ⟨gb102, 2, none⟩ = some (.slice A1_2 l1_2.length c1_2) := (blk_cell BK102.out 2).trans rfl
    have hfz13_0 := blk_frozen BK102.out 0
    have hfz13_1 := blk_frozen BK102.out 1
    have hfz13_2 := blk_frozen BK102.out 2
    go_wp2
    go_meet
    case rel => exact ⟨_, (true), (by first | rfl | (simp; done) | (simp [*]; done)), H', ⟨by first | omega | exact Nat.le_refl _⟩, ⟨by (with_reducible repeat (first | refine blk_drewN ?_ _ | refine blk_drew ?_ | refine blk_alloc ?_ _)); exact BK101.out⟩, ⟨by (with_reducible repeat (first | refine blk_drewN ?_ _ | refine blk_drew ?_ | refine blk_alloc ?_ _)); exact BK102.out⟩, ⟨by repeat (first | (with_reducible first | exact HB.out | apply below_alloc | apply pw_below_drewN | apply below_drew1 | refine below_set ?_ GE101.out | refine below_set ?_ GE102.out) | exact HB.out)⟩⟩
  ·rw [if_neg c6] at H
   have c6b0 : (a0_0 == a1_0) = false := beq_eq_false_iff_ne.mpr c6
   have c6b1 : (a0_0 != a1_0) = true := bne_iff_ne.mpr c6
   (first | rw [c6b0] | (simp only [i64_w, i32_w]; rw [c6b0]) | skip)
   have H' := Aside0.mk H
   clear H
   have hnb14 := NB101_102.out
   have hnc14 := NB102_101.out
   have hcz15_0 : w5.cell? ⟨gb101, 0, none⟩ = some (.int .i64 a0_0) := (blk_cell BK101.out 0).trans rfl
   have hcz15_1 : w5.cell? ⟨gb101, 1, none⟩ = some (.int .i64 a0_1) := (blk_cell BK101.out 1).trans rfl
   have hcz15_2 : w5.cell? ⟨gb101, 2, none⟩ = some (.slice A0_2 l0_2.length c0_2) := (blk_cell BK101.out 2).trans rfl
   have hfz15_0 := blk_frozen BK101.out 0
   have hfz15_1 := blk_frozen BK101.out 1
   have hfz15_2 := blk_frozen BK101.out 2
   have hcz16_0 : w5.cell? ⟨gb102, 0, none⟩ = some (.int .i64 a1_0) := (blk_cell BK102.out 0).trans rfl
   have hcz16_1 : w5.cell? ⟨gb102, 1, none⟩ = some (.int .i64 a1_1) := (blk_cell BK102.out 1).trans rfl
   have hcz16_2 : w5.cell? ⟨gb102, 2, none⟩ = some (.slice A1_2 l1_2.length c1_2) := (blk_cell BK102.out 2).trans rfl
   have hfz16_0 := blk_frozen BK102.out 0
   have hfz16_1 := blk_frozen BK102.out 1
   have hfz16_2 := blk_frozen BK102.out 2
   go_wp2
   go_meet
   case rel => exact ⟨_, (true), (by first | rfl | (simp; done) | (simp [*]; done)), H', ⟨by first | omega | exact Nat.le_refl _⟩, ⟨by (with_reducible repeat (first | refine blk_drewN ?_ _ | refine blk_drew ?_ | refine blk_alloc ?_ _)); exact BK101.out⟩, ⟨by (with_reducible repeat (first | refine blk_drewN ?_ _ | refine blk_drew ?_ | refine blk_alloc ?_ _)); exact BK102.out⟩, ⟨by repeat (first | (with_reducible first | exact HB.out | apply below_alloc | apply pw_below_drewN | apply below_drew1 | refine below_set ?_ GE101.out | refine below_set ?_ GE102.out) | exact HB.out)⟩⟩
 case rest =>
  clear HC3
  try clear c1
  try clear p2
  try clear c5
  try clear c6
  try clear c6b0
  try clear c6b1
  try clear c7
  try clear c7b0
  try clear c7b1
  try clear c8
  try clear c11
  try clear c14
  try clear hcz10_0
  try clear hcz10_1
  try clear hcz10_2
  try clear hcz12_0
  try clear hcz12_1
  try clear hcz12_2
  try clear hcz13_0
  try clear hcz13_1
  try clear hcz13_2
  try clear hcz15_0
  try clear hcz15_1
  try clear hcz15_2
  try clear hcz16_0
  try clear hcz16_1
  try clear hcz16_2
  try clear hcz9_0
  try clear hcz9_1
  try clear hcz9_2
  try clear hfz10_0
  try clear hfz10_1
  try clear hfz10_2
  try clear hfz12_0
  try clear hfz12_1
  try clear hfz12_2
  try clear hfz13_0
  try clear hfz13_1
  try clear hfz13_2
  try clear hfz15_0
  try clear hfz15_1
  try clear hfz15_2
  try clear hfz16_0
  try clear hfz16_1
  try clear hfz16_2
  try clear hfz9_0
  try clear hfz9_1
  try clear hfz9_2
  obtain ⟨kq, x26_2, rfl, HA, HJ2, BK101, BK102, HB⟩ := hcut
  cases kq with
  | zero => exact absurd HA.out (by simp [wickerref03_Same.j0])
  | succ kj2 =>
   have H := HA.out
   clear HA
   simp only [wickerref03_Same.j0] at H
   by_cases c17 : x26_2 = true
   ·subst c17
    have H1 : (some false) = some r := by rw [if_pos rfl] at H; exact H
    clear H
    have H := H1
    clear H1
    obtain rfl := Option.some.inj H
    go_wp2
    go_ret
    exact ⟨by first | rfl | (simp [errW_none, errW_some] <;> rfl) | (simp [*, errW_none, errW_some] <;> rfl), by repeat (first | (with_reducible first | exact HB.out | apply below_alloc | apply pw_below_drewN | apply below_drew1 | refine below_set ?_ GE101.out | refine below_set ?_ GE102.out) | exact HB.out)⟩
   ·replace c17 := Bool.eq_false_iff.mpr c17
    subst c17
    have H1 : (wickerref03_Same.l0 kj2 0 a0_0 a0_1 l0_2 a1_0 a1_1 l1_2) = some r := by rw [if_neg (show ¬ (false = true) by decide)] at H; exact H
    clear H
    have H := H1
    clear H1
    have H' := Aside0.mk H
    clear H
    go_wp2
    go_loopg [5] kj2 (fun kq v5 w' => ∃ (x5_2 : Int), v5 = .int .i64 x5_2 ∧ Aside0 (wickerref03_Same.l0 kq x5_2 a0_0 a0_1 l0_2 a1_0 a1_1 l1_2 = some r) ∧ Aside0 (kq ≤ kj2) ∧ Aside0 (w'.heap[gb101]? = some (.cells #[.int .i64 a0_0, .int .i64 a0_1, (.slice A0_2 l0_2.length c0_2)] 58 (0, 0))) ∧ Aside0 (w'.heap[gb102]? = some (.cells #[.int .i64 a1_0, .int .i64 a1_1, (.slice A1_2 l1_2.length c1_2)] 58 (0, 0))) ∧ Aside0 (Below w.heap.size w w'))
    case atStart => exact ⟨(0), (by first | rfl | (simp; done) | (simp [*]; done)), H', ⟨Nat.le_refl _⟩, ⟨by (with_reducible repeat (first | refine blk_drewN ?_ _ | refine blk_drew ?_ | refine blk_alloc ?_ _)); exact BK101.out⟩, ⟨by (with_reducible repeat (first | refine blk_drewN ?_ _ | refine blk_drew ?_ | refine blk_alloc ?_ _)); exact BK102.out⟩, ⟨by repeat (first | (with_reducible first | exact HB.out | apply below_alloc | apply pw_below_drewN | apply below_drew1 | refine below_set ?_ GE101.out | refine below_set ?_ GE102.out) | exact HB.out)⟩⟩
    case round =>
     clear H'
     try clear c1
     try clear p2
     try clear c5
     try clear c6
     try clear c6b0
     try clear c6b1
     try clear c7
     try clear c7b0
     try clear c7b1
     try clear c8
     try clear c11
     try clear c14
     try clear c17
     try clear hcz10_0
     try clear hcz10_1
     try clear hcz10_2
     try clear hcz12_0
     try clear hcz12_1
     try clear hcz12_2
     try clear hcz13_0
     try clear hcz13_1
     try clear hcz13_2
     try clear hcz15_0
     try clear hcz15_1
     try clear hcz15_2
     try clear hcz16_0
     try clear hcz16_1
     try clear hcz16_2
     try clear hcz9_0
     try clear hcz9_1
     try clear hcz9_2
     try clear hfz10_0
     try clear hfz10_1
     try clear hfz10_2
     try clear hfz12_0
     try clear hfz12_1
     try clear hfz12_2
     try clear hfz13_0
     try clear hfz13_1
     try clear hfz13_2
     try clear hfz15_0
     try clear hfz15_1
     try clear hfz15_2
     try clear hfz16_0
     try clear hfz16_1
     try clear hfz16_2
     try clear hfz9_0
     try clear hfz9_1
     try clear hfz9_2
     try clear p2
     obtain ⟨x5_2, rfl, HA, HK2, BK101, BK102, HB⟩ := hrel
     cases gk with
     | zero => exact absurd HA.out (by simp [wickerref03_Same.l0])
     | succ k2 =>
      have H := HA.out
      clear HA
      simp only [wickerref03_Same.l0] at H
      by_cases c18 : x5_2 < (l0_2.length : Int)
      ·rw [if_pos c18] at H
       have c18b0 : decide (x5_2 < (l0_2.length : Int)) = true := decide_eq_true c18
       clear c18
       by_cases c19 : 0 ≤ x5_2
       ·rw [if_pos c19] at H
        have c19b0 : decide (0 ≤ x5_2) = true := decide_eq_true c19
        clear c19
        by_cases c20 : x5_2 < (l1_2.length : Int)
        ·rw [if_pos c20] at H
         have c20b0 : decide (x5_2 < (l1_2.length : Int)) = true := decide_eq_true c20
         clear c20
         replace H := Option.bind_eq_some_iff.mp H
         obtain ⟨t105, A210, H⟩ := H
         replace H : (if t105 = true then (wickerref03_Same.l0 k2 (wrap64 (x5_2 + 1)) a0_0 a0_1 l0_2 a1_0 a1_1 l1_2) else (some false)) = some r := H
         have A21 := Aside0.mk A210
         clear A210
         by_cases c22 : t105 = true
         ·subst c22
          have H1 : (wickerref03_Same.l0 k2 (wrap64 (x5_2 + 1)) a0_0 a0_1 l0_2 a1_0 a1_1 l1_2) = some r := by rw [if_pos rfl] at H; exact H
          clear H
          have H := H1
          clear H1
          have H' := Aside0.mk H
          clear H
          have hnb23 := NB101_102.out
          have hnc23 := NB102_101.out
          have hcz24_0 : wr.cell? ⟨gb101, 0, none⟩ = some (.int .i64 a0_0) := (blk_cell BK101.out 0).trans rfl
          have hcz24_1 : wr.cell? ⟨gb101, 1, none⟩ = some (.int .i64 a0_1) := (blk_cell BK101.out 1).trans rfl
          have hcz24_2 : wr.cell? ⟨gb101, 2, none⟩ = some (.slice A0_2 l0_2.length c0_2) := (blk_cell BK101.out 2).trans rfl
          have hfz24_0 := blk_frozen BK101.out 0
          have hfz24_1 := blk_frozen BK101.out 1
          have hfz24_2 := blk_frozen BK101.out 2
          try go_wp2
          have n0_ := Aside0.mk (blk_drew BK101.out)
          have n1_ := Aside0.mk (blk_drew BK102.out)
          have n2_ := Aside0.mk (below_drew1 HB.out)
          clear BK101
          clear BK102
          clear HB
          have BK101 := n0_
          have BK102 := n1_
          have HB := n2_
          clear n0_ n1_ n2_
          have p103 : 0 ≤ (x5_2 : Int) := of_decide_eq_true (by first | (with_reducible assumption) | assumption)
          have q103 : x5_2 < (l0_2.length : Int) := of_decide_eq_true (by first | (with_reducible assumption) | assumption)
          obtain ⟨ad103, A103_2, c103_2, e103, hx103_0, hx103_1, hx103_2, hl103_2, hi103_2⟩ := at_T58 HR0_2.out x5_2 p103 q103
          have hw103_2 := hx103_2
          have hw103_1 := hx103_1
          have hw103_0 := hx103_0
          cases e103
          replace hx103_0 := (HB.out.cell (World.block_lt_of_cell? w _ hx103_0)).trans hx103_0
          replace hx103_1 := (HB.out.cell (World.block_lt_of_cell? w _ hx103_1)).trans hx103_1
          replace hx103_2 := (HB.out.cell (World.block_lt_of_cell? w _ hx103_2)).trans hx103_2
          have HR103_2 := Aside0.mk hi103_2
          have HC103_2 := Aside0.mk hl103_2
          clear hi103_2 hl103_2
          replace p103 := eq_true p103
          replace q103 := eq_true q103
          have p104 : 0 ≤ (x5_2 : Int) := of_decide_eq_true (by first | (with_reducible assumption) | assumption)
          have q104 : x5_2 < (l1_2.length : Int) := of_decide_eq_true (by first | (with_reducible assumption) | assumption)
          obtain ⟨ad104, A104_2, c104_2, e104, hx104_0, hx104_1, hx104_2, hl104_2, hi104_2⟩ := at_T58 HR1_2.out x5_2 p104 q104
          have hw104_2 := hx104_2
          have hw104_1 := hx104_1
          have hw104_0 := hx104_0
          cases e104
          replace hx104_0 := (HB.out.cell (World.block_lt_of_cell? w _ hx104_0)).trans hx104_0
          replace hx104_1 := (HB.out.cell (World.block_lt_of_cell? w _ hx104_1)).trans hx104_1
          replace hx104_2 := (HB.out.cell (World.block_lt_of_cell? w _ hx104_2)).trans hx104_2
          have HR104_2 := Aside0.mk hi104_2
          have HC104_2 := Aside0.mk hl104_2
          clear hi104_2 hl104_2
          replace p104 := eq_true p104
          replace q104 := eq_true q104
          refine start_ (n := 12) (S := fun w' => w'.cell? ⟨gb101, 0, none⟩ = some (.int .i64 a0_0) ∧ w'.cell? ⟨gb101, 1, none⟩ = some (.int .i64 a0_1) ∧ w'.cell? ⟨gb101, 2, none⟩ = some (.slice (some ad103) l0_2.length c0_2) ∧ w'.cell? ⟨gb102, 0, none⟩ = some (.int .i64 a1_0) ∧ w'.cell? ⟨gb102, 1, none⟩ = some (.int .i64 a1_1) ∧ w'.cell? ⟨gb102, 2, none⟩ = some (.slice (some ad104) l1_2.length c1_2) ∧ w'.cell? (ad103.add ((x5_2).toNat * 3)) = some (.int .i64 ((rd_T58 l0_2 x5_2).f0)) ∧ w'.cell? ⟨(ad103.add ((x5_2).toNat * 3)).block, (ad103.add ((x5_2).toNat * 3)).off + 1, none⟩ = some (.int .i64 ((rd_T58 l0_2 x5_2).f1)) ∧ w'.cell? ⟨(ad103.add ((x5_2).toNat * 3)).block, (ad103.add ((x5_2).toNat * 3)).off + 2, none⟩ = some (.slice A103_2 ((rd_T58 l0_2 x5_2).f2).length c103_2) ∧ w'.cell? (ad104.add ((x5_2).toNat * 3)) = some (.int .i64 ((rd_T58 l1_2 x5_2).f0)) ∧ w'.cell? ⟨(ad104.add ((x5_2).toNat * 3)).block, (ad104.add ((x5_2).toNat * 3)).off + 1, none⟩ = some (.int .i64 ((rd_T58 l1_2 x5_2).f1)) ∧ w'.cell? ⟨(ad104.add ((x5_2).toNat * 3)).block, (ad104.add ((x5_2).toNat * 3)).off + 2, none⟩ = some (.slice A104_2 ((rd_T58 l1_2 x5_2).f2).length c104_2)) (ds := []) #[false, false, false, false, false, false, false, false, false, false, false, false] (by kernel_rfl) rfl rfl ⟨(blk_cell BK101.out 0).trans rfl, (blk_cell BK101.out 1).trans rfl, (blk_cell BK101.out 2).trans rfl, (blk_cell BK102.out 0).trans rfl, (blk_cell BK102.out 1).trans rfl, (blk_cell BK102.out 2).trans rfl, ((HB.out.cell (World.block_lt_of_cell? w _ hw103_0)).trans hw103_0), ((HB.out.cell (World.block_lt_of_cell? w _ hw103_1)).trans hw103_1), ((HB.out.cell (World.block_lt_of_cell? w _ hw103_2)).trans hw103_2), ((HB.out.cell (World.block_lt_of_cell? w _ hw104_0)).trans hw104_0), ((HB.out.cell (World.block_lt_of_cell? w _ hw104_1)).trans hw104_1), ((HB.out.cell (World.block_lt_of_cell? w _ hw104_2)).trans hw104_2)⟩ (fun hHeld => ?_); refine with_tabW wickerref03_Same.tab6 wickerref03_Same.bits6 (fun HT_ HW_ => ?_)
          generalize wr.drew = w25 at BK101 BK102 HB HR103_2 HR104_2 hx103_0 hx103_1 hx103_2 hx104_0 hx104_1 hx104_2 hHeld ⊢
          refine pure_ (i := 0) (N := some 34) (v := ?_) (a' := ?_) #[true, false, false, false, false, false, false, false, false, false, false, false] rfl rfl (any_of HT_.out (by kernel_rfl)) (fun _ _ _ h => h) (Or.inl ⟨by rfl, ?_⟩) ?_ ?_
          rotate_left
          ·intro w'
           go_simp
           with_reducible rfl
          rotate_left
          ·simp only [Act.put, List.setIfInBounds_toArray, List.set_cons_zero, List.set_cons_succ, i64_w, i32_w]
           rfl
          refine pure_ (i := 2) (N := some 36) (v := ?_) (a' := ?_) #[true, false, true, false, false, false, false, false, false, false, false, false] rfl rfl (any_of HT_.out (by kernel_rfl)) (fun _ _ _ h => h) (Or.inl ⟨by rfl, ?_⟩) ?_ ?_
          rotate_left
          ·intro w'
           go_simp
           with_reducible rfl
          rotate_left
          ·simp only [Act.put, List.setIfInBounds_toArray, List.set_cons_zero, List.set_cons_succ, i64_w, i32_w]
           rfl
          refine pure_ (i := 5) (N := some 39) (v := ?_) (a' := ?_) #[true, false, true, false, false, true, false, false, false, false, false, false] rfl rfl (any_of HT_.out (by kernel_rfl)) (fun _ _ _ h => h) (Or.inl ⟨by rfl, ?_⟩) ?_ ?_
          rotate_left
          ·intro w'
           go_simp
           with_reducible rfl
          rotate_left
          ·simp only [Act.put, List.setIfInBounds_toArray, List.set_cons_zero, List.set_cons_succ, i64_w, i32_w]
           rfl
          refine pure_ (i := 7) (N := some 41) (v := ?_) (a' := ?_) #[true, false, true, false, false, true, false, true, false, false, false, false] rfl rfl (any_of HT_.out (by kernel_rfl)) (fun _ _ _ h => h) (Or.inl ⟨by rfl, ?_⟩) ?_ ?_
          rotate_left
          ·intro w'
           go_simp
           with_reducible rfl
          rotate_left
          ·simp only [Act.put, List.setIfInBounds_toArray, List.set_cons_zero, List.set_cons_succ, i64_w, i32_w]
           rfl
          refine take_ (i := 1) (N := some 35) (v := ?_) (a' := ?_) #[true, true, true, false, false, true, false, true, false, false, false, false] rfl rfl (take_ofW HT_.out HW_.out (by kernel_rfl)) (fun _ _ _ h => h) (Or.inl ⟨by rfl, ?_⟩) hHeld ?_ ?_
          rotate_left
          ·rintro w' ⟨s0, s1, s2, s3, s4, s5, s6, s7, s8, s9, s10, s11⟩
           go_simp
           with_reducible rfl
          rotate_left
          ·simp only [Act.put, List.setIfInBounds_toArray, List.set_cons_zero, List.set_cons_succ, i64_w, i32_w]
           rfl
          refine pure_ (i := 3) (N := some 37) (v := ?_) (a' := ?_) #[true, true, true, true, false, true, false, true, false, false, false, false] rfl rfl (any_of HT_.out (by kernel_rfl)) (fun _ _ _ h => h) (Or.inl ⟨by rfl, ?_⟩) ?_ ?_
          rotate_left
          ·intro w'
           go_simp
           with_reducible rfl
          rotate_left
          ·simp only [Act.put, List.setIfInBounds_toArray, List.set_cons_zero, List.set_cons_succ, i64_w, i32_w]
           rfl
          refine take_ (i := 4) (N := some 38) (v := ?_) (a' := ?_) #[true, true, true, true, true, true, false, true, false, false, false, false] rfl rfl (take_ofW HT_.out HW_.out (by kernel_rfl)) (fun _ _ _ h => h) (Or.inl ⟨by rfl, ?_⟩) hHeld ?_ ?_
          rotate_left
          ·rintro w' ⟨s0, s1, s2, s3, s4, s5, s6, s7, s8, s9, s10, s11⟩
           go_simp
           with_reducible rfl
          rotate_left
          ·simp only [Act.put, List.setIfInBounds_toArray, List.set_cons_zero, List.set_cons_succ, i64_w, i32_w]
           rfl
          refine take_ (i := 6) (N := some 40) (v := ?_) (a' := ?_) #[true, true, true, true, true, true, true, true, false, false, false, false] rfl rfl (take_ofW HT_.out HW_.out (by kernel_rfl)) (fun _ _ _ h => h) (Or.inl ⟨by rfl, ?_⟩) hHeld ?_ ?_
          rotate_left
          ·rintro w' ⟨s0, s1, s2, s3, s4, s5, s6, s7, s8, s9, s10, s11⟩
           go_simp
           with_reducible rfl
          rotate_left
          ·simp only [Act.put, List.setIfInBounds_toArray, List.set_cons_zero, List.set_cons_succ, i64_w, i32_w]
           rfl
          refine pure_ (i := 8) (N := some 42) (v := ?_) (a' := ?_) #[true, true, true, true, true, true, true, true, true, false, false, false] rfl rfl (any_of HT_.out (by kernel_rfl)) (fun _ _ _ h => h) (Or.inl ⟨by rfl, ?_⟩) ?_ ?_
          rotate_left
          ·intro w'
           go_simp
           with_reducible rfl
          rotate_left
          ·simp only [Act.put, List.setIfInBounds_toArray, List.set_cons_zero, List.set_cons_succ, i64_w, i32_w]
           rfl
          refine take_ (i := 9) (N := some 43) (v := ?_) (a' := ?_) #[true, true, true, true, true, true, true, true, true, true, false, false] rfl rfl (take_ofW HT_.out HW_.out (by kernel_rfl)) (fun _ _ _ h => h) (Or.inl ⟨by rfl, ?_⟩) hHeld ?_ ?_
          rotate_left
          ·rintro w' ⟨s0, s1, s2, s3, s4, s5, s6, s7, s8, s9, s10, s11⟩
           go_simp
           with_reducible rfl
          rotate_left
          ·simp only [Act.put, List.setIfInBounds_toArray, List.set_cons_zero, List.set_cons_succ, i64_w, i32_w]
           rfl
          refine one_ (i := 10) (N := some 44) #[true, true, true, true, true, true, true, true, true, true, true, false] rfl rfl (one_of HT_.out (by kernel_rfl)) (by decide) (fun K hK => ?_)
          refine goes_ Tryd.func59 (by kernel_rfl) rfl #[.agg #[.int .i64 ((rd_T58 l0_2 x5_2).f0), .int .i64 ((rd_T58 l0_2 x5_2).f1), .slice A103_2 ((rd_T58 l0_2 x5_2).f2).length c103_2], .agg #[.int .i64 ((rd_T58 l1_2 x5_2).f0), .int .i64 ((rd_T58 l1_2 x5_2).f1), .slice A104_2 ((rd_T58 l1_2 x5_2).f2).length c104_2]] (by rfl) rfl rfl (by (try simp only [List.map_toArray, List.map_cons, List.map_nil]); first | done | rfl | (simp only [List.length_drop, List.length_take]; rfl)) ?_
          with_reducible refine (ih k2 (by have := HJ2.out; have := HK2.out; omega) ((rd_T58 l0_2 x5_2).f0) ((rd_T58 l0_2 x5_2).f1) _ _ ((rd_T58 l0_2 x5_2).f2) ((rd_T58 l1_2 x5_2).f0) ((rd_T58 l1_2 x5_2).f1) _ _ ((rd_T58 l1_2 x5_2).f2) true _ ?side1 ?side2 ?side3 ?side4 A21.out).mono ?_
          (case side1 => repeat (first | exact (Kd.C_below HR103_2.out HB.out) | (with_reducible refine Kd.C_alloc ?_ _) | (with_reducible refine Kd.C_drewN ?_ _) | (with_reducible refine Kd.C_drew ?_)))
          (case side2 => exact HC103_2.out)
          (case side3 => repeat (first | exact (Kd.C_below HR104_2.out HB.out) | (with_reducible refine Kd.C_alloc ?_ _) | (with_reducible refine Kd.C_drewN ?_ _) | (with_reducible refine Kd.C_drew ?_)))
          (case side4 => exact HC104_2.out)
          rintro e w26 ⟨rfl, hb⟩
          refine ⟨_, rfl, ?_⟩
          have n0_ := Aside0.mk (blk_below (g := gb101) (o := .cells #[.int .i64 a0_0, .int .i64 a0_1, .slice (some ad103) l0_2.length c0_2] 58 (0, 0)) (by (with_reducible repeat (first | refine blk_drewN ?_ _ | refine blk_drew ?_ | refine blk_alloc ?_ _)); exact BK101.out) hb)
          have n1_ := Aside0.mk (blk_below (g := gb102) (o := .cells #[.int .i64 a1_0, .int .i64 a1_1, .slice (some ad104) l1_2.length c1_2] 58 (0, 0)) (by (with_reducible repeat (first | refine blk_drewN ?_ _ | refine blk_drew ?_ | refine blk_alloc ?_ _)); exact BK102.out) hb)
          have n2_ := Aside0.mk (below_step (by repeat (first | (with_reducible first | exact HB.out | apply below_alloc | apply pw_below_drewN | apply below_drew1 | refine below_set ?_ GE101.out | refine below_set ?_ GE102.out) | exact HB.out)) hb)
          clear BK101
          clear BK102
          clear HB
          have BK101 := n0_
          have BK102 := n1_
          have HB := n2_
          clear n0_ n1_ n2_
          (try clear hb)
          (try clear hb2)
          (try clear hk)
          (try clear hi)
          refine hK.out _ _ ⟨(blk_cell BK101.out 0).trans rfl, (blk_cell BK101.out 1).trans rfl, (blk_cell BK101.out 2).trans rfl, (blk_cell BK102.out 0).trans rfl, (blk_cell BK102.out 1).trans rfl, (blk_cell BK102.out 2).trans rfl, ((HB.out.cell (World.block_lt_of_cell? w _ hw103_0)).trans hw103_0), ((HB.out.cell (World.block_lt_of_cell? w _ hw103_1)).trans hw103_1), ((HB.out.cell (World.block_lt_of_cell? w _ hw103_2)).trans hw103_2), ((HB.out.cell (World.block_lt_of_cell? w _ hw104_0)).trans hw104_0), ((HB.out.cell (World.block_lt_of_cell? w _ hw104_1)).trans hw104_1), ((HB.out.cell (World.block_lt_of_cell? w _ hw104_2)).trans hw104_2)⟩ (fun hHeld => ?_)
          clear hK K
          refine norm_ (a' := ?_) ?_ ?_
          rotate_left
          ·show Act.put _ (some 44) _ = _
           simp only [Act.put, List.setIfInBounds_toArray, List.set_cons_zero, List.set_cons_succ, i64_w, i32_w]
           rfl
          refine pure_ (i := 11) (N := some 45) (v := ?_) (a' := ?_) #[true, true, true, true, true, true, true, true, true, true, true, true] rfl rfl (any_of HT_.out (by kernel_rfl)) (fun _ _ _ h => h) (Or.inl ⟨by rfl, ?_⟩) ?_ ?_
          rotate_left
          ·intro w'
           go_simp
           with_reducible rfl
          rotate_left
          ·simp only [Act.put, List.setIfInBounds_toArray, List.set_cons_zero, List.set_cons_succ, i64_w, i32_w]
           rfl
          refine done_ (done_of HT_.out (by kernel_rfl)) ?_
          try go_wp2
          go_roundg k2
          case measure => have := HJ2.out; have := HK2.out; omega
          case rel => exact ⟨(wrap64 (x5_2 + 1)), (by first | rfl | (simp; done) | (simp [*]; done)), H', ⟨by have := HJ2.out; have := HK2.out; omega⟩, ⟨by (with_reducible repeat (first | refine blk_drewN ?_ _ | refine blk_drew ?_ | refine blk_alloc ?_ _)); exact BK101.out⟩, ⟨by (with_reducible repeat (first | refine blk_drewN ?_ _ | refine blk_drew ?_ | refine blk_alloc ?_ _)); exact BK102.out⟩, ⟨by repeat (first | (with_reducible first | exact HB.out | apply below_alloc | apply pw_below_drewN | apply below_drew1 | refine below_set ?_ GE101.out | refine below_set ?_ GE102.out) | exact HB.out)⟩⟩
         ·replace c22 := Bool.eq_false_iff.mpr c22
          subst c22
          have H1 : (some false) = some r := by rw [if_neg (show ¬ (false = true) by decide)] at H; exact H
          clear H
          have H := H1
          clear H1
          obtain rfl := Option.some.inj H
          have hnb27 := NB101_102.out
          have hnc27 := NB102_101.out
          have hcz28_0 : wr.cell? ⟨gb101, 0, none⟩ = some (.int .i64 a0_0) := (blk_cell BK101.out 0).trans rfl
          have hcz28_1 : wr.cell? ⟨gb101, 1, none⟩ = some (.int .i64 a0_1) := (blk_cell BK101.out 1).trans rfl
          have hcz28_2 : wr.cell? ⟨gb101, 2, none⟩ = some (.slice A0_2 l0_2.length c0_2) := (blk_cell BK101.out 2).trans rfl
          have hfz28_0 := blk_frozen BK101.out 0
          have hfz28_1 := blk_frozen BK101.out 1
          have hfz28_2 := blk_frozen BK101.out 2
          try go_wp2
          have n0_ := Aside0.mk (blk_drew BK101.out)
          have n1_ := Aside0.mk (blk_drew BK102.out)
          have n2_ := Aside0.mk (below_drew1 HB.out)
          clear BK101
          clear BK102
          clear HB
          have BK101 := n0_
          have BK102 := n1_
          have HB := n2_
          clear n0_ n1_ n2_
          have p103 : 0 ≤ (x5_2 : Int) := of_decide_eq_true (by first | (with_reducible assumption) | assumption)
          have q103 : x5_2 < (l0_2.length : Int) := of_decide_eq_true (by first | (with_reducible assumption) | assumption)
          obtain ⟨ad103, A103_2, c103_2, e103, hx103_0, hx103_1, hx103_2, hl103_2, hi103_2⟩ := at_T58 HR0_2.out x5_2 p103 q103
          have hw103_2 := hx103_2
          have hw103_1 := hx103_1
          have hw103_0 := hx103_0
          cases e103
          replace hx103_0 := (HB.out.cell (World.block_lt_of_cell? w _ hx103_0)).trans hx103_0
          replace hx103_1 := (HB.out.cell (World.block_lt_of_cell? w _ hx103_1)).trans hx103_1
          replace hx103_2 := (HB.out.cell (World.block_lt_of_cell? w _ hx103_2)).trans hx103_2
          have HR103_2 := Aside0.mk hi103_2
          have HC103_2 := Aside0.mk hl103_2
          clear hi103_2 hl103_2
          replace p103 := eq_true p103
          replace q103 := eq_true q103
          have p104 : 0 ≤ (x5_2 : Int) := of_decide_eq_true (by first | (with_reducible assumption) | assumption)
          have q104 : x5_2 < (l1_2.length : Int) := of_decide_eq_true (by first | (with_reducible assumption) | assumption)
          obtain ⟨ad104, A104_2, c104_2, e104, hx104_0, hx104_1, hx104_2, hl104_2, hi104_2⟩ := at_T58 HR1_2.out x5_2 p104 q104
          have hw104_2 := hx104_2
          have hw104_1 := hx104_1
          have hw104_0 := hx104_0
          cases e104
          replace hx104_0 := (HB.out.cell (World.block_lt_of_cell? w _ hx104_0)).trans hx104_0
          replace hx104_1 := (HB.out.cell (World.block_lt_of_cell? w _ hx104_1)).trans hx104_1
          replace hx104_2 := (HB.out.cell (World.block_lt_of_cell? w _ hx104_2)).trans hx104_2
          have HR104_2 := Aside0.mk hi104_2
          have HC104_2 := Aside0.mk hl104_2
          clear hi104_2 hl104_2
          replace p104 := eq_true p104
          replace q104 := eq_true q104
          refine start_ (n := 12) (S := fun w' => w'.cell? ⟨gb101, 0, none⟩ = some (.int .i64 a0_0) ∧ w'.cell? ⟨gb101, 1, none⟩ = some (.int .i64 a0_1) ∧ w'.cell? ⟨gb101, 2, none⟩ = some (.slice (some ad103) l0_2.length c0_2) ∧ w'.cell? ⟨gb102, 0, none⟩ = some (.int .i64 a1_0) ∧ w'.cell? ⟨gb102, 1, none⟩ = some (.int .i64 a1_1) ∧ w'.cell? ⟨gb102, 2, none⟩ = some (.slice (some ad104) l1_2.length c1_2) ∧ w'.cell? (ad103.add ((x5_2).toNat * 3)) = some (.int .i64 ((rd_T58 l0_2 x5_2).f0)) ∧ w'.cell? ⟨(ad103.add ((x5_2).toNat * 3)).block, (ad103.add ((x5_2).toNat * 3)).off + 1, none⟩ = some (.int .i64 ((rd_T58 l0_2 x5_2).f1)) ∧ w'.cell? ⟨(ad103.add ((x5_2).toNat * 3)).block, (ad103.add ((x5_2).toNat * 3)).off + 2, none⟩ = some (.slice A103_2 ((rd_T58 l0_2 x5_2).f2).length c103_2) ∧ w'.cell? (ad104.add ((x5_2).toNat * 3)) = some (.int .i64 ((rd_T58 l1_2 x5_2).f0)) ∧ w'.cell? ⟨(ad104.add ((x5_2).toNat * 3)).block, (ad104.add ((x5_2).toNat * 3)).off + 1, none⟩ = some (.int .i64 ((rd_T58 l1_2 x5_2).f1)) ∧ w'.cell? ⟨(ad104.add ((x5_2).toNat * 3)).block, (ad104.add ((x5_2).toNat * 3)).off + 2, none⟩ = some (.slice A104_2 ((rd_T58 l1_2 x5_2).f2).length c104_2)) (ds := []) #[false, false, false, false, false, false, false, false, false, false, false, false] (by kernel_rfl) rfl rfl ⟨(blk_cell BK101.out 0).trans rfl, (blk_cell BK101.out 1).trans rfl, (blk_cell BK101.out 2).trans rfl, (blk_cell BK102.out 0).trans rfl, (blk_cell BK102.out 1).trans rfl, (blk_cell BK102.out 2).trans rfl, ((HB.out.cell (World.block_lt_of_cell? w _ hw103_0)).trans hw103_0), ((HB.out.cell (World.block_lt_of_cell? w _ hw103_1)).trans hw103_1), ((HB.out.cell (World.block_lt_of_cell? w _ hw103_2)).trans hw103_2), ((HB.out.cell (World.block_lt_of_cell? w _ hw104_0)).trans hw104_0), ((HB.out.cell (World.block_lt_of_cell? w _ hw104_1)).trans hw104_1), ((HB.out.cell (World.block_lt_of_cell? w _ hw104_2)).trans hw104_2)⟩ (fun hHeld => ?_); refine with_tabW wickerref03_Same.tab6 wickerref03_Same.bits6 (fun HT_ HW_ => ?_)
          generalize wr.drew = w29 at BK101 BK102 HB HR103_2 HR104_2 hx103_0 hx103_1 hx103_2 hx104_0 hx104_1 hx104_2 hHeld ⊢
          refine pure_ (i := 0) (N := some 34) (v := ?_) (a' := ?_) #[true, false, false, false, false, false, false, false, false, false, false, false] rfl rfl (any_of HT_.out (by kernel_rfl)) (fun _ _ _ h => h) (Or.inl ⟨by rfl, ?_⟩) ?_ ?_
          rotate_left
          ·intro w'
           go_simp
           with_reducible rfl
          rotate_left
          ·simp only [Act.put, List.setIfInBounds_toArray, List.set_cons_zero, List.set_cons_succ, i64_w, i32_w]
           rfl
          refine pure_ (i := 2) (N := some 36) (v := ?_) (a' := ?_) #[true, false, true, false, false, false, false, false, false, false, false, false] rfl rfl (any_of HT_.out (by kernel_rfl)) (fun _ _ _ h => h) (Or.inl ⟨by rfl, ?_⟩) ?_ ?_
          rotate_left
          ·intro w'
           go_simp
           with_reducible rfl
          rotate_left
          ·simp only [Act.put, List.setIfInBounds_toArray, List.set_cons_zero, List.set_cons_succ, i64_w, i32_w]
           rfl
          refine pure_ (i := 5) (N := some 39) (v := ?_) (a' := ?_) #[true, false, true, false, false, true, false, false, false, false, false, false] rfl rfl (any_of HT_.out (by kernel_rfl)) (fun _ _ _ h => h) (Or.inl ⟨by rfl, ?_⟩) ?_ ?_
          rotate_left
          ·intro w'
           go_simp
           with_reducible rfl
          rotate_left
          ·simp only [Act.put, List.setIfInBounds_toArray, List.set_cons_zero, List.set_cons_succ, i64_w, i32_w]
           rfl
          refine pure_ (i := 7) (N := some 41) (v := ?_) (a' := ?_) #[true, false, true, false, false, true, false, true, false, false, false, false] rfl rfl (any_of HT_.out (by kernel_rfl)) (fun _ _ _ h => h) (Or.inl ⟨by rfl, ?_⟩) ?_ ?_
          rotate_left
          ·intro w'
           go_simp
           with_reducible rfl
          rotate_left
          ·simp only [Act.put, List.setIfInBounds_toArray, List.set_cons_zero, List.set_cons_succ, i64_w, i32_w]
           rfl
          refine take_ (i := 1) (N := some 35) (v := ?_) (a' := ?_) #[true, true, true, false, false, true, false, true, false, false, false, false] rfl rfl (take_ofW HT_.out HW_.out (by kernel_rfl)) (fun _ _ _ h => h) (Or.inl ⟨by rfl, ?_⟩) hHeld ?_ ?_
          rotate_left
          ·rintro w' ⟨s0, s1, s2, s3, s4, s5, s6, s7, s8, s9, s10, s11⟩
           go_simp
           with_reducible rfl
          rotate_left
          ·simp only [Act.put, List.setIfInBounds_toArray, List.set_cons_zero, List.set_cons_succ, i64_w, i32_w]
           rfl
          refine pure_ (i := 3) (N := some 37) (v := ?_) (a' := ?_) #[true, true, true, true, false, true, false, true, false, false, false, false] rfl rfl (any_of HT_.out (by kernel_rfl)) (fun _ _ _ h => h) (Or.inl ⟨by rfl, ?_⟩) ?_ ?_
          rotate_left
          ·intro w'
           go_simp
           with_reducible rfl
          rotate_left
          ·simp only [Act.put, List.setIfInBounds_toArray, List.set_cons_zero, List.set_cons_succ, i64_w, i32_w]
           rfl
          refine take_ (i := 4) (N := some 38) (v := ?_) (a' := ?_) #[true, true, true, true, true, true, false, true, false, false, false, false] rfl rfl (take_ofW HT_.out HW_.out (by kernel_rfl)) (fun _ _ _ h => h) (Or.inl ⟨by rfl, ?_⟩) hHeld ?_ ?_
          rotate_left
          ·rintro w' ⟨s0, s1, s2, s3, s4, s5, s6, s7, s8, s9, s10, s11⟩
           go_simp
           with_reducible rfl
          rotate_left
          ·simp only [Act.put, List.setIfInBounds_toArray, List.set_cons_zero, List.set_cons_succ, i64_w, i32_w]
           rfl
          refine take_ (i := 6) (N := some 40) (v := ?_) (a' := ?_) #[true, true, true, true, true, true, true, true, false, false, false, false] rfl rfl (take_ofW HT_.out HW_.out (by kernel_rfl)) (fun _ _ _ h => h) (Or.inl ⟨by rfl, ?_⟩) hHeld ?_ ?_
          rotate_left
          ·rintro w' ⟨s0, s1, s2, s3, s4, s5, s6, s7, s8, s9, s10, s11⟩
           go_simp
           with_reducible rfl
          rotate_left
          ·simp only [Act.put, List.setIfInBounds_toArray, List.set_cons_zero, List.set_cons_succ, i64_w, i32_w]
           rfl
          refine pure_ (i := 8) (N := some 42) (v := ?_) (a' := ?_) #[true, true, true, true, true, true, true, true, true, false, false, false] rfl rfl (any_of HT_.out (by kernel_rfl)) (fun _ _ _ h => h) (Or.inl ⟨by rfl, ?_⟩) ?_ ?_
          rotate_left
          ·intro w'
           go_simp
           with_reducible rfl
          rotate_left
          ·simp only [Act.put, List.setIfInBounds_toArray, List.set_cons_zero, List.set_cons_succ, i64_w, i32_w]
           rfl
          refine take_ (i := 9) (N := some 43) (v := ?_) (a' := ?_) #[true, true, true, true, true, true, true, true, true, true, false, false] rfl rfl (take_ofW HT_.out HW_.out (by kernel_rfl)) (fun _ _ _ h => h) (Or.inl ⟨by rfl, ?_⟩) hHeld ?_ ?_
          rotate_left
          ·rintro w' ⟨s0, s1, s2, s3, s4, s5, s6, s7, s8, s9, s10, s11⟩
           go_simp
           with_reducible rfl
          rotate_left
          ·simp only [Act.put, List.setIfInBounds_toArray, List.set_cons_zero, List.set_cons_succ, i64_w, i32_w]
           rfl
          refine one_ (i := 10) (N := some 44) #[true, true, true, true, true, true, true, true, true, true, true, false] rfl rfl (one_of HT_.out (by kernel_rfl)) (by decide) (fun K hK => ?_)
          refine goes_ Tryd.func59 (by kernel_rfl) rfl #[.agg #[.int .i64 ((rd_T58 l0_2 x5_2).f0), .int .i64 ((rd_T58 l0_2 x5_2).f1), .slice A103_2 ((rd_T58 l0_2 x5_2).f2).length c103_2], .agg #[.int .i64 ((rd_T58 l1_2 x5_2).f0), .int .i64 ((rd_T58 l1_2 x5_2).f1), .slice A104_2 ((rd_T58 l1_2 x5_2).f2).length c104_2]] (by rfl) rfl rfl (by (try simp only [List.map_toArray, List.map_cons, List.map_nil]); first | done | rfl | (simp only [List.length_drop, List.length_take]; rfl)) ?_
          with_reducible refine (ih k2 (by have := HJ2.out; have := HK2.out; omega) ((rd_T58 l0_2 x5_2).f0) ((rd_T58 l0_2 x5_2).f1) _ _ ((rd_T58 l0_2 x5_2).f2) ((rd_T58 l1_2 x5_2).f0) ((rd_T58 l1_2 x5_2).f1) _ _ ((rd_T58 l1_2 x5_2).f2) false _ ?side1 ?side2 ?side3 ?side4 A21.out).mono ?_
          (case side1 => repeat (first | exact (Kd.C_below HR103_2.out HB.out) | (with_reducible refine Kd.C_alloc ?_ _) | (with_reducible refine Kd.C_drewN ?_ _) | (with_reducible refine Kd.C_drew ?_)))
          (case side2 => exact HC103_2.out)
          (case side3 => repeat (first | exact (Kd.C_below HR104_2.out HB.out) | (with_reducible refine Kd.C_alloc ?_ _) | (with_reducible refine Kd.C_drewN ?_ _) | (with_reducible refine Kd.C_drew ?_)))
          (case side4 => exact HC104_2.out)
          rintro e w30 ⟨rfl, hb⟩
          refine ⟨_, rfl, ?_⟩
          have n0_ := Aside0.mk (blk_below (g := gb101) (o := .cells #[.int .i64 a0_0, .int .i64 a0_1, .slice (some ad103) l0_2.length c0_2] 58 (0, 0)) (by (with_reducible repeat (first | refine blk_drewN ?_ _ | refine blk_drew ?_ | refine blk_alloc ?_ _)); exact BK101.out) hb)
          have n1_ := Aside0.mk (blk_below (g := gb102) (o := .cells #[.int .i64 a1_0, .int .i64 a1_1, .slice (some ad104) l1_2.length c1_2] 58 (0, 0)) (by (with_reducible repeat (first | refine blk_drewN ?_ _ | refine blk_drew ?_ | refine blk_alloc ?_ _)); exact BK102.out) hb)
          have n2_ := Aside0.mk (below_step (by repeat (first | (with_reducible first | exact HB.out | apply below_alloc | apply pw_below_drewN | apply below_drew1 | refine below_set ?_ GE101.out | refine below_set ?_ GE102.out) | exact HB.out)) hb)
          clear BK101
          clear BK102
          clear HB
          have BK101 := n0_
          have BK102 := n1_
          have HB := n2_
          clear n0_ n1_ n2_
          (try clear hb)
          (try clear hb2)
          (try clear hk)
          (try clear hi)
          refine hK.out _ _ ⟨(blk_cell BK101.out 0).trans rfl, (blk_cell BK101.out 1).trans rfl, (blk_cell BK101.out 2).trans rfl, (blk_cell BK102.out 0).trans rfl, (blk_cell BK102.out 1).trans rfl, (blk_cell BK102.out 2).trans rfl, ((HB.out.cell (World.block_lt_of_cell? w _ hw103_0)).trans hw103_0), ((HB.out.cell (World.block_lt_of_cell? w _ hw103_1)).trans hw103_1), ((HB.out.cell (World.block_lt_of_cell? w _ hw103_2)).trans hw103_2), ((HB.out.cell (World.block_lt_of_cell? w _ hw104_0)).trans hw104_0), ((HB.out.cell (World.block_lt_of_cell? w _ hw104_1)).trans hw104_1), ((HB.out.cell (World.block_lt_of_cell? w _ hw104_2)).trans hw104_2)⟩ (fun hHeld => ?_)
          clear hK K
          refine norm_ (a' := ?_) ?_ ?_
          rotate_left
          ·show Act.put _ (some 44) _ = _
           simp only [Act.put, List.setIfInBounds_toArray, List.set_cons_zero, List.set_cons_succ, i64_w, i32_w]
           rfl
          refine pure_ (i := 11) (N := some 45) (v := ?_) (a' := ?_) #[true, true, true, true, true, true, true, true, true, true, true, true] rfl rfl (any_of HT_.out (by kernel_rfl)) (fun _ _ _ h => h) (Or.inl ⟨by rfl, ?_⟩) ?_ ?_
          rotate_left
          ·intro w'
           go_simp
           with_reducible rfl
          rotate_left
          ·simp only [Act.put, List.setIfInBounds_toArray, List.set_cons_zero, List.set_cons_succ, i64_w, i32_w]
           rfl
          refine done_ (done_of HT_.out (by kernel_rfl)) ?_
          try go_wp2
          go_ret
          exact ⟨by first | rfl | (simp [errW_none, errW_some] <;> rfl) | (simp [*, errW_none, errW_some] <;> rfl), by repeat (first | (with_reducible first | exact HB.out | apply below_alloc | apply pw_below_drewN | apply below_drew1 | refine below_set ?_ GE101.out | refine below_set ?_ GE102.out) | exact HB.out)⟩
        ·rw [if_neg c20] at H
         exact absurd H (by simp)
       ·rw [if_neg c19] at H
        exact absurd H (by simp)
      ·rw [if_neg c18] at H
       have c18b0 : decide (x5_2 < (l0_2.length : Int)) = false := decide_eq_false c18
       clear c18
       obtain rfl := Option.some.inj H
       have hnb31 := NB101_102.out
       have hnc31 := NB102_101.out
       have hcz32_0 : wr.cell? ⟨gb101, 0, none⟩ = some (.int .i64 a0_0) := (blk_cell BK101.out 0).trans rfl
       have hcz32_1 : wr.cell? ⟨gb101, 1, none⟩ = some (.int .i64 a0_1) := (blk_cell BK101.out 1).trans rfl
       have hcz32_2 : wr.cell? ⟨gb101, 2, none⟩ = some (.slice A0_2 l0_2.length c0_2) := (blk_cell BK101.out 2).trans rfl
       have hfz32_0 := blk_frozen BK101.out 0
       have hfz32_1 := blk_frozen BK101.out 1
       have hfz32_2 := blk_frozen BK101.out 2
       go_wp2
       go_ret
       exact ⟨by first | rfl | (simp [errW_none, errW_some] <;> rfl) | (simp [*, errW_none, errW_some] <;> rfl), by repeat (first | (with_reducible first | exact HB.out | apply below_alloc | apply pw_below_drewN | apply below_drew1 | refine below_set ?_ GE101.out | refine below_set ?_ GE102.out) | exact HB.out)⟩
end Go.Proofs.YtmdjmbdeeodehaaDoor.G
end
section
namespace Go.Proofs.YtmdjmbdeeodehaaDoor.G
open Go.RowKit Go.Proofs.YtmdjmbdeeodehaaDoorW.PrintWords Go.Proofs.YtmdjmbdeeodehaaDoorW.PrintLast Go.Proofs.YtmdjmbdeeodehaaDoorW.PrintMore
attribute [local go_sem] max2_int min2_int max_two min_two max_three min_three max_four min_four
attribute [local go_sem] Go.Proofs.YtmdjmbdeeodehaaDoorOwn.isSome_setCell
set_option linter.unusedVariables false
set_option linter.unusedSimpArgs false
def wickerref02_Text.f (k : Nat) (l0_0 : List ByteArray) (l0_1 : List ByteArray) (a0_2 : Int) (l0_3 : List (S87)) (a1 : Int) : Option (ByteArray) := (wickerref02_Has.f l0_0 l0_1 a0_2 l0_3 a1).bind fun t102 => (if t102 = true then (if a1 < 0 then (if 0 ≤ (wrap64 ((-1) - a1)) then (if (wrap64 ((-1) - a1)) < (l0_1.length : Int) then ((wickerref01_Quote.f k (rdOf ByteArray.empty l0_1 (wrap64 ((-1) - a1)))).bind fun t104 => (some t104)) else (none)) else (none)) else (if 0 ≤ a1 then (if a1 < (l0_0.length : Int) then (if 1 + (rdOf ByteArray.empty l0_0 a1).size ≤ 9223372036854775807 then (if ((⟨#[60]⟩ : ByteArray) ++ (rdOf ByteArray.empty l0_0 a1)).size + 1 ≤ 9223372036854775807 then (some (((⟨#[60]⟩ : ByteArray) ++ (rdOf ByteArray.empty l0_0 a1)) ++ (⟨#[62]⟩ : ByteArray))) else (none)) else (none)) else (none)) else (none))) else (some (⟨#[]⟩ : ByteArray)))
set_option maxHeartbeats 8000000 in
set_option maxRecDepth 100000 in
theorem wickerref02_Text.calls (k : Nat) (A0_0 : Option Addr) (c0_0 : Nat) (l0_0 : List ByteArray) (A0_1 : Option Addr) (c0_1 : Nat) (l0_1 : List ByteArray) (a0_2 : Int) (A0_3 : Option Addr) (c0_3 : Nat) (l0_3 : List (S87)) (a1 : Int) (r : ByteArray) (w : World) (hr0_0 : Kd.C Kd.string w A0_0 l0_0.length l0_0) (hc0_0 : l0_0.length ≤ c0_0) (hr0_1 : Kd.C Kd.string w A0_1 l0_1.length l0_1) (hc0_1 : l0_1.length ≤ c0_1) (hr0_3 : Kd.C k87 w A0_3 l0_3.length l0_3) (hc0_3 : l0_3.length ≤ c0_3) (h : wickerref02_Text.f k l0_0 l0_1 a0_2 l0_3 a1 = some r) :
  Calls Tryd.prog 151 #[.agg #[.slice A0_0 l0_0.length c0_0, .slice A0_1 l0_1.length c0_1, .int .i64 a0_2, .slice A0_3 l0_3.length c0_3], .int .i64 a1] w fun e w' => e = .returned (.string r) ∧ Below w.heap.size w w' := by
 have hu63 := Tryd.underlying63
 have HR0_0 := Aside0.mk hr0_0
 have HC0_0 := Aside0.mk hc0_0
 clear hr0_0 hc0_0
 have HR0_1 := Aside0.mk hr0_1
 have HC0_1 := Aside0.mk hc0_1
 clear hr0_1 hc0_1
 have HR0_3 := Aside0.mk hr0_3
 have HC0_3 := Aside0.mk hc0_3
 clear hr0_3 hc0_3
 have HB := Aside0.mk (Below.refl w.heap.size w)
 have H : ((wickerref02_Has.f l0_0 l0_1 a0_2 l0_3 a1).bind fun t102 => (if t102 = true then (if a1 < 0 then (if 0 ≤ (wrap64 ((-1) - a1)) then (if (wrap64 ((-1) - a1)) < (l0_1.length : Int) then ((wickerref01_Quote.f k (rdOf ByteArray.empty l0_1 (wrap64 ((-1) - a1)))).bind fun t104 => (some t104)) else (none)) else (none)) else (if 0 ≤ a1 then (if a1 < (l0_0.length : Int) then (if 1 + (rdOf ByteArray.empty l0_0 a1).size ≤ 9223372036854775807 then (if ((⟨#[60]⟩ : ByteArray) ++ (rdOf ByteArray.empty l0_0 a1)).size + 1 ≤ 9223372036854775807 then (some (((⟨#[60]⟩ : ByteArray) ++ (rdOf ByteArray.empty l0_0 a1)) ++ (⟨#[62]⟩ : ByteArray))) else (none)) else (none)) else (none)) else (none))) else (some (⟨#[]⟩ : ByteArray)))) = some r := h
 clear h
 replace H := Option.bind_eq_some_iff.mp H
 obtain ⟨t102, A30, H⟩ := H
 replace H : (if t102 = true then (if a1 < 0 then (if 0 ≤ (wrap64 ((-1) - a1)) then (if (wrap64 ((-1) - a1)) < (l0_1.length : Int) then ((wickerref01_Quote.f k (rdOf ByteArray.empty l0_1 (wrap64 ((-1) - a1)))).bind fun t104 => (some t104)) else (none)) else (none)) else (if 0 ≤ a1 then (if a1 < (l0_0.length : Int) then (if 1 + (rdOf ByteArray.empty l0_0 a1).size ≤ 9223372036854775807 then (if ((⟨#[60]⟩ : ByteArray) ++ (rdOf ByteArray.empty l0_0 a1)).size + 1 ≤ 9223372036854775807 then (some (((⟨#[60]⟩ : ByteArray) ++ (rdOf ByteArray.empty l0_0 a1)) ++ (⟨#[62]⟩ : ByteArray))) else (none)) else (none)) else (none)) else (none))) else (some (⟨#[]⟩ : ByteArray))) = some r := H
 have A3 := Aside0.mk A30
 clear A30
 by_cases c4 : t102 = true
 ·subst c4
  have H1 : (if a1 < 0 then (if 0 ≤ (wrap64 ((-1) - a1)) then (if (wrap64 ((-1) - a1)) < (l0_1.length : Int) then ((wickerref01_Quote.f k (rdOf ByteArray.empty l0_1 (wrap64 ((-1) - a1)))).bind fun t104 => (some t104)) else (none)) else (none)) else (if 0 ≤ a1 then (if a1 < (l0_0.length : Int) then (if 1 + (rdOf ByteArray.empty l0_0 a1).size ≤ 9223372036854775807 then (if ((⟨#[60]⟩ : ByteArray) ++ (rdOf ByteArray.empty l0_0 a1)).size + 1 ≤ 9223372036854775807 then (some (((⟨#[60]⟩ : ByteArray) ++ (rdOf ByteArray.empty l0_0 a1)) ++ (⟨#[62]⟩ : ByteArray))) else (none)) else (none)) else (none)) else (none))) = some r := by rw [if_pos rfl] at H; exact H
  clear H
  have H := H1
  clear H1
  by_cases c5 : a1 < 0
  ·rw [if_pos c5] at H
   have c5b0 : decide (a1 < 0) = true := decide_eq_true c5
   clear c5
   obtain ⟨ji6, hji6⟩ : ∃ j_ : Int, (wrap64 ((-1) - a1)) = j_ := ⟨_, rfl⟩
   replace H : (if 0 ≤ (ji6) then (if (ji6) < (l0_1.length : Int) then ((wickerref01_Quote.f k (rdOf ByteArray.empty l0_1 (ji6))).bind fun t104 => (some t104)) else (none)) else (none)) = some r := by first | (rw [hji6] at H; exact H) | (simp only [hji6] at H ⊢; exact H)
   (try rw [hji6] at A3)
   have hji6w : (IntKind.i64.wrap ((-1) - a1)) = ji6 := (i64_w _).trans hji6
   by_cases c7 : 0 ≤ (ji6)
   ·rw [if_pos c7] at H
    have c7b0 : decide (0 ≤ (ji6)) = true := decide_eq_true c7
    clear c7
    by_cases c8 : (ji6) < (l0_1.length : Int)
    ·rw [if_pos c8] at H
     have c8b0 : decide ((ji6) < (l0_1.length : Int)) = true := decide_eq_true c8
     clear c8
     replace H := Option.bind_eq_some_iff.mp H
     obtain ⟨t104, A90, H⟩ := H
     replace H : (some t104) = some r := H
     have A9 := Aside0.mk A90
     clear A90
     obtain rfl := Option.some.inj H
     go_enter Tryd.func151, Tryd.ntmps151
     go_wp2_with (first | ((with_reducible refine gate_dst (N := 2) rfl ?_); refine box_event ?hg (N := 2) ?hd (cs := #[.slice A0_0 l0_0.length c0_0, .slice A0_1 l0_1.length c0_1, .int .i64 a0_2, .slice A0_3 l0_3.length c0_3]) (t := 63) ?hr ?_; (case hd => rfl); (case hg => rfl); (case hr => first | (go_simp; done) | (go_simp; rfl)); intro gb101 hg w10 hbox hb; have n0_ := Aside0.mk (below_step (by repeat (first | (with_reducible first | exact HB.out | apply below_alloc | apply pw_below_drewN | apply below_drew1) | exact HB.out)) hb); have n1_ := Aside0.mk (hbox); have n2_ := Aside0.mk ((by rw [hg]; exact (below_size (by repeat (first | (with_reducible first | exact HB.out | apply below_alloc | apply pw_below_drewN | apply below_drew1) | exact HB.out))) : w.heap.size ≤ gb101)); have n3_ := Aside0.mk ((by rw [hg]; exact (below_size (by repeat (first | (with_reducible first | exact HB.out | apply below_alloc | apply pw_below_drewN | apply below_drew1) | exact HB.out))) : w.heap.size ≤ gb101)); clear HB; have HB := n0_; have BK101 := n1_; have GW101 := n2_; have GE101 := n3_; clear n0_ n1_ n2_ n3_; clear hb hbox hg; have hcz11_0 : w10.cell? ⟨gb101, 0, none⟩ = some (.slice A0_0 l0_0.length c0_0) := (blk_cell BK101.out 0).trans rfl; have hcz11_1 : w10.cell? ⟨gb101, 1, none⟩ = some (.slice A0_1 l0_1.length c0_1) := (blk_cell BK101.out 1).trans rfl; have hcz11_2 : w10.cell? ⟨gb101, 2, none⟩ = some (.int .i64 a0_2) := (blk_cell BK101.out 2).trans rfl; have hcz11_3 : w10.cell? ⟨gb101, 3, none⟩ = some (.slice A0_3 l0_3.length c0_3) := (blk_cell BK101.out 3).trans rfl; have hfz11_0 := blk_frozen BK101.out 0; have hfz11_1 := blk_frozen BK101.out 1; have hfz11_2 := blk_frozen BK101.out 2; have hfz11_3 := blk_frozen BK101.out 3) | ((with_reducible refine gate_callee (f := 104) rfl ?_); refine goesL_ (some 7) rfl rfl Tryd.func104 (by kernel_rfl) rfl #[.agg #[.slice A0_0 l0_0.length c0_0, .slice A0_1 l0_1.length c0_1, .int .i64 a0_2, .slice A0_3 l0_3.length c0_3], .int .i64 a1] rfl (by (try simp only [List.map_toArray, List.map_cons, List.map_nil]); first | done | rfl | (simp only [List.length_drop, List.length_take]; rfl)) ?_; (with_reducible refine (wickerref02_Has.calls _ _ l0_0 _ _ l0_1 a0_2 _ _ l0_3 a1 true _ ?side1 ?side2 ?side3 ?side4 ?side5 ?side6 A3.out).mono ?_); (case side1 => repeat (first | exact (Kd.C_below HR0_0.out HB.out) | (with_reducible refine Kd.C_alloc ?_ _) | (with_reducible refine Kd.C_drewN ?_ _) | (with_reducible refine Kd.C_drew ?_))); (case side2 => exact HC0_0.out); (case side3 => repeat (first | exact (Kd.C_below HR0_1.out HB.out) | (with_reducible refine Kd.C_alloc ?_ _) | (with_reducible refine Kd.C_drewN ?_ _) | (with_reducible refine Kd.C_drew ?_))); (case side4 => exact HC0_1.out); (case side5 => repeat (first | exact (Kd.C_below HR0_3.out HB.out) | (with_reducible refine Kd.C_alloc ?_ _) | (with_reducible refine Kd.C_drewN ?_ _) | (with_reducible refine Kd.C_drew ?_))); (case side6 => exact HC0_3.out); rintro e w12 ⟨rfl, hb⟩; refine ⟨_, rfl, ?_⟩; have n0_ := Aside0.mk (blk_below (g := gb101) (o := .cells #[.slice A0_0 l0_0.length c0_0, .slice A0_1 l0_1.length c0_1, .int .i64 a0_2, .slice A0_3 l0_3.length c0_3] 63 (0, 0)) (by (with_reducible repeat (first | refine blk_drewN ?_ _ | refine blk_drew ?_ | refine blk_alloc ?_ _)); exact BK101.out) hb); have n1_ := Aside0.mk (below_step (by repeat (first | (with_reducible first | exact HB.out | apply below_alloc | apply pw_below_drewN | apply below_drew1 | refine below_set ?_ GE101.out) | exact HB.out)) hb); clear BK101; clear HB; have BK101 := n0_; have HB := n1_; clear n0_ n1_; (try clear hb); (try clear hb2); (try clear hk); (try clear hi); have hcz13_0 : w12.cell? ⟨gb101, 0, none⟩ = some (.slice A0_0 l0_0.length c0_0) := (blk_cell BK101.out 0).trans rfl; have hcz13_1 : w12.cell? ⟨gb101, 1, none⟩ = some (.slice A0_1 l0_1.length c0_1) := (blk_cell BK101.out 1).trans rfl; have hcz13_2 : w12.cell? ⟨gb101, 2, none⟩ = some (.int .i64 a0_2) := (blk_cell BK101.out 2).trans rfl; have hcz13_3 : w12.cell? ⟨gb101, 3, none⟩ = some (.slice A0_3 l0_3.length c0_3) := (blk_cell BK101.out 3).trans rfl; have hfz13_0 := blk_frozen BK101.out 0; have hfz13_1 := blk_frozen BK101.out 1; have hfz13_2 := blk_frozen BK101.out 2; have hfz13_3 := blk_frozen BK101.out 3; have p103 : 0 ≤ ((ji6) : Int) := of_decide_eq_true (by first | (with_reducible assumption) | assumption); have q103 : (ji6) < (l0_1.length : Int) := of_decide_eq_true (by first | (with_reducible assumption) | assumption); obtain ⟨ad103, e103, hx103_0⟩ := Kd.at_string HR0_1.out (ji6) p103 q103; cases e103; replace hx103_0 := (HB.out.cell (World.block_lt_of_cell? w _ hx103_0)).trans hx103_0; replace p103 := eq_true p103; replace q103 := eq_true q103) | ((with_reducible refine gate_callee (f := 167) rfl ?_); refine goesL_ (some 17) rfl rfl Tryd.func167 (by kernel_rfl) rfl #[.string (rdOf ByteArray.empty l0_1 (ji6))] rfl (by (try simp only [List.map_toArray, List.map_cons, List.map_nil]); first | done | (simp only [hji6]; rfl) | rfl | (simp only [List.length_drop, List.length_take]; rfl)) ?_; (with_reducible refine (wickerref01_Quote.calls k (rdOf ByteArray.empty l0_1 (ji6)) t104 _ A9.out).mono ?_); rintro e w14 ⟨rfl, hb⟩; refine ⟨_, rfl, ?_⟩; have n0_ := Aside0.mk (blk_below (g := gb101) (o := .cells #[.slice A0_0 l0_0.length c0_0, .slice (some ad103) l0_1.length c0_1, .int .i64 a0_2, .slice A0_3 l0_3.length c0_3] 63 (0, 0)) (by (with_reducible repeat (first | refine blk_drewN ?_ _ | refine blk_drew ?_ | refine blk_alloc ?_ _)); exact BK101.out) hb); have n1_ := Aside0.mk (below_step (by repeat (first | (with_reducible first | exact HB.out | apply below_alloc | apply pw_below_drewN | apply below_drew1 | refine below_set ?_ GE101.out) | exact HB.out)) hb); clear BK101; clear HB; have BK101 := n0_; have HB := n1_; clear n0_ n1_; (try clear hb); (try clear hb2); (try clear hk); (try clear hi)))
     go_ret
     exact ⟨by first | rfl | (simp [errW_none, errW_some] <;> rfl) | (simp only [← hji6]; first | rfl | (simp [errW_none, errW_some] <;> rfl)) | (simp [*, errW_none, errW_some] <;> rfl), by repeat (first | (with_reducible first | exact HB.out | apply below_alloc | apply pw_below_drewN | apply below_drew1 | refine below_set ?_ GE101.out) | exact HB.out)⟩
    ·rw [if_neg c8] at H
     exact absurd H (by simp)
   ·rw [if_neg c7] at H
    exact absurd H (by simp)
  ·rw [if_neg c5] at H
   have c5b0 : decide (a1 < 0) = false := decide_eq_false c5
   clear c5
   by_cases c15 : 0 ≤ a1
   ·rw [if_pos c15] at H
    have c15b0 : decide (0 ≤ a1) = true := decide_eq_true c15
    clear c15
    by_cases c16 : a1 < (l0_0.length : Int)
    ·rw [if_pos c16] at H
     have c16b0 : decide (a1 < (l0_0.length : Int)) = true := decide_eq_true c16
     clear c16
     by_cases c17 : 1 + (rdOf ByteArray.empty l0_0 a1).size ≤ 9223372036854775807
     ·rw [if_pos c17] at H
      have c17b0 := eq_true c17
      have c17b1 : decide (1 + (rdOf ByteArray.empty l0_0 a1).size ≤ 9223372036854775807) = true := decide_eq_true c17
      try have c17b2 : (9223372036854775807 < 1 + (rdOf ByteArray.empty l0_0 a1).size) = False := eq_false (Nat.not_lt.2 c17)
      by_cases c18 : ((⟨#[60]⟩ : ByteArray) ++ (rdOf ByteArray.empty l0_0 a1)).size + 1 ≤ 9223372036854775807
      ·rw [if_pos c18] at H
       have c18b0 := eq_true c18
       have c18b1 : decide (((⟨#[60]⟩ : ByteArray) ++ (rdOf ByteArray.empty l0_0 a1)).size + 1 ≤ 9223372036854775807) = true := decide_eq_true c18
       try have c18b2 : (9223372036854775807 < ((⟨#[60]⟩ : ByteArray) ++ (rdOf ByteArray.empty l0_0 a1)).size + 1) = False := eq_false (Nat.not_lt.2 c18)
       try (have c18b3 := c18b2; simp only [ByteArray.size_append, ByteArray.size_extract, Nat.sub_zero, show (⟨#[60]⟩ : ByteArray).size = 1 from rfl] at c18b3)
       obtain rfl := Option.some.inj H
       go_enter Tryd.func151, Tryd.ntmps151
       go_wp2_with (first | ((with_reducible refine gate_dst (N := 2) rfl ?_); refine box_event ?hg (N := 2) ?hd (cs := #[.slice A0_0 l0_0.length c0_0, .slice A0_1 l0_1.length c0_1, .int .i64 a0_2, .slice A0_3 l0_3.length c0_3]) (t := 63) ?hr ?_; (case hd => rfl); (case hg => rfl); (case hr => first | (go_simp; done) | (go_simp; rfl)); intro gb101 hg w19 hbox hb; have n0_ := Aside0.mk (below_step (by repeat (first | (with_reducible first | exact HB.out | apply below_alloc | apply pw_below_drewN | apply below_drew1) | exact HB.out)) hb); have n1_ := Aside0.mk (hbox); have n2_ := Aside0.mk ((by rw [hg]; exact (below_size (by repeat (first | (with_reducible first | exact HB.out | apply below_alloc | apply pw_below_drewN | apply below_drew1) | exact HB.out))) : w.heap.size ≤ gb101)); have n3_ := Aside0.mk ((by rw [hg]; exact (below_size (by repeat (first | (with_reducible first | exact HB.out | apply below_alloc | apply pw_below_drewN | apply below_drew1) | exact HB.out))) : w.heap.size ≤ gb101)); clear HB; have HB := n0_; have BK101 := n1_; have GW101 := n2_; have GE101 := n3_; clear n0_ n1_ n2_ n3_; clear hb hbox hg; have hcz20_0 : w19.cell? ⟨gb101, 0, none⟩ = some (.slice A0_0 l0_0.length c0_0) := (blk_cell BK101.out 0).trans rfl; have hcz20_1 : w19.cell? ⟨gb101, 1, none⟩ = some (.slice A0_1 l0_1.length c0_1) := (blk_cell BK101.out 1).trans rfl; have hcz20_2 : w19.cell? ⟨gb101, 2, none⟩ = some (.int .i64 a0_2) := (blk_cell BK101.out 2).trans rfl; have hcz20_3 : w19.cell? ⟨gb101, 3, none⟩ = some (.slice A0_3 l0_3.length c0_3) := (blk_cell BK101.out 3).trans rfl; have hfz20_0 := blk_frozen BK101.out 0; have hfz20_1 := blk_frozen BK101.out 1; have hfz20_2 := blk_frozen BK101.out 2; have hfz20_3 := blk_frozen BK101.out 3) | ((with_reducible refine gate_callee (f := 104) rfl ?_); refine goesL_ (some 7) rfl rfl Tryd.func104 (by kernel_rfl) rfl #[.agg #[.slice A0_0 l0_0.length c0_0, .slice A0_1 l0_1.length c0_1, .int .i64 a0_2, .slice A0_3 l0_3.length c0_3], .int .i64 a1] rfl (by (try simp only [List.map_toArray, List.map_cons, List.map_nil]); first | done | rfl | (simp only [List.length_drop, List.length_take]; rfl)) ?_; (with_reducible refine (wickerref02_Has.calls _ _ l0_0 _ _ l0_1 a0_2 _ _ l0_3 a1 true _ ?side1 ?side2 ?side3 ?side4 ?side5 ?side6 A3.out).mono ?_); (case side1 => repeat (first | exact (Kd.C_below HR0_0.out HB.out) | (with_reducible refine Kd.C_alloc ?_ _) | (with_reducible refine Kd.C_drewN ?_ _) | (with_reducible refine Kd.C_drew ?_))); (case side2 => exact HC0_0.out); (case side3 => repeat (first | exact (Kd.C_below HR0_1.out HB.out) | (with_reducible refine Kd.C_alloc ?_ _) | (with_reducible refine Kd.C_drewN ?_ _) | (with_reducible refine Kd.C_drew ?_))); (case side4 => exact HC0_1.out); (case side5 => repeat (first | exact (Kd.C_below HR0_3.out HB.out) | (with_reducible refine Kd.C_alloc ?_ _) | (with_reducible refine Kd.C_drewN ?_ _) | (with_reducible refine Kd.C_drew ?_))); (case side6 => exact HC0_3.out); rintro e w21 ⟨rfl, hb⟩; refine ⟨_, rfl, ?_⟩; have n0_ := Aside0.mk (blk_below (g := gb101) (o := .cells #[.slice A0_0 l0_0.length c0_0, .slice A0_1 l0_1.length c0_1, .int .i64 a0_2, .slice A0_3 l0_3.length c0_3] 63 (0, 0)) (by (with_reducible repeat (first | refine blk_drewN ?_ _ | refine blk_drew ?_ | refine blk_alloc ?_ _)); exact BK101.out) hb); have n1_ := Aside0.mk (below_step (by repeat (first | (with_reducible first | exact HB.out | apply below_alloc | apply pw_below_drewN | apply below_drew1 | refine below_set ?_ GE101.out) | exact HB.out)) hb); clear BK101; clear HB; have BK101 := n0_; have HB := n1_; clear n0_ n1_; (try clear hb); (try clear hb2); (try clear hk); (try clear hi); have hcz22_0 : w21.cell? ⟨gb101, 0, none⟩ = some (.slice A0_0 l0_0.length c0_0) := (blk_cell BK101.out 0).trans rfl; have hcz22_1 : w21.cell? ⟨gb101, 1, none⟩ = some (.slice A0_1 l0_1.length c0_1) := (blk_cell BK101.out 1).trans rfl; have hcz22_2 : w21.cell? ⟨gb101, 2, none⟩ = some (.int .i64 a0_2) := (blk_cell BK101.out 2).trans rfl; have hcz22_3 : w21.cell? ⟨gb101, 3, none⟩ = some (.slice A0_3 l0_3.length c0_3) := (blk_cell BK101.out 3).trans rfl; have hfz22_0 := blk_frozen BK101.out 0; have hfz22_1 := blk_frozen BK101.out 1; have hfz22_2 := blk_frozen BK101.out 2; have hfz22_3 := blk_frozen BK101.out 3; have p105 : 0 ≤ (a1 : Int) := of_decide_eq_true (by first | (with_reducible assumption) | assumption); have q105 : a1 < (l0_0.length : Int) := of_decide_eq_true (by first | (with_reducible assumption) | assumption); obtain ⟨ad105, e105, hx105_0⟩ := Kd.at_string HR0_0.out a1 p105 q105; cases e105; replace hx105_0 := (HB.out.cell (World.block_lt_of_cell? w _ hx105_0)).trans hx105_0; replace p105 := eq_true p105; replace q105 := eq_true q105))
       go_ret
       exact ⟨by first | rfl | (simp [errW_none, errW_some] <;> rfl) | (simp [*, errW_none, errW_some] <;> rfl), by repeat (first | (with_reducible first | exact HB.out | apply below_alloc | apply pw_below_drewN | apply below_drew1 | refine below_set ?_ GE101.out) | exact HB.out)⟩
      ·rw [if_neg c18] at H
       exact absurd H (by simp)
     ·rw [if_neg c17] at H
      exact absurd H (by simp)
    ·rw [if_neg c16] at H
     exact absurd H (by simp)
   ·rw [if_neg c15] at H
    exact absurd H (by simp)
 ·replace c4 := Bool.eq_false_iff.mpr c4
  subst c4
  have H1 : (some (⟨#[]⟩ : ByteArray)) = some r := by rw [if_neg (show ¬ (false = true) by decide)] at H; exact H
  clear H
  have H := H1
  clear H1
  obtain rfl := Option.some.inj H
  go_enter Tryd.func151, Tryd.ntmps151
  go_wp2_with (first | ((with_reducible refine gate_dst (N := 2) rfl ?_); refine box_event ?hg (N := 2) ?hd (cs := #[.slice A0_0 l0_0.length c0_0, .slice A0_1 l0_1.length c0_1, .int .i64 a0_2, .slice A0_3 l0_3.length c0_3]) (t := 63) ?hr ?_; (case hd => rfl); (case hg => rfl); (case hr => first | (go_simp; done) | (go_simp; rfl)); intro gb101 hg w23 hbox hb; have n0_ := Aside0.mk (below_step (by repeat (first | (with_reducible first | exact HB.out | apply below_alloc | apply pw_below_drewN | apply below_drew1) | exact HB.out)) hb); have n1_ := Aside0.mk (hbox); have n2_ := Aside0.mk ((by rw [hg]; exact (below_size (by repeat (first | (with_reducible first | exact HB.out | apply below_alloc | apply pw_below_drewN | apply below_drew1) | exact HB.out))) : w.heap.size ≤ gb101)); have n3_ := Aside0.mk ((by rw [hg]; exact (below_size (by repeat (first | (with_reducible first | exact HB.out | apply below_alloc | apply pw_below_drewN | apply below_drew1) | exact HB.out))) : w.heap.size ≤ gb101)); clear HB; have HB := n0_; have BK101 := n1_; have GW101 := n2_; have GE101 := n3_; clear n0_ n1_ n2_ n3_; clear hb hbox hg; have hcz24_0 : w23.cell? ⟨gb101, 0, none⟩ = some (.slice A0_0 l0_0.length c0_0) := (blk_cell BK101.out 0).trans rfl; have hcz24_1 : w23.cell? ⟨gb101, 1, none⟩ = some (.slice A0_1 l0_1.length c0_1) := (blk_cell BK101.out 1).trans rfl; have hcz24_2 : w23.cell? ⟨gb101, 2, none⟩ = some (.int .i64 a0_2) := (blk_cell BK101.out 2).trans rfl; have hcz24_3 : w23.cell? ⟨gb101, 3, none⟩ = some (.slice A0_3 l0_3.length c0_3) := (blk_cell BK101.out 3).trans rfl; have hfz24_0 := blk_frozen BK101.out 0; have hfz24_1 := blk_frozen BK101.out 1; have hfz24_2 := blk_frozen BK101.out 2; have hfz24_3 := blk_frozen BK101.out 3) | ((with_reducible refine gate_callee (f := 104) rfl ?_); refine goesL_ (some 7) rfl rfl Tryd.func104 (by kernel_rfl) rfl #[.agg #[.slice A0_0 l0_0.length c0_0, .slice A0_1 l0_1.length c0_1, .int .i64 a0_2, .slice A0_3 l0_3.length c0_3], .int .i64 a1] rfl (by (try simp only [List.map_toArray, List.map_cons, List.map_nil]); first | done | rfl | (simp only [List.length_drop, List.length_take]; rfl)) ?_; (with_reducible refine (wickerref02_Has.calls _ _ l0_0 _ _ l0_1 a0_2 _ _ l0_3 a1 false _ ?side1 ?side2 ?side3 ?side4 ?side5 ?side6 A3.out).mono ?_); (case side1 => repeat (first | exact (Kd.C_below HR0_0.out HB.out) | (with_reducible refine Kd.C_alloc ?_ _) | (with_reducible refine Kd.C_drewN ?_ _) | (with_reducible refine Kd.C_drew ?_))); (case side2 => exact HC0_0.out); (case side3 => repeat (first | exact (Kd.C_below HR0_1.out HB.out) | (with_reducible refine Kd.C_alloc ?_ _) | (with_reducible refine Kd.C_drewN ?_ _) | (with_reducible refine Kd.C_drew ?_))); (case side4 => exact HC0_1.out); (case side5 => repeat (first | exact (Kd.C_below HR0_3.out HB.out) | (with_reducible refine Kd.C_alloc ?_ _) | (with_reducible refine Kd.C_drewN ?_ _) | (with_reducible refine Kd.C_drew ?_))); (case side6 => exact HC0_3.out); rintro e w25 ⟨rfl, hb⟩; refine ⟨_, rfl, ?_⟩; have n0_ := Aside0.mk (blk_below (g := gb101) (o := .cells #[.slice A0_0 l0_0.length c0_0, .slice A0_1 l0_1.length c0_1, .int .i64 a0_2, .slice A0_3 l0_3.length c0_3] 63 (0, 0)) (by (with_reducible repeat (first | refine blk_drewN ?_ _ | refine blk_drew ?_ | refine blk_alloc ?_ _)); exact BK101.out) hb); have n1_ := Aside0.mk (below_step (by repeat (first | (with_reducible first | exact HB.out | apply below_alloc | apply pw_below_drewN | apply below_drew1 | refine below_set ?_ GE101.out) | exact HB.out)) hb); clear BK101; clear HB; have BK101 := n0_; have HB := n1_; clear n0_ n1_; (try clear hb); (try clear hb2); (try clear hk); (try clear hi)))
  go_ret
  exact ⟨by first | rfl | (simp [errW_none, errW_some] <;> rfl) | (simp [*, errW_none, errW_some] <;> rfl), by repeat (first | (with_reducible first | exact HB.out | apply below_alloc | apply pw_below_drewN | apply below_drew1 | refine below_set ?_ GE101.out) | exact HB.out)⟩
end Go.Proofs.YtmdjmbdeeodehaaDoor.G
end
section
namespace Go.Proofs.YtmdjmbdeeodehaaDoor.G
open Go.RowKit Go.Proofs.YtmdjmbdeeodehaaDoorW.PrintWords Go.Proofs.YtmdjmbdeeodehaaDoorW.PrintLast Go.Proofs.YtmdjmbdeeodehaaDoorW.PrintMore
attribute [local go_sem] max2_int min2_int max_two min_two max_three min_three max_four min_four
attribute [local go_sem] Go.Proofs.YtmdjmbdeeodehaaDoorOwn.isSome_setCell
set_option linter.unusedVariables false
set_option linter.unusedSimpArgs false
mutual
def wickerref03_text.l0 : Nat → ByteArray → Int → List ByteArray → List ByteArray → Int → List (S87) → Int → Int → List (S58) → Option (ByteArray)
 | 0, _, _, _, _, _, _, _, _, _ => none
 | k + 1, x5, x6, x102000, x102001, x102002, x102003, x103000, x103001, x103002 => if x6 < (x103002.length : Int) then (if x5.size + 1 ≤ 9223372036854775807 then (if 0 ≤ x6 then ((wickerref03_text.f k x102000 x102001 x102002 x102003 ((rd_T58 x103002 x6).f0) ((rd_T58 x103002 x6).f1) ((rd_T58 x103002 x6).f2)).bind fun t107 => (if (x5 ++ (⟨#[32]⟩ : ByteArray)).size + t107.size ≤ 9223372036854775807 then (wickerref03_text.l0 k ((x5 ++ (⟨#[32]⟩ : ByteArray)) ++ t107) (wrap64 (x6 + 1)) x102000 x102001 x102002 x102003 x103000 x103001 x103002) else (none))) else (none)) else (none)) else (if x5.size + 1 ≤ 9223372036854775807 then (some (x5 ++ (⟨#[41]⟩ : ByteArray))) else (none))
def wickerref03_text.f : Nat → List ByteArray → List ByteArray → Int → List (S87) → Int → Int → List (S58) → Option (ByteArray)
 | 0, _, _, _, _, _, _, _ => none
 | k + 1, l0_0, l0_1, a0_2, l0_3, a1_0, a1_1, l1_2 => if a1_0 < 0 then ((wickerref02_Text.f k l0_0 l0_1 a0_2 l0_3 a1_1).bind fun t103 => (some t103)) else (if 0 ≤ a1_0 then (if a1_0 < (l0_3.length : Int) then (if 0 ≤ ((rd_T87 l0_3 a1_0).f0) then (if ((rd_T87 l0_3 a1_0).f0) < (l0_0.length : Int) then (if 1 + (rdOf ByteArray.empty l0_0 ((rd_T87 l0_3 a1_0).f0)).size ≤ 9223372036854775807 then (wickerref03_text.l0 k ((⟨#[40]⟩ : ByteArray) ++ (rdOf ByteArray.empty l0_0 ((rd_T87 l0_3 a1_0).f0))) 0 l0_0 l0_1 a0_2 l0_3 a1_0 a1_1 l1_2) else (none)) else (none)) else (none)) else (none)) else (none))
end
def wickerref03_text.T3 : Bool × List (List Nat × List Nat) := (true, [([], []), ([0], [0]), ([], []), ([2], [2]), ([], []), ([4], [4]), ([3, 5], [3, 5]), ([6], [6]), ([7], [7]), ([1, 8], [1, 8]), ([9], [9]), ([10], [10]), ([11, 0, 1, 2, 3, 4, 5, 6, 7, 8, 9, 10, 11], [11])])
def wickerref03_text.B3 : List Nat := [0, 1, 0, 4, 0, 16, 60, 124, 252, 511, 1023, 2047, 4095]
theorem wickerref03_text.tab3 : rtab .any (opsOf Tryd.f119 3) = wickerref03_text.T3 := by kernel_rfl
theorem wickerref03_text.bits3 : waitsOk wickerref03_text.T3.2 wickerref03_text.B3 = true := by kernel_rfl
def wickerref03_text.T7 : Bool × List (List Nat × List Nat) := (true, [([], []), ([0], [0]), ([], []), ([], []), ([3], [3]), ([], []), ([4, 5], [4, 5]), ([6], [6]), ([2, 7], [2, 7]), ([1, 8], [1, 8]), ([9, 8, 0, 1, 2, 3, 4, 5, 6, 7, 8, 9], [0, 9])])
def wickerref03_text.B7 : List Nat := [0, 1, 0, 0, 8, 0, 56, 120, 252, 511, 1023]
theorem wickerref03_text.tab7 : rtab .any (opsOf Tryd.f119 7) = wickerref03_text.T7 := by kernel_rfl
theorem wickerref03_text.bits7 : waitsOk wickerref03_text.T7.2 wickerref03_text.B7 = true := by kernel_rfl
set_option maxHeartbeats 8000000 in
set_option maxRecDepth 100000 in
theorem wickerref03_text.calls (k : Nat) : ∀ (A0_0 : Option Addr) (c0_0 : Nat) (l0_0 : List ByteArray) (A0_1 : Option Addr) (c0_1 : Nat) (l0_1 : List ByteArray) (a0_2 : Int) (A0_3 : Option Addr) (c0_3 : Nat) (l0_3 : List (S87)) (a1_0 : Int) (a1_1 : Int) (A1_2 : Option Addr) (c1_2 : Nat) (l1_2 : List (S58)) (r : ByteArray) (w : World) (hr0_0 : Kd.C Kd.string w A0_0 l0_0.length l0_0) (hc0_0 : l0_0.length ≤ c0_0) (hr0_1 : Kd.C Kd.string w A0_1 l0_1.length l0_1) (hc0_1 : l0_1.length ≤ c0_1) (hr0_3 : Kd.C k87 w A0_3 l0_3.length l0_3) (hc0_3 : l0_3.length ≤ c0_3) (hr1_2 : Kd.C k58 w A1_2 l1_2.length l1_2) (hc1_2 : l1_2.length ≤ c1_2) (h : wickerref03_text.f k l0_0 l0_1 a0_2 l0_3 a1_0 a1_1 l1_2 = some r),
  Calls Tryd.prog 119 #[.agg #[.slice A0_0 l0_0.length c0_0, .slice A0_1 l0_1.length c0_1, .int .i64 a0_2, .slice A0_3 l0_3.length c0_3], .agg #[.int .i64 a1_0, .int .i64 a1_1, .slice A1_2 l1_2.length c1_2]] w fun e w' => e = .returned (.string r) ∧ Below w.heap.size w w' := by
 induction k using Nat.strongRecOn with
 | _ k ih =>
 intro A0_0 c0_0 l0_0 A0_1 c0_1 l0_1 a0_2 A0_3 c0_3 l0_3 a1_0 a1_1 A1_2 c1_2 l1_2 r w hr0_0 hc0_0 hr0_1 hc0_1 hr0_3 hc0_3 hr1_2 hc1_2 h
 cases k with
 | zero => exact absurd h (by simp [wickerref03_text.f])
 | succ k =>
 simp only [wickerref03_text.f] at h
 have hu63 := Tryd.underlying63
 have hu58 := Tryd.underlying58
 have HR0_0 := Aside0.mk hr0_0
 have HC0_0 := Aside0.mk hc0_0
 clear hr0_0 hc0_0
 have HR0_1 := Aside0.mk hr0_1
 have HC0_1 := Aside0.mk hc0_1
 clear hr0_1 hc0_1
 have HR0_3 := Aside0.mk hr0_3
 have HC0_3 := Aside0.mk hc0_3
 clear hr0_3 hc0_3
 have HR1_2 := Aside0.mk hr1_2
 have HC1_2 := Aside0.mk hc1_2
 clear hr1_2 hc1_2
 have HB := Aside0.mk (Below.refl w.heap.size w)
 have H : (if a1_0 < 0 then ((wickerref02_Text.f k l0_0 l0_1 a0_2 l0_3 a1_1).bind fun t103 => (some t103)) else (if 0 ≤ a1_0 then (if a1_0 < (l0_3.length : Int) then (if 0 ≤ ((rd_T87 l0_3 a1_0).f0) then (if ((rd_T87 l0_3 a1_0).f0) < (l0_0.length : Int) then (if 1 + (rdOf ByteArray.empty l0_0 ((rd_T87 l0_3 a1_0).f0)).size ≤ 9223372036854775807 then (wickerref03_text.l0 k ((⟨#[40]⟩ : ByteArray) ++ (rdOf ByteArray.empty l0_0 ((rd_T87 l0_3 a1_0).f0))) 0 l0_0 l0_1 a0_2 l0_3 a1_0 a1_1 l1_2) else (none)) else (none)) else (none)) else (none)) else (none))) = some r := h
 clear h
 by_cases c3 : a1_0 < 0
 ·rw [if_pos c3] at H
  have c3b0 : decide (a1_0 < 0) = true := decide_eq_true c3
  clear c3
  replace H := Option.bind_eq_some_iff.mp H
  obtain ⟨t103, A40, H⟩ := H
  replace H : (some t103) = some r := H
  have A4 := Aside0.mk A40
  clear A40
  obtain rfl := Option.some.inj H
  go_enter Tryd.func119, Tryd.ntmps119
  go_wp2_with (first | ((with_reducible refine gate_dst (N := 2) rfl ?_); refine box_event ?hg (N := 2) ?hd (cs := #[.slice A0_0 l0_0.length c0_0, .slice A0_1 l0_1.length c0_1, .int .i64 a0_2, .slice A0_3 l0_3.length c0_3]) (t := 63) ?hr ?_; (case hd => rfl); (case hg => rfl); (case hr => first | (go_simp; done) | (go_simp; rfl)); intro gb101 hg w5 hbox hb; have n0_ := Aside0.mk (below_step (by repeat (first | (with_reducible first | exact HB.out | apply below_alloc | apply pw_below_drewN | apply below_drew1) | exact HB.out)) hb); have n1_ := Aside0.mk (hbox); have n2_ := Aside0.mk ((by rw [hg]; exact (below_size (by repeat (first | (with_reducible first | exact HB.out | apply below_alloc | apply pw_below_drewN | apply below_drew1) | exact HB.out))) : w.heap.size ≤ gb101)); have n3_ := Aside0.mk ((by rw [hg]; exact (below_size (by repeat (first | (with_reducible first | exact HB.out | apply below_alloc | apply pw_below_drewN | apply below_drew1) | exact HB.out))) : w.heap.size ≤ gb101)); clear HB; have HB := n0_; have BK101 := n1_; have GW101 := n2_; have GE101 := n3_; clear n0_ n1_ n2_ n3_; clear hb hbox hg) | ((with_reducible refine gate_dst (N := 3) rfl ?_); refine box_event ?hg (N := 3) ?hd (cs := #[.int .i64 a1_0, .int .i64 a1_1, .slice A1_2 l1_2.length c1_2]) (t := 58) ?hr ?_; (case hd => rfl); (case hg => rfl); (case hr => first | (go_simp; done) | (go_simp; rfl)); intro gb102 hg w6 hbox hb; have n0_ := Aside0.mk (blk_below (g := gb101) (o := .cells #[.slice A0_0 l0_0.length c0_0, .slice A0_1 l0_1.length c0_1, .int .i64 a0_2, .slice A0_3 l0_3.length c0_3] 63 (0, 0)) (by (with_reducible repeat (first | refine blk_drewN ?_ _ | refine blk_drew ?_ | refine blk_alloc ?_ _)); exact BK101.out) hb); have n1_ := Aside0.mk (below_step (by repeat (first | (with_reducible first | exact HB.out | apply below_alloc | apply pw_below_drewN | apply below_drew1 | refine below_set ?_ GE101.out) | exact HB.out)) hb); have n2_ := Aside0.mk (hbox); have n3_ := Aside0.mk ((by rw [hg]; exact (below_size (by repeat (first | (with_reducible first | exact HB.out | apply below_alloc | apply pw_below_drewN | apply below_drew1 | refine below_set ?_ GE101.out) | exact HB.out))) : w.heap.size ≤ gb102)); have n4_ := Aside0.mk ((by rw [hg]; exact (below_size (by repeat (first | (with_reducible first | exact HB.out | apply below_alloc | apply pw_below_drewN | apply below_drew1 | refine below_set ?_ GE101.out) | exact HB.out))) : w.heap.size ≤ gb102)); have n5_ := Aside0.mk ((by rw [hg]; exact Nat.ne_of_lt (blk_lt (g := gb101) (o := .cells #[.slice A0_0 l0_0.length c0_0, .slice A0_1 l0_1.length c0_1, .int .i64 a0_2, .slice A0_3 l0_3.length c0_3] 63 (0, 0)) (by (with_reducible repeat (first | refine blk_drewN ?_ _ | refine blk_drew ?_ | refine blk_alloc ?_ _)); exact BK101.out)) : gb101 ≠ gb102)); have n6_ := Aside0.mk ((by rw [hg]; exact Nat.ne_of_gt (blk_lt (g := gb101) (o := .cells #[.slice A0_0 l0_0.length c0_0, .slice A0_1 l0_1.length c0_1, .int .i64 a0_2, .slice A0_3 l0_3.length c0_3] 63 (0, 0)) (by (with_reducible repeat (first | refine blk_drewN ?_ _ | refine blk_drew ?_ | refine blk_alloc ?_ _)); exact BK101.out)) : gb102 ≠ gb101)); clear BK101; clear HB; have BK101 := n0_; have HB := n1_; have BK102 := n2_; have GW102 := n3_; have GE102 := n4_; have NB101_102 := n5_; have NB102_101 := n6_; clear n0_ n1_ n2_ n3_ n4_ n5_ n6_; clear hb hbox hg; have hnb7 := NB102_101.out; have hnc7 := NB101_102.out; have hcz8_0 : w6.cell? ⟨gb102, 0, none⟩ = some (.int .i64 a1_0) := (blk_cell BK102.out 0).trans rfl; have hcz8_1 : w6.cell? ⟨gb102, 1, none⟩ = some (.int .i64 a1_1) := (blk_cell BK102.out 1).trans rfl; have hcz8_2 : w6.cell? ⟨gb102, 2, none⟩ = some (.slice A1_2 l1_2.length c1_2) := (blk_cell BK102.out 2).trans rfl; have hfz8_0 := blk_frozen BK102.out 0; have hfz8_1 := blk_frozen BK102.out 1; have hfz8_2 := blk_frozen BK102.out 2; have hcz9_0 : w6.cell? ⟨gb101, 0, none⟩ = some (.slice A0_0 l0_0.length c0_0) := (blk_cell BK101.out 0).trans rfl; have hcz9_1 : w6.cell? ⟨gb101, 1, none⟩ = some (.slice A0_1 l0_1.length c0_1) := (blk_cell BK101.out 1).trans rfl; have hcz9_2 : w6.cell? ⟨gb101, 2, none⟩ = some (.int .i64 a0_2) := (blk_cell BK101.out 2).trans rfl; have hcz9_3 : w6.cell? ⟨gb101, 3, none⟩ = some (.slice A0_3 l0_3.length c0_3) := (blk_cell BK101.out 3).trans rfl; have hfz9_0 := blk_frozen BK101.out 0; have hfz9_1 := blk_frozen BK101.out 1; have hfz9_2 := blk_frozen BK101.out 2; have hfz9_3 := blk_frozen BK101.out 3) | ((with_reducible refine gate_callee (f := 151) rfl ?_); refine goesL_ (some 13) rfl rfl Tryd.func151 (by kernel_rfl) rfl #[.agg #[.slice A0_0 l0_0.length c0_0, .slice A0_1 l0_1.length c0_1, .int .i64 a0_2, .slice A0_3 l0_3.length c0_3], .int .i64 a1_1] rfl (by (try simp only [List.map_toArray, List.map_cons, List.map_nil]); first | done | rfl | (simp only [List.length_drop, List.length_take]; rfl)) ?_; (with_reducible refine (wickerref02_Text.calls k _ _ l0_0 _ _ l0_1 a0_2 _ _ l0_3 a1_1 t103 _ ?side1 ?side2 ?side3 ?side4 ?side5 ?side6 A4.out).mono ?_); (case side1 => repeat (first | exact (Kd.C_below HR0_0.out HB.out) | (with_reducible refine Kd.C_alloc ?_ _) | (with_reducible refine Kd.C_drewN ?_ _) | (with_reducible refine Kd.C_drew ?_))); (case side2 => exact HC0_0.out); (case side3 => repeat (first | exact (Kd.C_below HR0_1.out HB.out) | (with_reducible refine Kd.C_alloc ?_ _) | (with_reducible refine Kd.C_drewN ?_ _) | (with_reducible refine Kd.C_drew ?_))); (case side4 => exact HC0_1.out); (case side5 => repeat (first | exact (Kd.C_below HR0_3.out HB.out) | (with_reducible refine Kd.C_alloc ?_ _) | (with_reducible refine Kd.C_drewN ?_ _) | (with_reducible refine Kd.C_drew ?_))); (case side6 => exact HC0_3.out); rintro e w10 ⟨rfl, hb⟩; refine ⟨_, rfl, ?_⟩; have n0_ := Aside0.mk (blk_below (g := gb101) (o := .cells #[.slice A0_0 l0_0.length c0_0, .slice A0_1 l0_1.length c0_1, .int .i64 a0_2, .slice A0_3 l0_3.length c0_3] 63 (0, 0)) (by (with_reducible repeat (first | refine blk_drewN ?_ _ | refine blk_drew ?_ | refine blk_alloc ?_ _)); exact BK101.out) hb); have n1_ := Aside0.mk (blk_below (g := gb102) (o := .cells #[.int .i64 a1_0, .int .i64 a1_1, .slice A1_2 l1_2.length c1_2] 58 (0, 0)) (by (with_reducible repeat (first | refine blk_drewN ?_ _ | refine blk_drew ?_ | refine blk_alloc ?_ _)); exact BK102.out) hb); have n2_ := Aside0.mk (below_step (by repeat (first | (with_reducible first | exact HB.out | apply below_alloc | apply pw_below_drewN | apply below_drew1 | refine below_set ?_ GE101.out | refine below_set ?_ GE102.out) | exact HB.out)) hb); clear BK101; clear BK102; clear HB; have BK101 := n0_; have BK102 := n1_; have HB := n2_; clear n0_ n1_ n2_; (try clear hb); (try clear hb2); (try clear hk); (try clear hi)))
  go_ret
  exact ⟨by first | rfl | (simp [errW_none, errW_some] <;> rfl) | (simp [*, errW_none, errW_some] <;> rfl), by repeat (first | (with_reducible first | exact HB.out | apply below_alloc | apply pw_below_drewN | apply below_drew1 | refine below_set ?_ GE101.out | refine below_set ?_ GE102.out) | exact HB.out)⟩
 ·rw [if_neg c3] at H
  have c3b0 : decide (a1_0 < 0) = false := decide_eq_false c3
  clear c3
  by_cases c11 : 0 ≤ a1_0
  ·rw [if_pos c11] at H
   have c11b0 : decide (0 ≤ a1_0) = true := decide_eq_true c11
   clear c11
   by_cases c12 : a1_0 < (l0_3.length : Int)
   ·rw [if_pos c12] at H
    have c12b0 : decide (a1_0 < (l0_3.length : Int)) = true := decide_eq_true c12
    clear c12
    by_cases c13 : 0 ≤ ((rd_T87 l0_3 a1_0).f0)
    ·rw [if_pos c13] at H
     have c13b0 : decide (0 ≤ ((rd_T87 l0_3 a1_0).f0)) = true := decide_eq_true c13
     clear c13
     by_cases c14 : ((rd_T87 l0_3 a1_0).f0) < (l0_0.length : Int)
     ·rw [if_pos c14] at H
      have c14b0 : decide (((rd_T87 l0_3 a1_0).f0) < (l0_0.length : Int)) = true := decide_eq_true c14
      clear c14
      by_cases c15 : 1 + (rdOf ByteArray.empty l0_0 ((rd_T87 l0_3 a1_0).f0)).size ≤ 9223372036854775807
      ·rw [if_pos c15] at H
       have c15b0 := eq_true c15
       have c15b1 : decide (1 + (rdOf ByteArray.empty l0_0 ((rd_T87 l0_3 a1_0).f0)).size ≤ 9223372036854775807) = true := decide_eq_true c15
       try have c15b2 : (9223372036854775807 < 1 + (rdOf ByteArray.empty l0_0 ((rd_T87 l0_3 a1_0).f0)).size) = False := eq_false (Nat.not_lt.2 c15)
       have H' := Aside0.mk H
       clear H
       go_enter Tryd.func119, Tryd.ntmps119
       try go_wp2_with (first | ((with_reducible refine gate_dst (N := 2) rfl ?_); refine box_event ?hg (N := 2) ?hd (cs := #[.slice A0_0 l0_0.length c0_0, .slice A0_1 l0_1.length c0_1, .int .i64 a0_2, .slice A0_3 l0_3.length c0_3]) (t := 63) ?hr ?_; (case hd => rfl); (case hg => rfl); (case hr => first | (go_simp; done) | (go_simp; rfl)); intro gb101 hg w16 hbox hb; have n0_ := Aside0.mk (below_step (by repeat (first | (with_reducible first | exact HB.out | apply below_alloc | apply pw_below_drewN | apply below_drew1) | exact HB.out)) hb); have n1_ := Aside0.mk (hbox); have n2_ := Aside0.mk ((by rw [hg]; exact (below_size (by repeat (first | (with_reducible first | exact HB.out | apply below_alloc | apply pw_below_drewN | apply below_drew1) | exact HB.out))) : w.heap.size ≤ gb101)); have n3_ := Aside0.mk ((by rw [hg]; exact (below_size (by repeat (first | (with_reducible first | exact HB.out | apply below_alloc | apply pw_below_drewN | apply below_drew1) | exact HB.out))) : w.heap.size ≤ gb101)); clear HB; have HB := n0_; have BK101 := n1_; have GW101 := n2_; have GE101 := n3_; clear n0_ n1_ n2_ n3_; clear hb hbox hg) | ((with_reducible refine gate_dst (N := 3) rfl ?_); refine box_event ?hg (N := 3) ?hd (cs := #[.int .i64 a1_0, .int .i64 a1_1, .slice A1_2 l1_2.length c1_2]) (t := 58) ?hr ?_; (case hd => rfl); (case hg => rfl); (case hr => first | (go_simp; done) | (go_simp; rfl)); intro gb102 hg w17 hbox hb; have n0_ := Aside0.mk (blk_below (g := gb101) (o := .cells #[.slice A0_0 l0_0.length c0_0, .slice A0_1 l0_1.length c0_1, .int .i64 a0_2, .slice A0_3 l0_3.length c0_3] 63 (0, 0)) (by (with_reducible repeat (first | refine blk_drewN ?_ _ | refine blk_drew ?_ | refine blk_alloc ?_ _)); exact BK101.out) hb); have n1_ := Aside0.mk (below_step (by repeat (first | (with_reducible first | exact HB.out | apply below_alloc | apply pw_below_drewN | apply below_drew1 | refine below_set ?_ GE101.out) | exact HB.out)) hb); have n2_ := Aside0.mk (hbox); have n3_ := Aside0.mk ((by rw [hg]; exact (below_size (by repeat (first | (with_reducible first | exact HB.out | apply below_alloc | apply pw_below_drewN | apply below_drew1 | refine below_set ?_ GE101.out) | exact HB.out))) : w.heap.size ≤ gb102)); have n4_ := Aside0.mk ((by rw [hg]; exact (below_size (by repeat (first | (with_reducible first | exact HB.out | apply below_alloc | apply pw_below_drewN | apply below_drew1 | refine below_set ?_ GE101.out) | exact HB.out))) : w.heap.size ≤ gb102)); have n5_ := Aside0.mk ((by rw [hg]; exact Nat.ne_of_lt (blk_lt (g := gb101) (o := .cells #[.slice A0_0 l0_0.length c0_0, .slice A0_1 l0_1.length c0_1, .int .i64 a0_2, .slice A0_3 l0_3.length c0_3] 63 (0, 0)) (by (with_reducible repeat (first | refine blk_drewN ?_ _ | refine blk_drew ?_ | refine blk_alloc ?_ _)); exact BK101.out)) : gb101 ≠ gb102)); have n6_ := Aside0.mk ((by rw [hg]; exact Nat.ne_of_gt (blk_lt (g := gb101) (o := .cells #[.slice A0_0 l0_0.length c0_0, .slice A0_1 l0_1.length c0_1, .int .i64 a0_2, .slice A0_3 l0_3.length c0_3] 63 (0, 0)) (by (with_reducible repeat (first | refine blk_drewN ?_ _ | refine blk_drew ?_ | refine blk_alloc ?_ _)); exact BK101.out)) : gb102 ≠ gb101)); clear BK101; clear HB; have BK101 := n0_; have HB := n1_; have BK102 := n2_; have GW102 := n3_; have GE102 := n4_; have NB101_102 := n5_; have NB102_101 := n6_; clear n0_ n1_ n2_ n3_ n4_ n5_ n6_; clear hb hbox hg; have hnb18 := NB102_101.out; have hnc18 := NB101_102.out; have hcz19_0 : w17.cell? ⟨gb102, 0, none⟩ = some (.int .i64 a1_0) := (blk_cell BK102.out 0).trans rfl; have hcz19_1 : w17.cell? ⟨gb102, 1, none⟩ = some (.int .i64 a1_1) := (blk_cell BK102.out 1).trans rfl; have hcz19_2 : w17.cell? ⟨gb102, 2, none⟩ = some (.slice A1_2 l1_2.length c1_2) := (blk_cell BK102.out 2).trans rfl; have hfz19_0 := blk_frozen BK102.out 0; have hfz19_1 := blk_frozen BK102.out 1; have hfz19_2 := blk_frozen BK102.out 2))
       have n0_ := Aside0.mk (blk_drew BK101.out)
       have n1_ := Aside0.mk (blk_drew BK102.out)
       have n2_ := Aside0.mk (below_drew1 HB.out)
       clear BK101
       clear BK102
       clear HB
       have BK101 := n0_
       have BK102 := n1_
       have HB := n2_
       clear n0_ n1_ n2_
       have p104 : 0 ≤ (a1_0 : Int) := of_decide_eq_true (by first | (with_reducible assumption) | assumption)
       have q104 : a1_0 < (l0_3.length : Int) := of_decide_eq_true (by first | (with_reducible assumption) | assumption)
       obtain ⟨ad104, A104_1, c104_1, e104, hx104_0, hx104_1, hl104_1, hi104_1⟩ := at_T87 HR0_3.out a1_0 p104 q104
       have hw104_1 := hx104_1
       have hw104_0 := hx104_0
       cases e104
       replace hx104_0 := (HB.out.cell (World.block_lt_of_cell? w _ hx104_0)).trans hx104_0
       replace hx104_1 := (HB.out.cell (World.block_lt_of_cell? w _ hx104_1)).trans hx104_1
       have HR104_1 := Aside0.mk hi104_1
       have HC104_1 := Aside0.mk hl104_1
       clear hi104_1 hl104_1
       replace p104 := eq_true p104
       replace q104 := eq_true q104
       have p105 : 0 ≤ (((rd_T87 l0_3 a1_0).f0) : Int) := of_decide_eq_true (by first | (with_reducible assumption) | assumption)
       have q105 : ((rd_T87 l0_3 a1_0).f0) < (l0_0.length : Int) := of_decide_eq_true (by first | (with_reducible assumption) | assumption)
       obtain ⟨ad105, e105, hx105_0⟩ := Kd.at_string HR0_0.out ((rd_T87 l0_3 a1_0).f0) p105 q105
       have hw105_0 := hx105_0
       cases e105
       replace hx105_0 := (HB.out.cell (World.block_lt_of_cell? w _ hx105_0)).trans hx105_0
       replace p105 := eq_true p105
       replace q105 := eq_true q105
       refine start_ (n := 13) (S := fun w' => w'.cell? ⟨gb101, 0, none⟩ = some (.slice (some ad105) l0_0.length c0_0) ∧ w'.cell? ⟨gb101, 1, none⟩ = some (.slice A0_1 l0_1.length c0_1) ∧ w'.cell? ⟨gb101, 2, none⟩ = some (.int .i64 a0_2) ∧ w'.cell? ⟨gb101, 3, none⟩ = some (.slice (some ad104) l0_3.length c0_3) ∧ w'.cell? ⟨gb102, 0, none⟩ = some (.int .i64 a1_0) ∧ w'.cell? ⟨gb102, 1, none⟩ = some (.int .i64 a1_1) ∧ w'.cell? ⟨gb102, 2, none⟩ = some (.slice A1_2 l1_2.length c1_2) ∧ w'.cell? (ad104.add ((a1_0).toNat * 2)) = some (.int .i64 ((rd_T87 l0_3 a1_0).f0)) ∧ w'.cell? ⟨(ad104.add ((a1_0).toNat * 2)).block, (ad104.add ((a1_0).toNat * 2)).off + 1, none⟩ = some (.slice A104_1 ((rd_T87 l0_3 a1_0).f1).length c104_1) ∧ w'.cell? (ad105.add (((rd_T87 l0_3 a1_0).f0)).toNat) = some (.string (rdOf ByteArray.empty l0_0 ((rd_T87 l0_3 a1_0).f0)))) (ds := []) #[false, false, false, false, false, false, false, false, false, false, false, false, false] (by kernel_rfl) rfl rfl ⟨(blk_cell BK101.out 0).trans rfl, (blk_cell BK101.out 1).trans rfl, (blk_cell BK101.out 2).trans rfl, (blk_cell BK101.out 3).trans rfl, (blk_cell BK102.out 0).trans rfl, (blk_cell BK102.out 1).trans rfl, (blk_cell BK102.out 2).trans rfl, ((HB.out.cell (World.block_lt_of_cell? w _ hw104_0)).trans hw104_0), ((HB.out.cell (World.block_lt_of_cell? w _ hw104_1)).trans hw104_1), ((HB.out.cell (World.block_lt_of_cell? w _ hw105_0)).trans hw105_0)⟩ (fun hHeld => ?_); refine with_tabW wickerref03_text.tab3 wickerref03_text.bits3 (fun HT_ HW_ => ?_)
       generalize w17.drew = w20 at BK101 BK102 HB HR104_1 hx104_0 hx104_1 hx105_0 hHeld ⊢
       refine pure_ (i := 0) (N := some 14) (v := ?_) (a' := ?_) #[true, false, false, false, false, false, false, false, false, false, false, false, false] rfl rfl (any_of HT_.out (by kernel_rfl)) (fun _ _ _ h => h) (Or.inl ⟨by rfl, ?_⟩) ?_ ?_
       rotate_left
       ·intro w'
        go_simp
        with_reducible rfl
       rotate_left
       ·simp only [Act.put, List.setIfInBounds_toArray, List.set_cons_zero, List.set_cons_succ, i64_w, i32_w]
        rfl
       refine pure_ (i := 2) (N := some 16) (v := ?_) (a' := ?_) #[true, false, true, false, false, false, false, false, false, false, false, false, false] rfl rfl (any_of HT_.out (by kernel_rfl)) (fun _ _ _ h => h) (Or.inl ⟨by rfl, ?_⟩) ?_ ?_
       rotate_left
       ·intro w'
        go_simp
        with_reducible rfl
       rotate_left
       ·simp only [Act.put, List.setIfInBounds_toArray, List.set_cons_zero, List.set_cons_succ, i64_w, i32_w]
        rfl
       refine pure_ (i := 4) (N := some 18) (v := ?_) (a' := ?_) #[true, false, true, false, true, false, false, false, false, false, false, false, false] rfl rfl (any_of HT_.out (by kernel_rfl)) (fun _ _ _ h => h) (Or.inl ⟨by rfl, ?_⟩) ?_ ?_
       rotate_left
       ·intro w'
        go_simp
        with_reducible rfl
       rotate_left
       ·simp only [Act.put, List.setIfInBounds_toArray, List.set_cons_zero, List.set_cons_succ, i64_w, i32_w]
        rfl
       refine take_ (i := 1) (N := some 15) (v := ?_) (a' := ?_) #[true, true, true, false, true, false, false, false, false, false, false, false, false] rfl rfl (take_ofW HT_.out HW_.out (by kernel_rfl)) (fun _ _ _ h => h) (Or.inl ⟨by rfl, ?_⟩) hHeld ?_ ?_
       rotate_left
       ·rintro w' ⟨s0, s1, s2, s3, s4, s5, s6, s7, s8, s9⟩
        go_simp
        with_reducible rfl
       rotate_left
       ·simp only [Act.put, List.setIfInBounds_toArray, List.set_cons_zero, List.set_cons_succ, i64_w, i32_w]
        rfl
       refine take_ (i := 3) (N := some 17) (v := ?_) (a' := ?_) #[true, true, true, true, true, false, false, false, false, false, false, false, false] rfl rfl (take_ofW HT_.out HW_.out (by kernel_rfl)) (fun _ _ _ h => h) (Or.inl ⟨by rfl, ?_⟩) hHeld ?_ ?_
       rotate_left
       ·rintro w' ⟨s0, s1, s2, s3, s4, s5, s6, s7, s8, s9⟩
        go_simp
        with_reducible rfl
       rotate_left
       ·simp only [Act.put, List.setIfInBounds_toArray, List.set_cons_zero, List.set_cons_succ, i64_w, i32_w]
        rfl
       refine take_ (i := 5) (N := some 19) (v := ?_) (a' := ?_) #[true, true, true, true, true, true, false, false, false, false, false, false, false] rfl rfl (take_ofW HT_.out HW_.out (by kernel_rfl)) (fun _ _ _ h => h) (Or.inl ⟨by rfl, ?_⟩) hHeld ?_ ?_
       rotate_left
       ·rintro w' ⟨s0, s1, s2, s3, s4, s5, s6, s7, s8, s9⟩
        go_simp
        with_reducible rfl
       rotate_left
       ·simp only [Act.put, List.setIfInBounds_toArray, List.set_cons_zero, List.set_cons_succ, i64_w, i32_w]
        rfl
       refine pure_ (i := 6) (N := some 20) (v := ?_) (a' := ?_) #[true, true, true, true, true, true, true, false, false, false, false, false, false] rfl rfl (any_of HT_.out (by kernel_rfl)) (fun _ _ _ h => h) (Or.inl ⟨by rfl, ?_⟩) ?_ ?_
       rotate_left
       ·intro w'
        go_simp
        with_reducible rfl
       rotate_left
       ·simp only [Act.put, List.setIfInBounds_toArray, List.set_cons_zero, List.set_cons_succ, i64_w, i32_w]
        rfl
       refine pure_ (i := 7) (N := some 21) (v := ?_) (a' := ?_) #[true, true, true, true, true, true, true, true, false, false, false, false, false] rfl rfl (any_of HT_.out (by kernel_rfl)) (fun _ _ _ h => h) (Or.inl ⟨by rfl, ?_⟩) ?_ ?_
       rotate_left
       ·intro w'
        go_simp
        with_reducible rfl
       rotate_left
       ·simp only [Act.put, List.setIfInBounds_toArray, List.set_cons_zero, List.set_cons_succ, i64_w, i32_w]
        rfl
       refine take_ (i := 8) (N := some 22) (v := ?_) (a' := ?_) #[true, true, true, true, true, true, true, true, true, false, false, false, false] rfl rfl (take_ofW HT_.out HW_.out (by kernel_rfl)) (fun _ _ _ h => h) (Or.inl ⟨by rfl, ?_⟩) hHeld ?_ ?_
       rotate_left
       ·rintro w' ⟨s0, s1, s2, s3, s4, s5, s6, s7, s8, s9⟩
        go_simp
        with_reducible rfl
       rotate_left
       ·simp only [Act.put, List.setIfInBounds_toArray, List.set_cons_zero, List.set_cons_succ, i64_w, i32_w]
        rfl
       refine pure_ (i := 9) (N := some 23) (v := ?_) (a' := ?_) #[true, true, true, true, true, true, true, true, true, true, false, false, false] rfl rfl (any_of HT_.out (by kernel_rfl)) (fun _ _ _ h => h) (Or.inl ⟨by rfl, ?_⟩) ?_ ?_
       rotate_left
       ·intro w'
        go_simp
        with_reducible rfl
       rotate_left
       ·simp only [Act.put, List.setIfInBounds_toArray, List.set_cons_zero, List.set_cons_succ, i64_w, i32_w]
        rfl
       refine take_ (i := 10) (N := some 24) (v := ?_) (a' := ?_) #[true, true, true, true, true, true, true, true, true, true, true, false, false] rfl rfl (take_ofW HT_.out HW_.out (by kernel_rfl)) (fun _ _ _ h => h) (Or.inl ⟨by rfl, ?_⟩) hHeld ?_ ?_
       rotate_left
       ·rintro w' ⟨s0, s1, s2, s3, s4, s5, s6, s7, s8, s9⟩
        go_simp
        with_reducible rfl
       rotate_left
       ·simp only [Act.put, List.setIfInBounds_toArray, List.set_cons_zero, List.set_cons_succ, i64_w, i32_w]
        rfl
       refine pure_ (i := 11) (N := some 25) (v := ?_) (a' := ?_) #[true, true, true, true, true, true, true, true, true, true, true, true, false] rfl rfl (any_of HT_.out (by kernel_rfl)) (fun _ _ _ h => h) (Or.inl ⟨by rfl, ?_⟩) ?_ ?_
       rotate_left
       ·intro w'
        go_simp
        with_reducible rfl
       rotate_left
       ·simp only [Act.put, List.setIfInBounds_toArray, List.set_cons_zero, List.set_cons_succ, i64_w, i32_w]
        rfl
       refine pure_ (i := 12) (N := some 5) (v := ?_) (a' := ?_) #[true, true, true, true, true, true, true, true, true, true, true, true, true] rfl rfl (any_of HT_.out (by kernel_rfl)) (fun _ _ _ h => h) (Or.inl ⟨by rfl, ?_⟩) ?_ ?_
       rotate_left
       ·intro w'
        go_simp
        with_reducible rfl
       rotate_left
       ·simp only [Act.put, List.setIfInBounds_toArray, List.set_cons_zero, List.set_cons_succ, i64_w, i32_w]
        rfl
       refine done_ (done_of HT_.out (by kernel_rfl)) ?_
       try go_wp2
       go_loopg [5, 6] k (fun kq v5 v6 w' => ∃ (x5_1 : ByteArray) (x6_1 : Int), v5 = .string x5_1 ∧ v6 = .int .i64 x6_1 ∧ Aside0 (wickerref03_text.l0 kq x5_1 x6_1 l0_0 l0_1 a0_2 l0_3 a1_0 a1_1 l1_2 = some r) ∧ Aside0 (kq ≤ k) ∧ Aside0 (w'.heap[gb101]? = some (.cells #[(.slice (some ad105) l0_0.length c0_0), (.slice A0_1 l0_1.length c0_1), .int .i64 a0_2, (.slice (some ad104) l0_3.length c0_3)] 63 (0, 0))) ∧ Aside0 (w'.heap[gb102]? = some (.cells #[.int .i64 a1_0, .int .i64 a1_1, (.slice A1_2 l1_2.length c1_2)] 58 (0, 0))) ∧ Aside0 (Below w.heap.size w w'))
       case atStart => exact ⟨((⟨#[40]⟩ : ByteArray) ++ (rdOf ByteArray.empty l0_0 ((rd_T87 l0_3 a1_0).f0))), (0), (by first | rfl | (simp; done) | (simp [*]; done)), (by first | rfl | (simp; done) | (simp [*]; done)), H', ⟨Nat.le_refl _⟩, ⟨by (with_reducible repeat (first | refine blk_drewN ?_ _ | refine blk_drew ?_ | refine blk_alloc ?_ _)); exact BK101.out⟩, ⟨by (with_reducible repeat (first | refine blk_drewN ?_ _ | refine blk_drew ?_ | refine blk_alloc ?_ _)); exact BK102.out⟩, ⟨by repeat (first | (with_reducible first | exact HB.out | apply below_alloc | apply pw_below_drewN | apply below_drew1 | refine below_set ?_ GE101.out | refine below_set ?_ GE102.out) | exact HB.out)⟩⟩
       case round =>
        clear H'
        try clear c1
        try clear p1
        try clear q1
        try clear hx1
        try clear p2
        try clear c3
        try clear c3b0
        try clear c7
        try clear c10
        try clear p10
        try clear q10
        try clear hx10
        try clear c11
        try clear c11b0
        try clear c12
        try clear c12b0
        try clear c13
        try clear c13b0
        try clear c14
        try clear c14b0
        try clear c15
        try clear c15b0
        try clear c15b1
        try clear c15b2
        try clear c18
        try clear hcz19_0
        try clear hcz19_1
        try clear hcz19_2
        try clear hcz8_0
        try clear hcz8_1
        try clear hcz8_2
        try clear hcz9_0
        try clear hcz9_1
        try clear hcz9_2
        try clear hcz9_3
        try clear hfz19_0
        try clear hfz19_1
        try clear hfz19_2
        try clear hfz8_0
        try clear hfz8_1
        try clear hfz8_2
        try clear hfz9_0
        try clear hfz9_1
        try clear hfz9_2
        try clear hfz9_3
        try clear hx104_0
        try clear hx104_1
        try clear hx105_0
        try clear p104
        try clear p105
        try clear q104
        try clear q105
        obtain ⟨x5_1, x6_1, rfl, rfl, HA, HK1, BK101, BK102, HB⟩ := hrel
        cases gk with
        | zero => exact absurd HA.out (by simp [wickerref03_text.l0])
        | succ k1 =>
         have H := HA.out
         clear HA
         simp only [wickerref03_text.l0] at H
         by_cases c21 : x6_1 < (l1_2.length : Int)
         ·rw [if_pos c21] at H
          have c21b0 : decide (x6_1 < (l1_2.length : Int)) = true := decide_eq_true c21
          clear c21
          by_cases c22 : x5_1.size + 1 ≤ 9223372036854775807
          ·rw [if_pos c22] at H
           have c22b0 := eq_true c22
           have c22b1 : decide (x5_1.size + 1 ≤ 9223372036854775807) = true := decide_eq_true c22
           try have c22b2 : (9223372036854775807 < x5_1.size + 1) = False := eq_false (Nat.not_lt.2 c22)
           by_cases c23 : 0 ≤ x6_1
           ·rw [if_pos c23] at H
            have c23b0 : decide (0 ≤ x6_1) = true := decide_eq_true c23
            clear c23
            replace H := Option.bind_eq_some_iff.mp H
            obtain ⟨t107, A240, H⟩ := H
            replace H : (if (x5_1 ++ (⟨#[32]⟩ : ByteArray)).size + t107.size ≤ 9223372036854775807 then (wickerref03_text.l0 k1 ((x5_1 ++ (⟨#[32]⟩ : ByteArray)) ++ t107) (wrap64 (x6_1 + 1)) l0_0 l0_1 a0_2 l0_3 a1_0 a1_1 l1_2) else (none)) = some r := H
            have A24 := Aside0.mk A240
            clear A240
            by_cases c25 : (x5_1 ++ (⟨#[32]⟩ : ByteArray)).size + t107.size ≤ 9223372036854775807
            ·rw [if_pos c25] at H
             have c25b0 := eq_true c25
             have c25b1 : decide ((x5_1 ++ (⟨#[32]⟩ : ByteArray)).size + t107.size ≤ 9223372036854775807) = true := decide_eq_true c25
             try have c25b2 : (9223372036854775807 < (x5_1 ++ (⟨#[32]⟩ : ByteArray)).size + t107.size) = False := eq_false (Nat.not_lt.2 c25)
             try (have c25b3 := c25b2; simp only [ByteArray.size_append, ByteArray.size_extract, Nat.sub_zero, show (⟨#[32]⟩ : ByteArray).size = 1 from rfl] at c25b3)
             have H' := Aside0.mk H
             clear H
             have hnb26 := NB102_101.out
             have hnc26 := NB101_102.out
             have hcz27_0 : wr.cell? ⟨gb102, 0, none⟩ = some (.int .i64 a1_0) := (blk_cell BK102.out 0).trans rfl
             have hcz27_1 : wr.cell? ⟨gb102, 1, none⟩ = some (.int .i64 a1_1) := (blk_cell BK102.out 1).trans rfl
             have hcz27_2 : wr.cell? ⟨gb102, 2, none⟩ = some (.slice A1_2 l1_2.length c1_2) := (blk_cell BK102.out 2).trans rfl
             have hfz27_0 := blk_frozen BK102.out 0
             have hfz27_1 := blk_frozen BK102.out 1
             have hfz27_2 := blk_frozen BK102.out 2
             try go_wp2
             have n0_ := Aside0.mk (blk_drew BK101.out)
             have n1_ := Aside0.mk (blk_drew BK102.out)
             have n2_ := Aside0.mk (below_drew1 HB.out)
             clear BK101
             clear BK102
             clear HB
             have BK101 := n0_
             have BK102 := n1_
             have HB := n2_
             clear n0_ n1_ n2_
             have p106 : 0 ≤ (x6_1 : Int) := of_decide_eq_true (by first | (with_reducible assumption) | assumption)
             have q106 : x6_1 < (l1_2.length : Int) := of_decide_eq_true (by first | (with_reducible assumption) | assumption)
             obtain ⟨ad106, A106_2, c106_2, e106, hx106_0, hx106_1, hx106_2, hl106_2, hi106_2⟩ := at_T58 HR1_2.out x6_1 p106 q106
             have hw106_2 := hx106_2
             have hw106_1 := hx106_1
             have hw106_0 := hx106_0
             cases e106
             replace hx106_0 := (HB.out.cell (World.block_lt_of_cell? w _ hx106_0)).trans hx106_0
             replace hx106_1 := (HB.out.cell (World.block_lt_of_cell? w _ hx106_1)).trans hx106_1
             replace hx106_2 := (HB.out.cell (World.block_lt_of_cell? w _ hx106_2)).trans hx106_2
             have HR106_2 := Aside0.mk hi106_2
             have HC106_2 := Aside0.mk hl106_2
             clear hi106_2 hl106_2
             replace p106 := eq_true p106
             replace q106 := eq_true q106
             refine start_ (n := 11) (S := fun w' => w'.cell? ⟨gb101, 0, none⟩ = some (.slice (some ad105) l0_0.length c0_0) ∧ w'.cell? ⟨gb101, 1, none⟩ = some (.slice A0_1 l0_1.length c0_1) ∧ w'.cell? ⟨gb101, 2, none⟩ = some (.int .i64 a0_2) ∧ w'.cell? ⟨gb101, 3, none⟩ = some (.slice (some ad104) l0_3.length c0_3) ∧ w'.cell? ⟨gb102, 0, none⟩ = some (.int .i64 a1_0) ∧ w'.cell? ⟨gb102, 1, none⟩ = some (.int .i64 a1_1) ∧ w'.cell? ⟨gb102, 2, none⟩ = some (.slice (some ad106) l1_2.length c1_2) ∧ w'.cell? (ad106.add ((x6_1).toNat * 3)) = some (.int .i64 ((rd_T58 l1_2 x6_1).f0)) ∧ w'.cell? ⟨(ad106.add ((x6_1).toNat * 3)).block, (ad106.add ((x6_1).toNat * 3)).off + 1, none⟩ = some (.int .i64 ((rd_T58 l1_2 x6_1).f1)) ∧ w'.cell? ⟨(ad106.add ((x6_1).toNat * 3)).block, (ad106.add ((x6_1).toNat * 3)).off + 2, none⟩ = some (.slice A106_2 ((rd_T58 l1_2 x6_1).f2).length c106_2)) (ds := []) #[false, false, false, false, false, false, false, false, false, false, false] (by kernel_rfl) rfl rfl ⟨(blk_cell BK101.out 0).trans rfl, (blk_cell BK101.out 1).trans rfl, (blk_cell BK101.out 2).trans rfl, (blk_cell BK101.out 3).trans rfl, (blk_cell BK102.out 0).trans rfl, (blk_cell BK102.out 1).trans rfl, (blk_cell BK102.out 2).trans rfl, ((HB.out.cell (World.block_lt_of_cell? w _ hw106_0)).trans hw106_0), ((HB.out.cell (World.block_lt_of_cell? w _ hw106_1)).trans hw106_1), ((HB.out.cell (World.block_lt_of_cell? w _ hw106_2)).trans hw106_2)⟩ (fun hHeld => ?_); refine with_tabW wickerref03_text.tab7 wickerref03_text.bits7 (fun HT_ HW_ => ?_)
             generalize wr.drew = w28 at BK101 BK102 HB HR106_2 hx106_0 hx106_1 hx106_2 hHeld ⊢
             refine pure_ (i := 0) (N := some 33) (v := ?_) (a' := ?_) #[true, false, false, false, false, false, false, false, false, false, false] rfl rfl (any_of HT_.out (by kernel_rfl)) (fun _ _ _ h => h) (Or.inl ⟨by rfl, ?_⟩) ?_ ?_
             rotate_left
             ·intro w'
              go_simp
              with_reducible rfl
             rotate_left
             ·simp only [Act.put, List.setIfInBounds_toArray, List.set_cons_zero, List.set_cons_succ, i64_w, i32_w]
              rfl
             refine pure_ (i := 1) (N := some 34) (v := ?_) (a' := ?_) #[true, true, false, false, false, false, false, false, false, false, false] rfl rfl (any_of HT_.out (by kernel_rfl)) (fun _ _ _ h => h) (Or.inl ⟨by rfl, ?_⟩) ?_ ?_
             rotate_left
             ·intro w'
              go_simp
              with_reducible rfl
             rotate_left
             ·simp only [Act.put, List.setIfInBounds_toArray, List.set_cons_zero, List.set_cons_succ, i64_w, i32_w]
              rfl
             refine pure_ (i := 3) (N := some 36) (v := ?_) (a' := ?_) #[true, true, false, true, false, false, false, false, false, false, false] rfl rfl (any_of HT_.out (by kernel_rfl)) (fun _ _ _ h => h) (Or.inl ⟨by rfl, ?_⟩) ?_ ?_
             rotate_left
             ·intro w'
              go_simp
              with_reducible rfl
             rotate_left
             ·simp only [Act.put, List.setIfInBounds_toArray, List.set_cons_zero, List.set_cons_succ, i64_w, i32_w]
              rfl
             refine pure_ (i := 5) (N := some 38) (v := ?_) (a' := ?_) #[true, true, false, true, false, true, false, false, false, false, false] rfl rfl (any_of HT_.out (by kernel_rfl)) (fun _ _ _ h => h) (Or.inl ⟨by rfl, ?_⟩) ?_ ?_
             rotate_left
             ·intro w'
              go_simp
              with_reducible rfl
             rotate_left
             ·simp only [Act.put, List.setIfInBounds_toArray, List.set_cons_zero, List.set_cons_succ, i64_w, i32_w]
              rfl
             refine take_ (i := 2) (N := some 35) (v := ?_) (a' := ?_) #[true, true, true, true, false, true, false, false, false, false, false] rfl rfl (take_ofW HT_.out HW_.out (by kernel_rfl)) (fun _ _ _ h => h) (Or.inl ⟨by rfl, ?_⟩) hHeld ?_ ?_
             rotate_left
             ·rintro w' ⟨s0, s1, s2, s3, s4, s5, s6, s7, s8, s9⟩
              go_simp
              with_reducible rfl
             rotate_left
             ·simp only [Act.put, List.setIfInBounds_toArray, List.set_cons_zero, List.set_cons_succ, i64_w, i32_w]
              rfl
             refine take_ (i := 4) (N := some 37) (v := ?_) (a' := ?_) #[true, true, true, true, true, true, false, false, false, false, false] rfl rfl (take_ofW HT_.out HW_.out (by kernel_rfl)) (fun _ _ _ h => h) (Or.inl ⟨by rfl, ?_⟩) hHeld ?_ ?_
             rotate_left
             ·rintro w' ⟨s0, s1, s2, s3, s4, s5, s6, s7, s8, s9⟩
              go_simp
              with_reducible rfl
             rotate_left
             ·simp only [Act.put, List.setIfInBounds_toArray, List.set_cons_zero, List.set_cons_succ, i64_w, i32_w]
              rfl
             refine pure_ (i := 6) (N := some 39) (v := ?_) (a' := ?_) #[true, true, true, true, true, true, true, false, false, false, false] rfl rfl (any_of HT_.out (by kernel_rfl)) (fun _ _ _ h => h) (Or.inl ⟨by rfl, ?_⟩) ?_ ?_
             rotate_left
             ·intro w'
              go_simp
              with_reducible rfl
             rotate_left
             ·simp only [Act.put, List.setIfInBounds_toArray, List.set_cons_zero, List.set_cons_succ, i64_w, i32_w]
              rfl
             refine take_ (i := 7) (N := some 40) (v := ?_) (a' := ?_) #[true, true, true, true, true, true, true, true, false, false, false] rfl rfl (take_ofW HT_.out HW_.out (by kernel_rfl)) (fun _ _ _ h => h) (Or.inl ⟨by rfl, ?_⟩) hHeld ?_ ?_
             rotate_left
             ·rintro w' ⟨s0, s1, s2, s3, s4, s5, s6, s7, s8, s9⟩
              go_simp
              with_reducible rfl
             rotate_left
             ·simp only [Act.put, List.setIfInBounds_toArray, List.set_cons_zero, List.set_cons_succ, i64_w, i32_w]
              rfl
             refine one_ (i := 8) (N := some 41) #[true, true, true, true, true, true, true, true, true, false, false] rfl rfl (one_of HT_.out (by kernel_rfl)) (by decide) (fun K hK => ?_)
             refine goes_ Tryd.func119 (by kernel_rfl) rfl #[.agg #[.slice (some ad105) l0_0.length c0_0, .slice A0_1 l0_1.length c0_1, .int .i64 a0_2, .slice (some ad104) l0_3.length c0_3], .agg #[.int .i64 ((rd_T58 l1_2 x6_1).f0), .int .i64 ((rd_T58 l1_2 x6_1).f1), .slice A106_2 ((rd_T58 l1_2 x6_1).f2).length c106_2]] (by rfl) rfl rfl (by (try simp only [List.map_toArray, List.map_cons, List.map_nil]); first | done | rfl | (simp only [List.length_drop, List.length_take]; rfl)) ?_
             with_reducible refine (ih k1 (by have := HK1.out; omega) _ _ l0_0 _ _ l0_1 a0_2 _ _ l0_3 ((rd_T58 l1_2 x6_1).f0) ((rd_T58 l1_2 x6_1).f1) _ _ ((rd_T58 l1_2 x6_1).f2) t107 _ ?side1 ?side2 ?side3 ?side4 ?side5 ?side6 ?side7 ?side8 A24.out).mono ?_
             (case side1 => repeat (first | exact (Kd.C_below HR0_0.out HB.out) | (with_reducible refine Kd.C_alloc ?_ _) | (with_reducible refine Kd.C_drewN ?_ _) | (with_reducible refine Kd.C_drew ?_)))
             (case side2 => exact HC0_0.out)
             (case side3 => repeat (first | exact (Kd.C_below HR0_1.out HB.out) | (with_reducible refine Kd.C_alloc ?_ _) | (with_reducible refine Kd.C_drewN ?_ _) | (with_reducible refine Kd.C_drew ?_)))
             (case side4 => exact HC0_1.out)
             (case side5 => repeat (first | exact (Kd.C_below HR0_3.out HB.out) | (with_reducible refine Kd.C_alloc ?_ _) | (with_reducible refine Kd.C_drewN ?_ _) | (with_reducible refine Kd.C_drew ?_)))
             (case side6 => exact HC0_3.out)
             (case side7 => repeat (first | exact (Kd.C_below HR106_2.out HB.out) | (with_reducible refine Kd.C_alloc ?_ _) | (with_reducible refine Kd.C_drewN ?_ _) | (with_reducible refine Kd.C_drew ?_)))
             (case side8 => exact HC106_2.out)
             rintro e w29 ⟨rfl, hb⟩
             refine ⟨_, rfl, ?_⟩
             have n0_ := Aside0.mk (blk_below (g := gb101) (o := .cells #[.slice (some ad105) l0_0.length c0_0, .slice A0_1 l0_1.length c0_1, .int .i64 a0_2, .slice (some ad104) l0_3.length c0_3] 63 (0, 0)) (by (with_reducible repeat (first | refine blk_drewN ?_ _ | refine blk_drew ?_ | refine blk_alloc ?_ _)); exact BK101.out) hb)
             have n1_ := Aside0.mk (blk_below (g := gb102) (o := .cells #[.int .i64 a1_0, .int .i64 a1_1, .slice (some ad106) l1_2.length c1_2] 58 (0, 0)) (by (with_reducible repeat (first | refine blk_drewN ?_ _ | refine blk_drew ?_ | refine blk_alloc ?_ _)); exact BK102.out) hb)
             have n2_ := Aside0.mk (below_step (by repeat (first | (with_reducible first | exact HB.out | apply below_alloc | apply pw_below_drewN | apply below_drew1 | refine below_set ?_ GE101.out | refine below_set ?_ GE102.out) | exact HB.out)) hb)
             clear BK101
             clear BK102
             clear HB
             have BK101 := n0_
             have BK102 := n1_
             have HB := n2_
             clear n0_ n1_ n2_
             (try clear hb)
             (try clear hb2)
             (try clear hk)
             (try clear hi)
             refine hK.out _ _ ⟨(blk_cell BK101.out 0).trans rfl, (blk_cell BK101.out 1).trans rfl, (blk_cell BK101.out 2).trans rfl, (blk_cell BK101.out 3).trans rfl, (blk_cell BK102.out 0).trans rfl, (blk_cell BK102.out 1).trans rfl, (blk_cell BK102.out 2).trans rfl, ((HB.out.cell (World.block_lt_of_cell? w _ hw106_0)).trans hw106_0), ((HB.out.cell (World.block_lt_of_cell? w _ hw106_1)).trans hw106_1), ((HB.out.cell (World.block_lt_of_cell? w _ hw106_2)).trans hw106_2)⟩ (fun hHeld => ?_)
             clear hK K
             refine norm_ (a' := ?_) ?_ ?_
             rotate_left
             ·show Act.put _ (some 41) _ = _
              simp only [Act.put, List.setIfInBounds_toArray, List.set_cons_zero, List.set_cons_succ, i64_w, i32_w]
              rfl
             refine pure_ (i := 9) (N := some 42) (v := ?_) (a' := ?_) #[true, true, true, true, true, true, true, true, true, true, false] rfl rfl (any_of HT_.out (by kernel_rfl)) (fun _ _ _ h => h) (Or.inl ⟨by rfl, ?_⟩) ?_ ?_
             rotate_left
             ·intro w'
              go_simp
              with_reducible rfl
             rotate_left
             ·simp only [Act.put, List.setIfInBounds_toArray, List.set_cons_zero, List.set_cons_succ, i64_w, i32_w]
              rfl
             refine pure_ (i := 10) (N := some 5) (v := ?_) (a' := ?_) #[true, true, true, true, true, true, true, true, true, true, true] rfl rfl (any_of HT_.out (by kernel_rfl)) (fun _ _ _ h => h) (Or.inl ⟨by rfl, ?_⟩) ?_ ?_
             rotate_left
             ·intro w'
              go_simp
              with_reducible rfl
             rotate_left
             ·simp only [Act.put, List.setIfInBounds_toArray, List.set_cons_zero, List.set_cons_succ, i64_w, i32_w]
              rfl
             refine done_ (done_of HT_.out (by kernel_rfl)) ?_
             try go_wp2
             go_roundg k1
             case measure => have := HK1.out; omega
             case rel => exact ⟨((x5_1 ++ (⟨#[32]⟩ : ByteArray)) ++ t107), (wrap64 (x6_1 + 1)), (by first | rfl | (simp; done) | (simp [*]; done)), (by first | rfl | (simp; done) | (simp [*]; done)), H', ⟨by have := HK1.out; omega⟩, ⟨by (with_reducible repeat (first | refine blk_drewN ?_ _ | refine blk_drew ?_ | refine blk_alloc ?_ _)); exact BK101.out⟩, ⟨by (with_reducible repeat (first | refine blk_drewN ?_ _ | refine blk_drew ?_ | refine blk_alloc ?_ _)); exact BK102.out⟩, ⟨by repeat (first | (with_reducible first | exact HB.out | apply below_alloc | apply pw_below_drewN | apply below_drew1 | refine below_set ?_ GE101.out | refine below_set ?_ GE102.out) | exact HB.out)⟩⟩
            ·rw [if_neg c25] at H
             exact absurd H (by simp)
           ·rw [if_neg c23] at H
            exact absurd H (by simp)
          ·rw [if_neg c22] at H
           exact absurd H (by simp)
         ·rw [if_neg c21] at H
          have c21b0 : decide (x6_1 < (l1_2.length : Int)) = false := decide_eq_false c21
          clear c21
          by_cases c30 : x5_1.size + 1 ≤ 9223372036854775807
          ·rw [if_pos c30] at H
           have c30b0 := eq_true c30
           have c30b1 : decide (x5_1.size + 1 ≤ 9223372036854775807) = true := decide_eq_true c30
           try have c30b2 : (9223372036854775807 < x5_1.size + 1) = False := eq_false (Nat.not_lt.2 c30)
           obtain rfl := Option.some.inj H
           have hnb31 := NB102_101.out
           have hnc31 := NB101_102.out
           have hcz32_0 : wr.cell? ⟨gb102, 0, none⟩ = some (.int .i64 a1_0) := (blk_cell BK102.out 0).trans rfl
           have hcz32_1 : wr.cell? ⟨gb102, 1, none⟩ = some (.int .i64 a1_1) := (blk_cell BK102.out 1).trans rfl
           have hcz32_2 : wr.cell? ⟨gb102, 2, none⟩ = some (.slice A1_2 l1_2.length c1_2) := (blk_cell BK102.out 2).trans rfl
           have hfz32_0 := blk_frozen BK102.out 0
           have hfz32_1 := blk_frozen BK102.out 1
           have hfz32_2 := blk_frozen BK102.out 2
           go_wp2
           go_ret
           exact ⟨by first | rfl | (simp [errW_none, errW_some] <;> rfl) | (simp [*, errW_none, errW_some] <;> rfl), by repeat (first | (with_reducible first | exact HB.out | apply below_alloc | apply pw_below_drewN | apply below_drew1 | refine below_set ?_ GE101.out | refine below_set ?_ GE102.out) | exact HB.out)⟩
          ·rw [if_neg c30] at H
           exact absurd H (by simp)
      ·rw [if_neg c15] at H
       exact absurd H (by simp)
     ·rw [if_neg c14] at H
      exact absurd H (by simp)
    ·rw [if_neg c13] at H
     exact absurd H (by simp)
   ·rw [if_neg c12] at H
    exact absurd H (by simp)
  ·rw [if_neg c11] at H
   exact absurd H (by simp)
end Go.Proofs.YtmdjmbdeeodehaaDoor.G
end
section
namespace Go.Proofs.YtmdjmbdeeodehaaDoor.G
open Go.RowKit Go.Proofs.YtmdjmbdeeodehaaDoorW.PrintWords Go.Proofs.YtmdjmbdeeodehaaDoorW.PrintLast Go.Proofs.YtmdjmbdeeodehaaDoorW.PrintMore
attribute [local go_sem] max2_int min2_int max_two min_two max_three min_three max_four min_four
attribute [local go_sem] Go.Proofs.YtmdjmbdeeodehaaDoorOwn.isSome_setCell
set_option linter.unusedVariables false
set_option linter.unusedSimpArgs false
def wickerlaw03_signs.l0 : Nat → List Int → List Int → Int → Int → Option (Bool)
 | 0, _, _, _, _ => none
 | k + 1, x0, x1, x12, x13 => if x13 < x12 then (if 0 ≤ x13 then (if x13 < (x0.length : Int) then (if x13 < (x1.length : Int) then (if (rd x0 x13) = (rd x1 x13) then (wickerlaw03_signs.l0 k x0 x1 x12 (wrap64 (x13 + 1))) else (some false)) else (none)) else (none)) else (none)) else (some true)
def wickerlaw03_signs.f (k : Nat) (l0 : List Int) (l1 : List Int) : Option (Bool) := if (l0.length : Int) = (l1.length : Int) then (wickerlaw03_signs.l0 k l0 l1 (l0.length : Int) 0) else (some false)
set_option maxHeartbeats 8000000 in
set_option maxRecDepth 100000 in
theorem wickerlaw03_signs.calls (k : Nat) (A0 : Option Addr) (c0 : Nat) (l0 : List Int) (A1 : Option Addr) (c1 : Nat) (l1 : List Int) (r : Bool) (w : World) (hr0 : Kd.C (Kd.int .i64) w A0 l0.length l0) (hc0 : l0.length ≤ c0) (hr1 : Kd.C (Kd.int .i64) w A1 l1.length l1) (hc1 : l1.length ≤ c1) (h : wickerlaw03_signs.f k l0 l1 = some r) :
  Calls Tryd.prog 54 #[.slice A0 l0.length c0, .slice A1 l1.length c1] w fun e w' => e = .returned (.bool r) ∧ Drawn0 w w' := by
 have HR0 := Aside0.mk hr0
 have HC0 := Aside0.mk hc0
 clear hr0 hc0
 have HR1 := Aside0.mk hr1
 have HC1 := Aside0.mk hc1
 clear hr1 hc1
 have H : (if (l0.length : Int) = (l1.length : Int) then (wickerlaw03_signs.l0 k l0 l1 (l0.length : Int) 0) else (some false)) = some r := h
 clear h
 by_cases c3 : (l0.length : Int) = (l1.length : Int)
 ·rw [if_pos c3] at H
  have c3b0 : ((l0.length : Int) == (l1.length : Int)) = true := beq_iff_eq.mpr c3
  have c3b1 : ((l0.length : Int) != (l1.length : Int)) = false := bne_eq_false_iff_eq.mpr c3
  have c3b2 : (l0.length == l1.length) = true := by first | simpa using c3 | (simp at c3 ⊢; omega)
  clear c3
  have H' := Aside0.mk H
  clear H
  go_enter Tryd.func54, Tryd.ntmps54
  go_wp2
  repeat (go_quiet (fail); try go_wp2)
  go_loopg [13] k (fun kq v13 w' => ∃ (x13_1 : Int), v13 = .int .i64 x13_1 ∧ Aside0 (wickerlaw03_signs.l0 kq l0 l1 (l0.length : Int) x13_1 = some r) ∧ Aside0 (kq ≤ k) ∧ Drawn0 w w')
  case atStart => exact ⟨(0), (by first | rfl | (simp; done) | (simp [*]; done)), H', ⟨Nat.le_refl _⟩, by repeat (first | exact Drawn0.refl _ | apply Drawn0.step)⟩
  case round =>
   clear H'
   try clear c1
   try clear p2
   try clear c3
   try clear c3b0
   try clear c3b1
   try clear c3b2
   obtain ⟨x13_1, rfl, HA, HK1, ⟨m1, rfl⟩⟩ := hrel
   cases gk with
   | zero => exact absurd HA.out (by simp [wickerlaw03_signs.l0])
   | succ k1 =>
    have H := HA.out
    clear HA
    simp only [wickerlaw03_signs.l0] at H
    by_cases c4 : x13_1 < (l0.length : Int)
    ·rw [if_pos c4] at H
     have c4b0 : decide (x13_1 < (l0.length : Int)) = true := decide_eq_true c4
     clear c4
     by_cases c5 : 0 ≤ x13_1
     ·rw [if_pos c5] at H
      have c5b0 : decide (0 ≤ x13_1) = true := decide_eq_true c5
      clear c5
      by_cases c6 : x13_1 < (l0.length : Int)
      ·rw [if_pos c6] at H
       have c6b0 : decide (x13_1 < (l0.length : Int)) = true := decide_eq_true c6
       clear c6
       by_cases c7 : x13_1 < (l1.length : Int)
       ·rw [if_pos c7] at H
        have c7b0 : decide (x13_1 < (l1.length : Int)) = true := decide_eq_true c7
        clear c7
        by_cases c8 : (rd l0 x13_1) = (rd l1 x13_1)
        ·rw [if_pos c8] at H
         have c8b0 : ((rd l0 x13_1) == (rd l1 x13_1)) = true := beq_iff_eq.mpr c8
         have c8b1 : ((rd l0 x13_1) != (rd l1 x13_1)) = false := bne_eq_false_iff_eq.mpr c8
         clear c8
         have H' := Aside0.mk H
         clear H
         have p101 : 0 ≤ (x13_1 : Int) := of_decide_eq_true (by first | (with_reducible assumption) | assumption)
         have q101 : x13_1 < (l0.length : Int) := of_decide_eq_true (by first | (with_reducible assumption) | assumption)
         obtain ⟨ad101, e101, hx101_0⟩ := Kd.at_int HR0.out x13_1 p101 q101
         cases e101
         replace p101 := eq_true p101
         replace q101 := eq_true q101
         have p102 : 0 ≤ (x13_1 : Int) := of_decide_eq_true (by first | (with_reducible assumption) | assumption)
         have q102 : x13_1 < (l1.length : Int) := of_decide_eq_true (by first | (with_reducible assumption) | assumption)
         obtain ⟨ad102, e102, hx102_0⟩ := Kd.at_int HR1.out x13_1 p102 q102
         cases e102
         replace p102 := eq_true p102
         replace q102 := eq_true q102
         go_wp2
         repeat (go_quiet (fail); try go_wp2)
         go_roundg k1
         case measure => have := HK1.out; omega
         case rel => exact ⟨(wrap64 (x13_1 + 1)), (by first | rfl | (simp; done) | (simp [*]; done)), H', ⟨by have := HK1.out; omega⟩, by repeat (first | exact Drawn0.refl _ | apply Drawn0.step)⟩
        ·rw [if_neg c8] at H
         have c8b0 : ((rd l0 x13_1) == (rd l1 x13_1)) = false := beq_eq_false_iff_ne.mpr c8
         have c8b1 : ((rd l0 x13_1) != (rd l1 x13_1)) = true := bne_iff_ne.mpr c8
         obtain rfl := Option.some.inj H
         have p101 : 0 ≤ (x13_1 : Int) := of_decide_eq_true (by first | (with_reducible assumption) | assumption)
         have q101 : x13_1 < (l0.length : Int) := of_decide_eq_true (by first | (with_reducible assumption) | assumption)
         obtain ⟨ad101, e101, hx101_0⟩ := Kd.at_int HR0.out x13_1 p101 q101
         cases e101
         replace p101 := eq_true p101
         replace q101 := eq_true q101
         have p102 : 0 ≤ (x13_1 : Int) := of_decide_eq_true (by first | (with_reducible assumption) | assumption)
         have q102 : x13_1 < (l1.length : Int) := of_decide_eq_true (by first | (with_reducible assumption) | assumption)
         obtain ⟨ad102, e102, hx102_0⟩ := Kd.at_int HR1.out x13_1 p102 q102
         cases e102
         replace p102 := eq_true p102
         replace q102 := eq_true q102
         go_wp2
         repeat (go_quiet (fail); try go_wp2)
         go_ret
         exact ⟨by first | rfl | (simp; done) | (simp [*]; done) | (exfalso; simp only [beq_iff_eq] at *; omega), by repeat (first | exact Drawn0.refl _ | apply Drawn0.step)⟩
       ·rw [if_neg c7] at H
        exact absurd H (by simp)
      ·rw [if_neg c6] at H
       exact absurd H (by simp)
     ·rw [if_neg c5] at H
      exact absurd H (by simp)
    ·rw [if_neg c4] at H
     have c4b0 : decide (x13_1 < (l0.length : Int)) = false := decide_eq_false c4
     clear c4
     obtain rfl := Option.some.inj H
     go_wp2
     repeat (go_quiet (fail); try go_wp2)
     go_ret
     exact ⟨by first | rfl | (simp; done) | (simp [*]; done) | (exfalso; simp only [beq_iff_eq] at *; omega), by repeat (first | exact Drawn0.refl _ | apply Drawn0.step)⟩
 ·rw [if_neg c3] at H
  have c3b0 : ((l0.length : Int) == (l1.length : Int)) = false := beq_eq_false_iff_ne.mpr c3
  have c3b1 : ((l0.length : Int) != (l1.length : Int)) = true := bne_iff_ne.mpr c3
  have c3b2 : (l0.length == l1.length) = false := by first | simpa using c3 | (simp at c3 ⊢; omega)
  obtain rfl := Option.some.inj H
  go_enter Tryd.func54, Tryd.ntmps54
  go_wp2
  repeat (go_quiet (fail); try go_wp2)
  go_ret
  exact ⟨by first | rfl | (simp; done) | (simp [*]; done) | (exfalso; simp only [beq_iff_eq] at *; omega), by repeat (first | exact Drawn0.refl _ | apply Drawn0.step)⟩
end Go.Proofs.YtmdjmbdeeodehaaDoor.G
end
section
set_option linter.unusedVariables false
set_option linter.unusedSimpArgs false
set_option linter.unusedSectionVars false
namespace Go.Proofs.YtmdjmbdeeodehaaDoor.G
open Go Go.Proofs Go.RowKit Go.Proofs.YtmdjmbdeeodehaaDoorW.PrintWords Go.Proofs.YtmdjmbdeeodehaaDoor.Pure
theorem rdR_toRs (ks : List TTree) (j : Nat) (h : j < ks.length) : rd_T58 (toRs ks) (j : Int) = toR ks[j] := by
  rw [rdR_at (toRs ks) j (by rw [toRs_length]; exact h)]
  simp only [toRs_map, List.getElem_map]
theorem ryield_f : ∀ (n : Nat) (t : TTree), cntT t ≤ n → cntT t ≤ 1000000 → Ev (fun k => wickerref03_Yield.f k (toR t).f0 (toR t).f1 (toR t).f2) (yieldT t) := by
  intro n
  induction n with
  | zero => intro t h; have := cntT_pos t; omega
  | succ n ih =>
    intro t hn hb
    have hct := cntT_eq t
    have hl : ∀ (d j : Nat) (x : List Int), d + j = t.f2.length → x.length + cntTs (t.f2.drop j) ≤ 1000000 → Ev (fun k => wickerref03_Yield.l0 k x (j : Int) t.f0 t.f1 (toRs t.f2)) (x ++ yieldTs (t.f2.drop j)) := by
      have htl := cntTs_len t.f2
      intro d
      induction d with
      | zero =>
        intro j x hd hx
        obtain rfl : j = t.f2.length := by omega
        refine Ev.step (f := fun _ => some x) (fun k => ?_) ?_
        · rw [wickerref03_Yield.l0, if_neg (by rw [toRs_length]; omega)]
        · rw [List.drop_length, yieldTs, List.append_nil]; exact Ev.now _
      | succ d ihd =>
        intro j x hd hx
        have hj : j < t.f2.length := by omega
        have hdr : t.f2.drop j = t.f2[j] :: t.f2.drop (j + 1) := List.drop_eq_getElem_cons hj
        rw [hdr, cntTs] at hx
        rw [hdr, yieldTs, ← List.append_assoc]
        have hm := cntTs_mem (List.getElem_mem hj)
        have hy := yieldT_len t.f2[j]
        refine Ev.step (fun k => by rw [wickerref03_Yield.l0, if_pos (by rw [toRs_length]; omega), if_pos (by omega), rdR_toRs _ j hj]) (Ev.bind (ih t.f2[j] (by omega) (by omega)) ?_)
        refine Ev.pos (by omega) ?_
        rw [w64b (by omega) (by omega), show (j : Int) + 1 = ((j + 1 : Nat) : Int) by omega]
        exact ihd (j + 1) _ (by omega) (by rw [List.length_append]; omega)
    rw [yieldT_eq]
    by_cases h0 : t.f0 < 0
    · rw [if_pos h0]
      refine Ev.step (f := fun _ => some [t.f1]) (fun k => ?_) (Ev.now _)
      rw [wickerref03_Yield.f, toR_f0, if_pos h0, toR_f1]
    · rw [if_neg h0]
      refine Ev.step (fun k => by rw [wickerref03_Yield.f, toR_f0, if_neg h0, toR_f1, toR_f2]) ?_
      have h1 := hl t.f2.length 0 [] (by omega) (by simp only [List.drop_zero, List.length_nil]; omega)
      rwa [List.drop_zero, List.nil_append] at h1
theorem signs_l0 (l : List Int) (hl : l.length ≤ 1000000) : ∀ d i : Nat, i + d = l.length → Ev (fun k => wickerlaw03_signs.l0 k l l (l.length : Int) (i : Int)) true := by
  intro d
  induction d with
  | zero =>
    intro i hi
    refine Ev.step (f := fun _ => some true) (fun k => ?_) (Ev.now _)
    rw [wickerlaw03_signs.l0, if_neg (by omega)]
  | succ d ih =>
    intro i hi
    refine Ev.step (fun k => by rw [wickerlaw03_signs.l0, if_pos (by omega), if_pos (by omega), if_pos (by omega), if_pos (by omega), if_pos rfl, w64b (by omega) (by omega), show (i : Int) + 1 = ((i + 1 : Nat) : Int) by omega]) (ih (i + 1) (by omega))
theorem signs_f (l : List Int) (hl : l.length ≤ 1000000) : Ev (fun k => wickerlaw03_signs.f k l l) true := by
  refine Ev.congr (f := fun k => wickerlaw03_signs.l0 k l l (l.length : Int) ((0 : Nat) : Int)) (fun k => ?_) (signs_l0 l hl l.length 0 (by omega))
  rw [wickerlaw03_signs.f, if_pos rfl]; rfl
mutual
def sameT : TTree → TTree → Bool
  | ⟨r, s, ks⟩, ⟨r2, s2, ks2⟩ => decide (r = r2) && (decide (s = s2) && (decide (ks.length = ks2.length) && sameTs ks ks2))
def sameTs : List TTree → List TTree → Bool
  | k :: ks, k2 :: ks2 => sameT k k2 && sameTs ks ks2
  | _, _ => true
end
theorem sameT_eq (t u : TTree) : sameT t u = (decide (t.f0 = u.f0) && (decide (t.f1 = u.f1) && (decide (t.f2.length = u.f2.length) && sameTs t.f2 u.f2))) := by cases t; cases u; simp [sameT]
mutual
theorem sameT_self : ∀ t : TTree, sameT t t = true
  | ⟨r, s, ks⟩ => by simp [sameT, sameTs_self ks]
theorem sameTs_self : ∀ l : List TTree, sameTs l l = true
  | [] => by simp [sameTs]
  | k :: ks => by simp [sameTs, sameT_self k, sameTs_self ks]
end
theorem rsame_f : ∀ (n : Nat) (t u : TTree), cntT t ≤ n → cntT t ≤ 1000000 → Ev (fun k => wickerref03_Same.f k (toR t).f0 (toR t).f1 (toR t).f2 (toR u).f0 (toR u).f1 (toR u).f2) (sameT t u) := by
  intro n
  induction n with
  | zero => intro t u h; have := cntT_pos t; omega
  | succ n ih =>
    intro t u hn hb
    have hct := cntT_eq t
    have htl := cntTs_len t.f2
    have hl : t.f2.length = u.f2.length → ∀ (d j : Nat), d + j = t.f2.length → Ev (fun k => wickerref03_Same.l0 k (j : Int) t.f0 t.f1 (toRs t.f2) u.f0 u.f1 (toRs u.f2)) (sameTs (t.f2.drop j) (u.f2.drop j)) := by
      intro hlen d
      induction d with
      | zero =>
        intro j hd
        obtain rfl : j = t.f2.length := by omega
        refine Ev.step (f := fun _ => some true) (fun k => ?_) ?_
        · rw [wickerref03_Same.l0, if_neg (by rw [toRs_length]; omega)]
        · rw [List.drop_length]; simp only [sameTs]; exact Ev.now _
      | succ d ihd =>
        intro j hd
        have hj : j < t.f2.length := by omega
        have hj2 : j < u.f2.length := by omega
        rw [List.drop_eq_getElem_cons hj, List.drop_eq_getElem_cons hj2, sameTs]
        have hm := cntTs_mem (List.getElem_mem hj)
        refine Ev.step (fun k => by rw [wickerref03_Same.l0, if_pos (by rw [toRs_length]; omega), if_pos (by omega), if_pos (by rw [toRs_length]; omega), rdR_toRs _ j hj, rdR_toRs _ j hj2]) (Ev.bind (ih t.f2[j] u.f2[j] (by omega) (by omega)) ?_)
        cases hs : sameT t.f2[j] u.f2[j] with
        | false => rw [Bool.false_and]; exact Ev.neg (by decide) (Ev.now _)
        | true =>
          rw [Bool.true_and]
          refine Ev.pos rfl ?_
          rw [w64b (by omega) (by omega), show (j : Int) + 1 = ((j + 1 : Nat) : Int) by omega]
          exact ihd (j + 1) (by omega)
    have hj0 : ∀ b : Bool, (b = false → t.f2.length = u.f2.length) → Ev (fun k => wickerref03_Same.j0 k b t.f0 t.f1 (toRs t.f2) u.f0 u.f1 (toRs u.f2)) (!b && sameTs t.f2 u.f2) := by
      intro b hbl
      cases b with
      | true => exact Ev.step (f := fun _ => some false) (fun k => by rw [wickerref03_Same.j0, if_pos rfl]) (Ev.now _)
      | false =>
        have h1 := hl (hbl rfl) t.f2.length 0 (by omega)
        rw [List.drop_zero, List.drop_zero] at h1
        refine Ev.step (f := fun k => wickerref03_Same.l0 k ((0 : Nat) : Int) t.f0 t.f1 (toRs t.f2) u.f0 u.f1 (toRs u.f2)) (fun k => ?_) (by simpa using h1)
        rw [wickerref03_Same.j0, if_neg (by decide)]; rfl
    rw [sameT_eq]
    by_cases h0 : t.f0 = u.f0
    · by_cases h1 : t.f1 = u.f1
      · refine Ev.step (f := fun k => wickerref03_Same.j0 k (((toRs t.f2).length : Int) != ((toRs u.f2).length : Int)) t.f0 t.f1 (toRs t.f2) u.f0 u.f1 (toRs u.f2)) (fun k => ?_) ?_
        · rw [wickerref03_Same.f, toR_f0, toR_f0, toR_f1, toR_f1, toR_f2, toR_f2, if_pos h0, if_pos h1]
        · rw [decide_eq_true h0, decide_eq_true h1, Bool.true_and, Bool.true_and]
          have hbb : (((toRs t.f2).length : Int) != ((toRs u.f2).length : Int)) = !decide (t.f2.length = u.f2.length) := by
            rw [toRs_length, toRs_length]
            by_cases h2 : t.f2.length = u.f2.length
            · rw [decide_eq_true h2, h2]; simp
            · rw [decide_eq_false h2]; simp only [Bool.not_false, bne_iff_ne, ne_eq]; omega
          rw [hbb]
          have h3 := hj0 (!decide (t.f2.length = u.f2.length)) (fun h => by simpa using h)
          rwa [Bool.not_not] at h3
      · rw [decide_eq_true h0, decide_eq_false h1, Bool.true_and, Bool.false_and]
        refine Ev.step (f := fun k => wickerref03_Same.j0 k true t.f0 t.f1 (toRs t.f2) u.f0 u.f1 (toRs u.f2)) (fun k => ?_) (hj0 true (fun h => by cases h))
        rw [wickerref03_Same.f, toR_f0, toR_f0, toR_f1, toR_f1, toR_f2, toR_f2, if_pos h0, if_neg h1]
    · rw [decide_eq_false h0, Bool.false_and]
      refine Ev.step (f := fun k => wickerref03_Same.j0 k true t.f0 t.f1 (toRs t.f2) u.f0 u.f1 (toRs u.f2)) (fun k => ?_) (hj0 true (fun h => by cases h))
      rw [wickerref03_Same.f, toR_f0, toR_f0, toR_f1, toR_f1, toR_f2, toR_f2, if_neg h0]
theorem check_zero2 {l0 l1 : List ByteArray} {a2 : Int} {l3 : List GRule} (h : checkC nmB mkB l0 l1 a2 l3 = 0) :
    1 ≤ l0.length ∧ l0.length ≤ 2048 ∧ l1.length ≤ 2048 ∧ l3.length ≤ 8192 ∧ 0 ≤ a2 ∧ a2 < l0.length ∧ (∀ r ∈ l3, 0 ≤ r.f0 ∧ r.f0 < l0.length ∧ r.f1.length ≤ 64 ∧ ∀ s ∈ r.f1, hasB l0.length l1.length s = true) ∧ l3.Nodup := by
  unfold checkC at h
  split at h
  · cases h
  rename_i h1
  split at h
  · cases h
  split at h
  · cases h
  split at h
  · cases h
  rename_i h4
  have hr : (∀ r ∈ l3, ruleC l0.length l1.length r = 0) ∧ l3.Nodup := by
    unfold rulesC at h
    split at h
    · rename_i r hf
      have := List.find?_some hf
      simp [h] at this
    · rename_i hf
      refine ⟨fun r hr => ?_, ?_⟩
      · have := List.find?_eq_none.1 hf r hr
        simpa using this
      · split at h
        · assumption
        · cases h
  refine ⟨by omega, by omega, by omega, by omega, by omega, by omega, fun r hm => ?_, hr.2⟩
  have h5 := hr.1 r hm
  unfold ruleC at h5
  split at h5
  · cases h5
  rename_i h6
  split at h5
  · cases h5
  rename_i h7
  have h8 : r.f1.all (hasB l0.length l1.length) = true := by
    by_cases h9 : r.f1.all (hasB l0.length l1.length) = true
    · exact h9
    · exact absurd (.inr (.inr h9)) h6
  exact ⟨by omega, by omega, by omega, fun s hs => List.all_eq_true.1 h8 s hs⟩
def sgnC (l0 l1 : List ByteArray) (s : Int) : ByteArray :=
  if s < 0 then (if -1 - s < (l1.length : Int) then ⟨(quoteL (rdOf ByteArray.empty l1 (-1 - s)).data.toList).toArray⟩ else ⟨#[]⟩)
  else if s < (l0.length : Int) then ⟨(60 :: ((rdOf ByteArray.empty l0 s).data.toList ++ [62])).toArray⟩ else ⟨#[]⟩
theorem cat_ba (a : ByteArray) (l : List UInt8) : a ++ (⟨l.toArray⟩ : ByteArray) = ⟨(a.data.toList ++ l).toArray⟩ := by
  apply ba_ext
  rw [Go.Joins.data_append]
theorem rdOf_size {l : List ByteArray} (h : ∀ s ∈ l, s.size ≤ 10000) (i : Int) : (rdOf ByteArray.empty l i).size ≤ 10000 := by
  unfold rdOf
  rw [List.getD_eq_getElem?_getD]
  cases he : l[i.toNat]? with
  | none => simp
  | some s => exact h s (List.mem_of_getElem? he)
theorem lt_size (a : ByteArray) : ((⟨#[60]⟩ : ByteArray) ++ a).size = 1 + a.size := by rw [ByteArray.size_append]; rfl
theorem lt_text (a : ByteArray) : ((⟨#[60]⟩ : ByteArray) ++ a) ++ (⟨#[62]⟩ : ByteArray) = ⟨(60 :: (a.data.toList ++ [62])).toArray⟩ := by
  apply ba_ext
  rw [Go.Joins.data_append, Go.Joins.data_append]
  simp
theorem text_some (l0 l1 : List ByteArray) (a2 : Int) (l3 : List GRule) (s : Int) (hs : symOk s = true) (h0 : ∀ x ∈ l0, x.size ≤ 10000) (h1 : ∀ x ∈ l1, x.size ≤ 10000) : gram_Grammar_Text.f l0 l1 a2 l3 s = some (sgnC l0 l1 s) := by
  have hs := of_decide_eq_true hs
  have r0 := rdOf_size h0 s
  have r1 := rdOf_size h1 (-1 - s)
  unfold gram_Grammar_Text.f gram_Grammar_has.f gram_Sym_Place.f gram_Sym_IsTerm.f sgnC
  simp only [Option.bind_some]
  by_cases hn : s < 0
  · have hw : wrap64 (-1 - s) = -1 - s := by unfold wrap64; omega
    simp only [decide_eq_true hn, if_true, Option.bind_some, hw]
    rw [if_pos hn]
    by_cases hl : -1 - s < (l1.length : Int)
    · rw [decide_eq_true hl, if_pos rfl, if_pos (by omega), if_pos hl, if_pos hl, names_Quote.f, if_pos (by omega)]; rfl
    · rw [decide_eq_false hl, if_neg (by decide), if_neg hl]
  · simp only [decide_eq_false hn, Bool.false_eq_true, if_false, Option.bind_some]
    rw [if_neg hn]
    by_cases hl : s < (l0.length : Int)
    · rw [decide_eq_true hl, if_pos rfl, if_pos (by omega), if_pos hl, if_pos hl, if_pos (by omega), if_pos (by rw [lt_size]; omega), lt_text]
    · rw [decide_eq_false hl, if_neg (by decide), if_neg hl]
theorem rtext_some (l0 l1 : List ByteArray) (a2 : Int) (m3 : List S87) (s : Int) (hs : symOk s = true) (hn1 : l1.length ≤ 1000000) (h0 : ∀ x ∈ l0, x.size ≤ 10000) (h1 : ∀ x ∈ l1, x.size ≤ 10000) : Ev (fun k => wickerref02_Text.f k l0 l1 a2 m3 s) (sgnC l0 l1 s) := by
  have hs := of_decide_eq_true hs
  have r0 := rdOf_size h0 s
  have r1 := rdOf_size h1 (-1 - s)
  have hw1 : wrap64 (-(l1.length : Int)) = -(l1.length : Int) := by unfold wrap64; omega
  have hw2 : s < 0 → wrap64 (-1 - s) = -1 - s := fun _ => by unfold wrap64; omega
  unfold sgnC
  by_cases hn : s < 0
  · rw [if_pos hn]
    by_cases hl : -1 - s < (l1.length : Int)
    · rw [if_pos hl]
      refine Ev.congr (f := fun k => (wickerref01_Quote.f k (rdOf ByteArray.empty l1 (-1 - s))).bind fun t => some t) (fun k => ?_) (Ev.bind (ref_quote_f _ (by omega)) (Ev.now _))
      unfold wickerref02_Text.f wickerref02_Has.f
      rw [if_pos (show s < (l0.length : Int) by omega), hw1, decide_eq_true (show s ≥ -(l1.length : Int) by omega)]
      simp only [Option.bind_some, if_true]
      rw [if_pos hn, hw2 hn, if_pos (by omega), if_pos hl]
    · rw [if_neg hl]
      refine Ev.congr (f := fun k => some ⟨#[]⟩) (fun k => ?_) (Ev.now _)
      unfold wickerref02_Text.f wickerref02_Has.f
      rw [if_pos (show s < (l0.length : Int) by omega), hw1, decide_eq_false (show ¬ s ≥ -(l1.length : Int) by omega)]
      simp only [Option.bind_some, Bool.false_eq_true, if_false]
  · rw [if_neg hn]
    by_cases hl : s < (l0.length : Int)
    · rw [if_pos hl]
      refine Ev.congr (f := fun k => some _) (fun k => ?_) (Ev.now _)
      unfold wickerref02_Text.f wickerref02_Has.f
      rw [if_pos hl, hw1, decide_eq_true (show s ≥ -(l1.length : Int) by omega)]
      simp only [Option.bind_some, if_true]
      rw [if_neg hn, if_pos (by omega), if_pos hl, if_pos (by omega), if_pos (by rw [lt_size]; omega), lt_text]
    · rw [if_neg hl]
      refine Ev.congr (f := fun k => some ⟨#[]⟩) (fun k => ?_) (Ev.now _)
      unfold wickerref02_Text.f wickerref02_Has.f
      rw [if_neg hl]
      simp only [Option.bind_some, Bool.false_eq_true, if_false]
def okT (l3 : List GRule) (t : TTree) : Prop := (t.f0 < 0 ∧ symOk t.f1 = true) ∨ fitT l3 t = 0
theorem fits_kids {l3 : List GRule} : ∀ (ss : List Int) (ks : List TTree), fitTs l3 ss ks = 0 → ss.length = ks.length → (∀ s ∈ ss, symOk s = true) → ∀ k ∈ ks, okT l3 k
  | _, [], _, _, _, k, hk => by cases hk
  | [], _ :: _, _, hl, _, _, _ => by simp at hl
  | s :: ss, x :: ks, h, hl, hs, k, hk => by
    simp only [fitTs] at h
    split at h
    · cases h
    rename_i h1
    have hl2 : ss.length = ks.length := by simpa using hl
    have hs2 : ∀ y ∈ ss, symOk y = true := fun y hy => hs y (List.mem_cons_of_mem _ hy)
    split at h
    · rename_i h2
      split at h
      · cases h
      rename_i h3
      rcases List.mem_cons.1 hk with rfl | hk
      · left
        have e : k.f1 = s := by
          by_cases e : k.f1 = s
          · exact e
          · exact absurd (.inl e) h3
        rw [e]
        refine ⟨?_, hs s List.mem_cons_self⟩
        have : k.f0 = -1 := by
          by_cases e : k.f0 = -1
          · exact e
          · exact absurd (.inr (.inl e)) h3
        omega
      · exact fits_kids ss ks h hl2 hs2 k hk
    · split at h
      · rename_i h4; exact absurd h h4
      rename_i h4
      split at h
      · cases h
      rcases List.mem_cons.1 hk with rfl | hk
      · exact .inr (by simpa using h4)
      · exact fits_kids ss ks h hl2 hs2 k hk
theorem fitT_node {l3 : List GRule} {t : TTree} (h : fitT l3 t = 0) : 0 ≤ t.f0 ∧ t.f0 < l3.length ∧ t.f1 = 0 ∧ (ruleAt l3 t.f0).f1.length = t.f2.length ∧ fitTs l3 (ruleAt l3 t.f0).f1 t.f2 = 0 := by
  have h1 := fitT_in h
  obtain ⟨r, s, ks⟩ := t
  simp only [fitT] at h
  split at h
  · cases h
  · split at h
    · cases h
    · rename_i h2
      exact ⟨h1.1, h1.2.1, h1.2.2, by simp only at h2 ⊢; omega, h⟩
theorem rule_mem (l3 : List GRule) (r : Int) (h0 : 0 ≤ r) (h1 : r < l3.length) : ruleAt l3 r ∈ l3 := by
  obtain ⟨n, rfl⟩ : ∃ n : Nat, r = n := ⟨r.toNat, by omega⟩
  have hn : n < l3.length := by omega
  rw [ruleAt, rd_T32, Int.toNat_natCast, List.getD_eq_getElem?_getD, List.getElem?_eq_getElem hn]
  exact List.getElem_mem hn
section
variable {l0 l1 : List ByteArray} {a2 : Int} {l3 : List GRule} (h0 : ∀ x ∈ l0, x.size ≤ 10000) (h1 : ∀ x ∈ l1, x.size ≤ 10000) (hr : ∀ r ∈ l3, 0 ≤ r.f0 ∧ r.f0 < l0.length) (hs : ∀ r ∈ l3, ∀ s ∈ r.f1, symOk s = true)
include h0 h1 hr hs
theorem txOks_of : ∀ ks : List TTree, (∀ k ∈ ks, txOk l0 l1 a2 l3 k = true) → txOks l0 l1 a2 l3 ks = true
  | [], _ => by simp [txOks]
  | k :: ks, h => by
    simp only [txOks, Bool.and_eq_true]
    exact ⟨h k List.mem_cons_self, txOks_of ks (fun x hx => h x (List.mem_cons_of_mem _ hx))⟩
theorem kids_ok {t : TTree} (h : fitT l3 t = 0) : ∀ k ∈ t.f2, okT l3 k := by
  obtain ⟨g0, g1, _, g3, g4⟩ := fitT_node h
  exact fits_kids _ _ g4 g3 (fun s hm => hs _ (rule_mem l3 t.f0 g0 g1) s hm)
theorem tx_ok : ∀ (n : Nat) (t : TTree), cntT t ≤ n → okT l3 t → txOk l0 l1 a2 l3 t = true := by
  intro n
  induction n with
  | zero => intro t h; have := cntT_pos t; omega
  | succ n ih =>
    intro t hn ht
    rw [txOk_eq]
    have hct := cntT_eq t
    rcases ht with ⟨g0, gs⟩ | g
    · rw [if_pos g0, text_some l0 l1 a2 l3 t.f1 gs h0 h1]; rfl
    · obtain ⟨g0, g1, g2, g3, g4⟩ := fitT_node g
      have hm := hr _ (rule_mem l3 t.f0 g0 g1)
      rw [if_neg (by omega), decide_eq_true g1, decide_eq_true hm, Bool.true_and, Bool.true_and]
      exact txOks_of h0 h1 hr hs t.f2 (fun k hk => ih k (by have := cntTs_mem hk; omega) (kids_ok h0 h1 hr hs g k hk))
theorem sgnC_size (s : Int) : (sgnC l0 l1 s).data.toList.length ≤ 40002 := by
  have r0 := rdOf_size h0 s
  have r1 := rdOf_size h1 (-1 - s)
  have e0 := Pure.data_length (rdOf ByteArray.empty l0 s)
  have e1 := Pure.data_length (rdOf ByteArray.empty l1 (-1 - s))
  unfold sgnC
  split
  · split
    · have := escL_le (rdOf ByteArray.empty l1 (-1 - s)).data.toList
      simp only [quoteL, List.length_cons, List.length_append, List.length_nil] at *
      omega
    · simp
  · split
    · simp only [List.length_cons, List.length_append, List.length_nil] at *
      omega
    · simp
theorem tx_lens : ∀ ks : List TTree, (∀ k ∈ ks, (txT l0 l1 a2 l3 k).length + 1 ≤ cntT k * 60000) → (txTs l0 l1 a2 l3 ks).length ≤ cntTs ks * 60000
  | [], _ => by simp [txTs]
  | k :: ks, h => by
    have h1 := h k List.mem_cons_self
    have h2 := tx_lens ks (fun x hx => h x (List.mem_cons_of_mem _ hx))
    simp only [txTs, cntTs, List.length_cons, List.length_append, Nat.add_mul]
    omega
theorem tx_len : ∀ (n : Nat) (t : TTree), cntT t ≤ n → okT l3 t → (txT l0 l1 a2 l3 t).length + 1 ≤ cntT t * 60000 := by
  intro n
  induction n with
  | zero => intro t h; have := cntT_pos t; omega
  | succ n ih =>
    intro t hn ht
    rw [txT_eq]
    have hct := cntT_eq t
    have hcp := cntT_pos t
    rcases ht with ⟨g0, gs⟩ | g
    · rw [if_pos g0, sgn, text_some l0 l1 a2 l3 t.f1 gs h0 h1, Option.getD_some]
      have := sgnC_size h0 h1 hr hs t.f1
      omega
    · obtain ⟨g0, g1, g2, g3, g4⟩ := fitT_node g
      rw [if_neg (by omega)]
      have r0 := rdOf_size h0 (ruleAt l3 t.f0).f0
      have e0 := Pure.data_length (rdOf ByteArray.empty l0 (ruleAt l3 t.f0).f0)
      have h2 := tx_lens (a2 := a2) h0 h1 hr hs t.f2 (fun k hk => ih k (by have := cntTs_mem hk; omega) (kids_ok h0 h1 hr hs g k hk))
      rw [hct]
      simp only [List.length_cons, List.length_append, List.length_nil, Nat.add_mul]
      omega
theorem rtext_f (hn1 : l1.length ≤ 1000000) (hn3 : l3.length ≤ 1000000) : ∀ (n : Nat) (t : TTree), cntT t ≤ n → cntT t ≤ 1000 → okT l3 t → Ev (fun k => wickerref03_text.f k l0 l1 a2 (l3.map ofR) (toR t).f0 (toR t).f1 (toR t).f2) ⟨(txT l0 l1 a2 l3 t).toArray⟩ := by
  intro n
  induction n with
  | zero => intro t h; have := cntT_pos t; omega
  | succ n ih =>
    intro t hn hb ht
    have hct := cntT_eq t
    have htl := cntTs_len t.f2
    rw [txT_eq]
    rcases ht with ⟨g0, gs⟩ | g
    · rw [if_pos g0, sgn, text_some l0 l1 a2 l3 t.f1 gs h0 h1, Option.getD_some]
      refine Ev.step (f := fun k => (wickerref02_Text.f k l0 l1 a2 (l3.map ofR) t.f1).bind fun x => some x) (fun k => ?_) (Ev.bind (rtext_some l0 l1 a2 (l3.map ofR) t.f1 gs hn1 h0 h1) (Ev.now _))
      rw [wickerref03_text.f, toR_f0, if_pos g0, toR_f1]
    · obtain ⟨g0, g1, g2, g3, g4⟩ := fitT_node g
      have hkid := kids_ok h0 h1 hr hs g
      have hhd := hr _ (rule_mem l3 t.f0 g0 g1)
      have hrr := rruleAt_of l3 t.f0 g0 g1
      have r0 := rdOf_size h0 (ruleAt l3 t.f0).f0
      have e0 := Pure.data_length (rdOf ByteArray.empty l0 (ruleAt l3 t.f0).f0)
      have hl : ∀ (d j : Nat) (x : List UInt8), d + j = t.f2.length → x.length + cntTs (t.f2.drop j) * 60000 ≤ 1000000000 → Ev (fun k => wickerref03_text.l0 k ⟨x.toArray⟩ (j : Int) l0 l1 a2 (l3.map ofR) t.f0 t.f1 (toRs t.f2)) ⟨(x ++ (txTs l0 l1 a2 l3 (t.f2.drop j) ++ [41])).toArray⟩ := by
        intro d
        induction d with
        | zero =>
          intro j x hd hx
          obtain rfl : j = t.f2.length := by omega
          have hsz : (⟨x.toArray⟩ : ByteArray).size = x.length := by simp [ByteArray.size]
          refine Ev.step (f := fun _ => some ((⟨x.toArray⟩ : ByteArray) ++ (⟨#[41]⟩ : ByteArray))) (fun k => ?_) ?_
          · rw [wickerref03_text.l0, if_neg (by rw [toRs_length]; omega), if_pos (by rw [hsz]; omega)]
          · rw [List.drop_length]
            have := cat_ba ⟨x.toArray⟩ [41]
            refine Ev.eq (Ev.now _) (this.trans ?_)
            simp [txTs]
        | succ d ihd =>
          intro j x hd hx
          have hj : j < t.f2.length := by omega
          have hdr : t.f2.drop j = t.f2[j] :: t.f2.drop (j + 1) := List.drop_eq_getElem_cons hj
          rw [hdr, cntTs, Nat.add_mul] at hx
          have hm := cntTs_mem (List.getElem_mem hj)
          have hlen := tx_len (a2 := a2) h0 h1 hr hs _ t.f2[j] (Nat.le_refl _) (hkid _ (List.getElem_mem hj))
          have hsz : (⟨x.toArray⟩ : ByteArray).size = x.length := by simp [ByteArray.size]
          have hc1 : (⟨x.toArray⟩ : ByteArray) ++ (⟨#[32]⟩ : ByteArray) = ⟨(x ++ [32]).toArray⟩ := cat_ba ⟨x.toArray⟩ [32]
          have hsz2 : (⟨(x ++ [32]).toArray⟩ : ByteArray).size = x.length + 1 := by simp [ByteArray.size]
          have hsz3 : (⟨(txT l0 l1 a2 l3 t.f2[j]).toArray⟩ : ByteArray).size = (txT l0 l1 a2 l3 t.f2[j]).length := by simp [ByteArray.size]
          have hc2 : (⟨(x ++ [32]).toArray⟩ : ByteArray) ++ (⟨(txT l0 l1 a2 l3 t.f2[j]).toArray⟩ : ByteArray) = ⟨(x ++ [32] ++ txT l0 l1 a2 l3 t.f2[j]).toArray⟩ := cat_ba ⟨(x ++ [32]).toArray⟩ _
          refine Ev.step (fun k => by rw [wickerref03_text.l0, if_pos (by rw [toRs_length]; omega), if_pos (by rw [hsz]; omega), if_pos (by omega), rdR_toRs _ j hj, hc1]) (Ev.bind (ih t.f2[j] (by omega) (by omega) (hkid _ (List.getElem_mem hj))) ?_)
          refine Ev.pos (by rw [hsz2, hsz3]; omega) ?_
          rw [hc2, w64b (by omega) (by omega), show (j : Int) + 1 = ((j + 1 : Nat) : Int) by omega]
          have h2 := ihd (j + 1) (x ++ [32] ++ txT l0 l1 a2 l3 t.f2[j]) (by omega) (by simp only [List.length_append, List.length_cons, List.length_nil]; omega)
          refine Ev.eq h2 ?_
          rw [hdr]
          simp [txTs]
      rw [if_neg (by omega)]
      have hc0 : (⟨#[40]⟩ : ByteArray) ++ rdOf ByteArray.empty l0 (ruleAt l3 t.f0).f0 = ⟨(40 :: (rdOf ByteArray.empty l0 (ruleAt l3 t.f0).f0).data.toList).toArray⟩ := by
        apply ba_ext
        rw [Go.Joins.data_append]
        simp
      refine Ev.step (fun k => by rw [wickerref03_text.f, toR_f0, if_neg (show ¬ t.f0 < 0 by omega), if_pos g0, if_pos (by rw [List.length_map]; exact g1), show rd_T87 (l3.map ofR) t.f0 = ofR (ruleAt l3 t.f0) from hrr, ofR_f0, if_pos hhd.1, if_pos hhd.2, if_pos (by omega), hc0, toR_f1, toR_f2]) ?_
      have h3 := hl t.f2.length 0 (40 :: (rdOf ByteArray.empty l0 (ruleAt l3 t.f0).f0).data.toList) (by omega) (by simp only [List.drop_zero, List.length_cons]; omega)
      rw [List.drop_zero] at h3
      refine Ev.eq h3 ?_
      simp
end
end Go.Proofs.YtmdjmbdeeodehaaDoor.G
end
section
set_option linter.unusedVariables false
set_option linter.unusedSimpArgs false
namespace Go.Proofs.YtmdjmbdeeodehaaDoor.G
open Go Go.Proofs Go.Proofs.YtmdjmbdeeodehaaDoor Go.RowKit Go.Proofs.YtmdjmbdeeodehaaDoorW.PrintWords Go.Proofs.YtmdjmbdeeodehaaDoorW.PrintLast Go.Proofs.YtmdjmbdeeodehaaDoorW.PrintMore Go.Proofs.YtmdjmbdeeodehaaDoor.Pure
theorem enters_tsame (u v : Value) (W : World) : Sem.run Tryd.prog (callFunc 58 #[u, v]) W = .ok (.enter 58 #[u, v]) W := by kernel_rfl
theorem tree_at {w W : World} {A : Option Addr} {l : List TTree} (h : Kd.C k55 w A l.length l) (hB : Below w.heap.size w W) (j : Nat) (hj : j < l.length) : ∃ ad B1 d1, A = some ad ∧ W.cell? (ad.add (j * 3)) = some (.int .i64 l[j].f0) ∧ W.cell? ⟨(ad.add (j * 3)).block, (ad.add (j * 3)).off + 1, none⟩ = some (.int .i64 l[j].f1) ∧ W.cell? ⟨(ad.add (j * 3)).block, (ad.add (j * 3)).off + 2, none⟩ = some (.slice B1 l[j].f2.length d1) ∧ l[j].f2.length ≤ d1 ∧ Kd.C k55 W B1 l[j].f2.length l[j].f2 := by
  obtain ⟨ad, B1, d1, e0, hx0, hx1, hx2, hl1, hi1⟩ := at_T55 (Kd.C_below h hB) (j : Int) (by omega) (by omega)
  have hrd : rd_T55 l (j : Int) = l[j] := by rw [rd_T55, Int.toNat_natCast, List.getD_eq_getElem?_getD, List.getElem?_eq_getElem hj]; rfl
  rw [hrd] at hx0 hx1 hx2 hl1 hi1
  rw [Int.toNat_natCast] at hx0 hx1 hx2
  exact ⟨ad, B1, d1, e0, hx0, hx1, hx2, hl1, hi1⟩
set_option maxHeartbeats 4000000 in
set_option maxRecDepth 100000 in
theorem eqt_calls (n : Nat) (hcalls : ∀ (t u : TTree) (T : Option Addr) (tc : Nat) (U : Option Addr) (uc : Nat) (W : World), cntT t ≤ n → cntT t ≤ 1000000 → cntT u ≤ 1000000 → t.f2.length ≤ tc → u.f2.length ≤ uc → Kd.C k55 W T t.f2.length t.f2 → Kd.C k55 W U u.f2.length u.f2 →
      Calls Tryd.prog 58 #[.agg #[.int .i64 t.f0, .int .i64 t.f1, .slice T t.f2.length tc], .agg #[.int .i64 u.f0, .int .i64 u.f1, .slice U u.f2.length uc]] W fun e w' => e = .returned (.bool (sameT t u)) ∧ Below W.heap.size W w')
    (A3 : Option Addr) (c3 : Nat) (l : List TTree) (B3 : Option Addr) (d3 : Nat) (m : List TTree) (hn : l.length ≤ 1000000) (hm : m.length ≤ 1000000) (hcn : cntTs l ≤ n ∧ cntTs l ≤ 1000000 ∧ cntTs m ≤ 1000000) (hc3 : l.length ≤ c3) (hd3 : m.length ≤ d3)
    (w : World) (hr : Kd.C k55 w A3 l.length l) (hs : Kd.C k55 w B3 m.length m) :
    Calls Tryd.prog 114 #[.slice A3 l.length c3, .slice B3 m.length d3, .func (.func 58) #[] #[]] w fun e w' => e = .returned (.bool (decide (l.length = m.length) && sameTs l m)) ∧ Below w.heap.size w w' := by
  have hu := Tryd.underlying55
  have HR := Lib.hid hr
  have HS := Lib.hid hs
  have HCN := Lib.hid hcn
  have hcall := enters_tsame
  clear hr hs hcn
  by_cases hlen : l.length = m.length
  · have e0 : ((l.length : Int) != (m.length : Int)) = false := by rw [hlen]; exact bne_self_eq_false _
    have HL := Lib.hid hlen
    rw [decide_eq_true hlen, Bool.true_and]
    obtain ⟨rr, hrr⟩ : ∃ rr, rr = sameTs l m := ⟨_, rfl⟩
    rw [← hrr]
    have HRR := Lib.hid hrr
    clear hlen hrr
    go_enter Tryd.func114, Tryd.ntmps114
    go_wp2
    clear e0
    go_loopw [17] (fun i wr => ∃ j : Nat, j ≤ l.length ∧ i = .int .i64 j ∧ Hid (rr = sameTs (l.drop j) (m.drop j)) ∧ Below w.heap.size w wr) (fun i _ => l.length - (intOf i).toNat)
    case atStart => exact ⟨0, Nat.zero_le _, rfl, Lib.hid (by simpa using HRR.out), Below.refl _ _⟩
    case round =>
      clear HRR
      obtain ⟨j, hj, rfl, HT, hB⟩ := hrel
      by_cases hjl : j < l.length
      · have hjm : j < m.length := by rw [← HL.out]; exact hjl
        obtain ⟨ad, B1, d1, e0, hy0, hy1, hy2, hl1, hi1⟩ := tree_at HR.out hB j hjl
        subst e0
        obtain ⟨r, hrj⟩ : ∃ r, r = l[j] := ⟨_, rfl⟩
        rw [← hrj] at hy0 hy1 hy2 hl1 hi1
        have hB1 : Below w.heap.size w (wr.alloc (.cells #[.int .i64 r.f0, .int .i64 r.f1, .slice B1 r.f2.length d1] 55)) := hB.alloc hB.size _
        obtain ⟨be, B2, d2, e0, hx0, hx1, hx2, hl2, hi2⟩ := tree_at HS.out hB1 j hjm
        subst e0
        obtain ⟨s, hsj⟩ : ∃ s, s = m[j] := ⟨_, rfl⟩
        rw [← hsj] at hx0 hx1 hx2 hl2 hi2
        have HCT : Hid (cntT r ≤ n ∧ cntT r ≤ 1000000 ∧ cntT s ≤ 1000000) := Lib.hid (by rw [hrj, hsj]; exact ⟨Nat.le_trans (cntTs_mem (List.getElem_mem hjl)) HCN.out.1, Nat.le_trans (cntTs_mem (List.getElem_mem hjl)) HCN.out.2.1, Nat.le_trans (cntTs_mem (List.getElem_mem hjm)) HCN.out.2.2⟩)
        have HT2 : Hid (rr = (sameT r s && sameTs (l.drop (j + 1)) (m.drop (j + 1)))) := Lib.hid (by have := HT.out; rwa [List.drop_eq_getElem_cons hjl, List.drop_eq_getElem_cons hjm, sameTs, ← hrj, ← hsj] at this)
        have hb1 := blk_alloc (blk_new wr (.cells #[.int .i64 r.f0, .int .i64 r.f1, .slice B1 r.f2.length d1] 55)) (.cells #[.int .i64 s.f0, .int .i64 s.f1, .slice B2 s.f2.length d2] 55)
        have hk0 : ((wr.alloc (.cells #[.int .i64 r.f0, .int .i64 r.f1, .slice B1 r.f2.length d1] 55)).alloc (.cells #[.int .i64 s.f0, .int .i64 s.f1, .slice B2 s.f2.length d2] 55)).cell? ⟨wr.heap.size, 0, none⟩ = some (.int .i64 r.f0) := (blk_cell hb1 0).trans rfl
        have hk1 : ((wr.alloc (.cells #[.int .i64 r.f0, .int .i64 r.f1, .slice B1 r.f2.length d1] 55)).alloc (.cells #[.int .i64 s.f0, .int .i64 s.f1, .slice B2 s.f2.length d2] 55)).cell? ⟨wr.heap.size, 1, none⟩ = some (.int .i64 r.f1) := (blk_cell hb1 1).trans rfl
        have hk2 : ((wr.alloc (.cells #[.int .i64 r.f0, .int .i64 r.f1, .slice B1 r.f2.length d1] 55)).alloc (.cells #[.int .i64 s.f0, .int .i64 s.f1, .slice B2 s.f2.length d2] 55)).cell? ⟨wr.heap.size, 2, none⟩ = some (.slice B1 r.f2.length d1) := (blk_cell hb1 2).trans rfl
        have HI1 := Lib.hid hi1
        have HI2 := Lib.hid hi2
        have HB := Lib.hid hB
        have HJ := Lib.hid hjl
        clear hb1 hi1 hi2 hB1 hrj hsj HT
        have hcs := hcall (.agg #[.int .i64 r.f0, .int .i64 r.f1, .slice B1 r.f2.length d1]) (.agg #[.int .i64 s.f0, .int .i64 s.f1, .slice B2 s.f2.length d2])
        go_wp2_with fail
        refine (hcalls r s B1 d1 B2 d2 _ HCT.out.1 HCT.out.2.1 HCT.out.2.2 hl1 hl2 (Kd.C_alloc (Kd.C_alloc HI1.out _) _) (Kd.C_alloc HI2.out _)).mono ?_
        rintro e w2 ⟨rfl, hb2⟩
        have hB2 : Below w.heap.size w w2 := ((HB.out.alloc HB.out.size _).alloc (Nat.le_trans HB.out.size (by simp)) _).trans (hb2.mono (Nat.le_trans HB.out.size (by simp; omega)))
        clear hb2 hk0 hk1 hk2 hx0 hx1 hx2 hy0 hy1 hy2 hcs HB
        cases hsm : sameT r s with
        | true =>
          have HT3 : Hid (rr = sameTs (l.drop (j + 1)) (m.drop (j + 1))) := Lib.hid (by have := HT2.out; rwa [hsm, Bool.true_and] at this)
          clear hsm HT2
          go_wp2
          go_roundw
          case rel => exact ⟨j + 1, HJ.out, by go_num, HT3, hB2⟩
          case measure => have := HJ.out; simp [intOf]; omega
        | false =>
          have HT3 : Hid (rr = false) := Lib.hid (by have := HT2.out; rwa [hsm, Bool.false_and] at this)
          clear hsm HT2
          go_wp2
          go_ret
          exact ⟨by rw [HT3.out]; rfl, hB2⟩
      · obtain rfl : j = l.length := by omega
        have HQ : Hid (rr = true) := Lib.hid (by
          have := HT.out
          rw [List.drop_length] at this
          rw [this]
          simp [sameTs])
        clear HT
        go_wp2
        go_ret
        exact ⟨by rw [HQ.out]; rfl, hB⟩
  · have e0 : ((l.length : Int) != (m.length : Int)) = true := bne_iff_ne.2 (by omega)
    rw [decide_eq_false hlen, Bool.false_and]
    clear hlen
    go_enter Tryd.func114, Tryd.ntmps114
    go_wp2
    go_ret
    exact ⟨rfl, Below.refl _ _⟩
set_option maxHeartbeats 4000000 in
set_option maxRecDepth 100000 in
theorem same_calls : ∀ (n : Nat) (t u : TTree) (T : Option Addr) (tc : Nat) (U : Option Addr) (uc : Nat) (w : World), cntT t ≤ n → cntT t ≤ 1000000 → cntT u ≤ 1000000 → t.f2.length ≤ tc → u.f2.length ≤ uc → Kd.C k55 w T t.f2.length t.f2 → Kd.C k55 w U u.f2.length u.f2 →
    Calls Tryd.prog 58 #[.agg #[.int .i64 t.f0, .int .i64 t.f1, .slice T t.f2.length tc], .agg #[.int .i64 u.f0, .int .i64 u.f1, .slice U u.f2.length uc]] w fun e w' => e = .returned (.bool (sameT t u)) ∧ Below w.heap.size w w' := by
  intro n
  induction n with
  | zero => intro t u T tc U uc w h; have := cntT_pos t; omega
  | succ n ih =>
    intro t u T tc U uc w hn ht1 hu1 htc huc ht hu
    have hu0 := Tryd.underlying55
    have hct := cntT_eq t
    have hcu := cntT_eq u
    have htl := cntTs_len t.f2
    have hul := cntTs_len u.f2
    have HEQ := Lib.hid (fun (W : World) hr hs => eqt_calls n (fun t u T tc U uc W h1 h2 h3 h4 h5 h6 h7 => ih t u T tc U uc W h1 h2 h3 h4 h5 h6 h7) T tc t.f2 U uc u.f2 (by omega) (by omega) ⟨by omega, by omega, by omega⟩ htc huc W hr hs)
    have hb0 : Below w.heap.size w ((w.alloc (.cells #[.int .i64 t.f0, .int .i64 t.f1, .slice T t.f2.length tc] 55)).alloc (.cells #[.int .i64 u.f0, .int .i64 u.f1, .slice U u.f2.length uc] 55)) := ((Below.refl _ w).alloc (Nat.le_refl _) _).alloc (by simp) _
    have hbt := blk_alloc (blk_new w (.cells #[.int .i64 t.f0, .int .i64 t.f1, .slice T t.f2.length tc] 55)) (.cells #[.int .i64 u.f0, .int .i64 u.f1, .slice U u.f2.length uc] 55)
    have hbu := blk_new (w.alloc (.cells #[.int .i64 t.f0, .int .i64 t.f1, .slice T t.f2.length tc] 55)) (.cells #[.int .i64 u.f0, .int .i64 u.f1, .slice U u.f2.length uc] 55)
    rw [show (w.alloc (.cells #[.int .i64 t.f0, .int .i64 t.f1, .slice T t.f2.length tc] 55)).heap.size = w.heap.size + 1 by simp] at hbu
    have hT := Kd.C_below ht hb0
    have hU := Kd.C_below hu hb0
    generalize hW : (w.alloc (.cells #[.int .i64 t.f0, .int .i64 t.f1, .slice T t.f2.length tc] 55)).alloc (.cells #[.int .i64 u.f0, .int .i64 u.f1, .slice U u.f2.length uc] 55) = W at hb0 hbt hbu hT hU
    have y0 : W.cell? ⟨w.heap.size, 0, none⟩ = some (.int .i64 t.f0) := (blk_cell hbt 0).trans rfl
    have y1 : W.cell? ⟨w.heap.size, 1, none⟩ = some (.int .i64 t.f1) := (blk_cell hbt 1).trans rfl
    have y2 : W.cell? ⟨w.heap.size, 2, none⟩ = some (.slice T t.f2.length tc) := (blk_cell hbt 2).trans rfl
    have x0 : W.cell? ⟨w.heap.size + 1, 0, none⟩ = some (.int .i64 u.f0) := (blk_cell hbu 0).trans rfl
    have x1 : W.cell? ⟨w.heap.size + 1, 1, none⟩ = some (.int .i64 u.f1) := (blk_cell hbu 1).trans rfl
    have x2 : W.cell? ⟨w.heap.size + 1, 2, none⟩ = some (.slice U u.f2.length uc) := (blk_cell hbu 2).trans rfl
    have HT := Lib.hid hT
    have HU := Lib.hid hU
    have HB0 := Lib.hid hb0
    have HSE := Lib.hid (sameT_eq t u)
    clear ih hn ht1 hu1 ht hu hct hcu htl hul hT hU hb0 hbt hbu
    by_cases h0 : t.f0 = u.f0
    · have h0b : (t.f0 == u.f0) = true := by rw [h0]; exact beq_self_eq_true _
      by_cases h1 : t.f1 = u.f1
      · have h1b : (t.f1 == u.f1) = true := by rw [h1]; exact beq_self_eq_true _
        have HR : Hid (sameT t u = (decide (t.f2.length = u.f2.length) && sameTs t.f2 u.f2)) := Lib.hid (by rw [HSE.out, decide_eq_true h0, decide_eq_true h1, Bool.true_and, Bool.true_and])
        clear h0 h1 HSE
        go_enter Tryd.func58, Tryd.ntmps58
        go_wp2_with fail
        (try simp only [hW])
        refine (HEQ.out _ HT.out HU.out).mono ?_
        rintro e w2 ⟨rfl, hb⟩
        rw [← HR.out]
        have HB := Lib.hid (HB0.out.trans (hb.mono HB0.out.size))
        clear hb y0 y1 y2 x0 x1 x2 hW h0b h1b
        go_wp2
        go_ret
        exact ⟨rfl, HB.out⟩
      · have h1b : (t.f1 == u.f1) = false := beq_eq_false_iff_ne.2 h1
        have HR : Hid (sameT t u = false) := Lib.hid (by rw [HSE.out, decide_eq_false h1]; simp)
        clear h0 h1 HSE HEQ
        go_enter Tryd.func58, Tryd.ntmps58
        go_wp2
        go_ret
        exact ⟨by rw [HR.out]; rfl, by first | exact HB0.out | (rw [hW]; exact HB0.out)⟩
    · have h0b : (t.f0 == u.f0) = false := beq_eq_false_iff_ne.2 h0
      have HR : Hid (sameT t u = false) := Lib.hid (by rw [HSE.out, decide_eq_false h0]; simp)
      clear h0 HSE HEQ
      go_enter Tryd.func58, Tryd.ntmps58
      go_wp2
      go_ret
      exact ⟨by rw [HR.out]; rfl, by first | exact HB0.out | (rw [hW]; exact HB0.out)⟩
end Go.Proofs.YtmdjmbdeeodehaaDoor.G
end
