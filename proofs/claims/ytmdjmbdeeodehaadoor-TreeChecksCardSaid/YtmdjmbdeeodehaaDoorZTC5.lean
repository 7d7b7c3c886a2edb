/- TreeChecks of the law03 answers true for every grammar and every list of parts: the tree that the parts build is told alike by the program and by the document (Check and Root): part 6 of 6 of its proof, packed by a program of this session out of the texts TreeA, TreeK, LTreeChecks. -/
import Derived.Test.YtmdjmbdeeodehaaDoorZTC4
import Derived.Test.YtmdjmbdeeodehaaDoorRows
import Derived.Test.YtmdjmbdeeodehaaDoorTie
import Derived.Test.YtmdjmbdeeodehaaDoorCards
import Derived.WalkKit
import Derived.ProofKit
import Derived.OpenShut
import Derived.ShutString
import Derived.ChangeOld
import Derived.ChangeVars
import Derived.ChangeSame
import Derived.JoinedOf
import Derived.Below
import Derived.SizedLaws
import Derived.Handed
import Derived.LaidLaws
import Derived.LaidHandle
import Derived.Lay
import Derived.MakeChecks
import Derived.Stop.Joined
import Derived.SevenTiedAt
section
set_option linter.unusedVariables false
set_option linter.unusedSimpArgs false
namespace Go.Proofs.YtmdjmbdeeodehaaDoor.G
open Go Go.Proofs Go.Proofs.YtmdjmbdeeodehaaDoor Go.RowKit Go.Proofs.YtmdjmbdeeodehaaDoorW.PrintWords Go.Proofs.YtmdjmbdeeodehaaDoorW.PrintLast Go.Proofs.YtmdjmbdeeodehaaDoorW.PrintMore Go.Proofs.YtmdjmbdeeodehaaDoor.Pure
abbrev ex0 : List ByteArray := [⟨#[83]⟩]
abbrev ex1 : List ByteArray := [⟨#[97]⟩]
abbrev ex3 : List GRule := [⟨0, [-1, 0]⟩, ⟨0, []⟩]
abbrev exK : List TTree := [⟨-1, -1, []⟩, ⟨1, 0, []⟩]
abbrev exT : TTree := ⟨0, 0, exK⟩
abbrev exS : ByteArray := ⟨#[40, 83, 32, 34, 97, 34, 32, 40, 83, 41, 41]⟩
theorem ex_ok : gramOk ex0 ex1 0 ex3 = true := by kernel_rfl
theorem ex_check : treeC ex0 ex1 0 ex3 exT = 0 := by kernel_rfl
theorem ex_root : rootC ex0 ex1 0 ex3 exT = 0 := by kernel_rfl
theorem ex_tx : txOk ex0 ex1 0 ex3 exT = true := by kernel_rfl
theorem ex_text : (⟨(txT ex0 ex1 0 ex3 exT).toArray⟩ : ByteArray) = exS := by kernel_rfl
theorem ex_yield : (yieldT exT).length = 1 := by kernel_rfl
theorem ex_len : (txT ex0 ex1 0 ex3 exT).length = 11 := by kernel_rfl
structure InA (w : World) (g tb : Nat) (A0 : Option Addr) (c0 : Nat) (A1 : Option Addr) (c1 : Nat) (A3 : Option Addr) (c3 : Nat) (T : Option Addr) (tc : Nat) (W : World) : Prop where
  bel : Below w.heap.size w W
  gb : W.heap[g]? = some (.cells #[.slice A0 1 c0, .slice A1 1 c1, .int .i64 0, .slice A3 2 c3] 25 (0, 0))
  r0 : Kd.C Kd.string W A0 1 ex0
  r1 : Kd.C Kd.string W A1 1 ex1
  r3 : Kd.C k32 W A3 2 ex3
  tr : Kd.C k55 W T 2 exK
  tb_ : W.heap[tb]? = some (.cells #[.int .i64 0, .int .i64 0, .slice T 2 tc] 55 (0, 0))
theorem InA.step {w : World} {g tb : Nat} {A0 : Option Addr} {c0 : Nat} {A1 : Option Addr} {c1 : Nat} {A3 : Option Addr} {c3 : Nat} {T : Option Addr} {tc : Nat} {W W' : World} (h : InA w g tb A0 c0 A1 c1 A3 c3 T tc W) (hb : Below W.heap.size W W') : InA w g tb A0 c0 A1 c1 A3 c3 T tc W' :=
  ⟨h.bel.trans (hb.mono h.bel.size), blk_below h.gb hb, Kd.C_below h.r0 hb, Kd.C_below h.r1 hb, Kd.C_below h.r3 hb, Kd.C_below h.tr hb, blk_below h.tb_ hb⟩
set_option maxHeartbeats 8000000 in
set_option maxRecDepth 100000 in
theorem awake3_calls (w : World) (hG : Laid w) : Calls Tryd.prog 28 #[] w fun e w' => e = .returned (.bool true) ∧ Below w.heap.size w w' := by
  have hu := Tryd.underlying25
  have hu2 := Tryd.underlying55
  obtain ⟨KA, hKA⟩ := Pure.Ev.out awake2
  have HAW := Lib.hid (hKA KA (Nat.le_refl _))
  have HG := Lib.hid hG
  clear hKA hG
  go_enter Tryd.func28, Tryd.ntmps28
  go_wp2_with fail
  refine (wickerlaw02_Example.calls ex0 ex1 0 ex3 _ rfl).mono ?_
  rintro e w1 ⟨v0, v1, v3, rfl, h0, h1, h3, hb1⟩
  obtain ⟨A0, c0, rfl, l0, r0⟩ := Kd.R_reads h0
  obtain ⟨A1, c1, rfl, l1, r1⟩ := Kd.R_reads h1
  obtain ⟨A3, c3, rfl, l3, r3⟩ := Kd.N_reads h3
  replace l0 : 1 ≤ c0 := l0
  replace l1 : 1 ≤ c1 := l1
  replace l3 : 2 ≤ c3 := l3
  replace r0 : Kd.C Kd.string w1 A0 1 ex0 := r0
  replace r1 : Kd.C Kd.string w1 A1 1 ex1 := r1
  replace r3 : Kd.C k32 w1 A3 2 ex3 := r3
  simp only [show List.length ex0 = 1 from rfl, show List.length ex1 = 1 from rfl, show List.length ex3 = 2 from rfl]
  clear h0 h1 h3
  have hbg : Below w1.heap.size w1 (w1.alloc (.cells #[.slice A0 1 c0, .slice A1 1 c1, .int .i64 0, .slice A3 2 c3] 25)) := (Below.refl _ _).alloc (Nat.le_refl _) _
  have HR0 := Lib.hid r0
  have HR1 := Lib.hid r1
  have HR3 := Lib.hid r3
  have HB1 := Lib.hid hb1
  have HBG := Lib.hid hbg
  have HL := Lib.hid (And.intro l0 (And.intro l1 l3))
  have HGB := Lib.hid (blk_new w1 (.cells #[.slice A0 1 c0, .slice A1 1 c1, .int .i64 0, .slice A3 2 c3] 25))
  clear r0 r1 r3 hb1 hbg l0 l1 l3
  go_wp2_with fail
  refine (leaf_calls (-1) _).mono ?_
  rintro e w2 ⟨rfl, hb2⟩
  have HB2 := Lib.hid hb2
  clear hb2
  go_wp2_with fail
  refine (node_calls 1 none 0 [] (by decide) (Nat.le_refl _) _ (AppC.C_empty _ _ _)).mono ?_
  rintro e w3 ⟨N1, d1, rfl, hd1, hN1, hb3⟩
  have HN1 := Lib.hid hN1
  have HB3 := Lib.hid hb3
  have HD1 := Lib.hid hd1
  clear hN1 hb3 hd1
  have HRW : Hid (Kd.C k55 (w3.alloc (.cells #[.int .i64 (-1), .int .i64 (-1), .slice none 0 0, .int .i64 1, .int .i64 0, .slice N1 0 d1] 55)) (some ⟨w3.heap.size, 0, none⟩) 2 exK) := Lib.hid (AppC.lit_C k55 w3 55 exK [.int .i64 (-1), .int .i64 (-1), .slice none 0 0, .int .i64 1, .int .i64 0, .slice N1 0 d1]
    (Reps.c3 (k55_mk w3 ⟨-1, -1, []⟩ (A2 := none) (c2 := 0) (Nat.le_refl _) (AppC.C_empty _ _ _)) (Reps.c3 (k55_mk w3 ⟨1, 0, []⟩ (A2 := N1) (c2 := d1) HD1.out HN1.out) (Reps.none _ _))) (by decide))
  clear HN1 HD1
  go_wp2_with fail
  refine (node_calls 0 (some ⟨w3.heap.size, 0, none⟩) 2 exK (by decide) (Nat.le_refl _) _ HRW.out).mono ?_
  rintro e w4 ⟨T, tc, rfl, htc, hT, hb4⟩
  simp only [show List.length exK = 2 from rfl]
  replace htc : 2 ≤ tc := htc
  have hbs : Below (w1.alloc (.cells #[.slice A0 1 c0, .slice A1 1 c1, .int .i64 0, .slice A3 2 c3] 25)).heap.size (w1.alloc (.cells #[.slice A0 1 c0, .slice A1 1 c1, .int .i64 0, .slice A3 2 c3] 25)) w4 := by
    have h2 := HB2.out
    have h3 := h2.trans (HB3.out.mono h2.size)
    have h4 := h3.alloc h3.size (.cells #[.int .i64 (-1), .int .i64 (-1), .slice none 0 0, .int .i64 1, .int .i64 0, .slice N1 0 d1] 55)
    exact h4.trans (hb4.mono h4.size)
  have hb5 : Below w4.heap.size w4 (w4.alloc (.cells #[.int .i64 0, .int .i64 0, .slice T 2 tc] 55)) := (Below.refl _ _).alloc (Nat.le_refl _) _
  have hba := hbs.trans (hb5.mono hbs.size)
  have hbb := HBG.out.trans (hba.mono HBG.out.size)
  have HI := Lib.hid (InA.mk (w := w) (g := w1.heap.size) (tb := w4.heap.size) (tc := tc) (HB1.out.trans (hbb.mono HB1.out.size)) (blk_below HGB.out hba) (Kd.C_below HR0.out hbb) (Kd.C_below HR1.out hbb) (Kd.C_below HR3.out hbb) (Kd.C_below hT hb5) (blk_new w4 _))
  obtain ⟨l0, l1, l3⟩ := HL.out
  clear hbs hb5 hba hbb hT hb4 HRW HB2 HB3 HB1 HBG HGB HR0 HR1 HR3 HL
  go_wp2_with fail
  generalize hg : w1.heap.size = g at *
  generalize ht : w4.heap.size = tb at *
  generalize hw5 : w4.alloc (.cells #[.int .i64 0, .int .i64 0, .slice T 2 tc] 55) = w5 at *
  clear hg ht hw5
  refine (wickerlaw02_Awake.calls KA true _ (Laid.below HG.out HI.out.bel) HAW.out).mono ?_
  rintro e w6 ⟨rfl, hb6⟩
  have hI6 := HI.out.step hb6
  have q0 : w6.cell? ⟨g, 0, none⟩ = some (.slice A0 1 c0) := (blk_cell hI6.gb 0).trans rfl
  have q1 : w6.cell? ⟨g, 1, none⟩ = some (.slice A1 1 c1) := (blk_cell hI6.gb 1).trans rfl
  have q2 : w6.cell? ⟨g, 2, none⟩ = some (.int .i64 0) := (blk_cell hI6.gb 2).trans rfl
  have q3 : w6.cell? ⟨g, 3, none⟩ = some (.slice A3 2 c3) := (blk_cell hI6.gb 3).trans rfl
  have x0 : w6.cell? ⟨tb, 0, none⟩ = some (.int .i64 0) := (blk_cell hI6.tb_ 0).trans rfl
  have x1 : w6.cell? ⟨tb, 1, none⟩ = some (.int .i64 0) := (blk_cell hI6.tb_ 1).trans rfl
  have x2 : w6.cell? ⟨tb, 2, none⟩ = some (.slice T 2 tc) := (blk_cell hI6.tb_ 2).trans rfl
  have HI6 := Lib.hid hI6
  clear hI6 hb6 HI
  go_wp2_with fail
  refine (treeRoot_calls A0 c0 ex0 A1 c1 ex1 0 A3 c3 ex3 ex_ok l0 l1 l3 exT T tc htc (by decide) (by decide) _ (Laid.below HG.out HI6.out.bel) HI6.out.r0 HI6.out.r1 HI6.out.r3 HI6.out.tr).mono ?_
  rintro e w7 ⟨rfl, hb7⟩
  rw [ex_root]
  have hI7 := HI6.out.step hb7
  clear q0 q1 q2 q3 x0 x1 x2
  have q0 : w7.cell? ⟨g, 0, none⟩ = some (.slice A0 1 c0) := (blk_cell hI7.gb 0).trans rfl
  have q1 : w7.cell? ⟨g, 1, none⟩ = some (.slice A1 1 c1) := (blk_cell hI7.gb 1).trans rfl
  have q2 : w7.cell? ⟨g, 2, none⟩ = some (.int .i64 0) := (blk_cell hI7.gb 2).trans rfl
  have q3 : w7.cell? ⟨g, 3, none⟩ = some (.slice A3 2 c3) := (blk_cell hI7.gb 3).trans rfl
  have x0 : w7.cell? ⟨tb, 0, none⟩ = some (.int .i64 0) := (blk_cell hI7.tb_ 0).trans rfl
  have x1 : w7.cell? ⟨tb, 1, none⟩ = some (.int .i64 0) := (blk_cell hI7.tb_ 1).trans rfl
  have x2 : w7.cell? ⟨tb, 2, none⟩ = some (.slice T 2 tc) := (blk_cell hI7.tb_ 2).trans rfl
  have HI7 := Lib.hid hI7
  clear hI7 hb7 HI6
  go_wp2_with fail
  refine (text_calls A0 c0 ex0 A1 c1 ex1 0 A3 c3 ex3 ex_ok l0 l1 l3 exT T tc htc (by decide) (by decide) (fun _ => ⟨ex_tx, by rw [ex_len]; decide⟩) _ (Laid.below HG.out HI7.out.bel) HI7.out.r0 HI7.out.r1 HI7.out.r3 HI7.out.tr).mono ?_
  rintro e w8 ⟨rfl, hb8⟩
  rw [if_pos ex_check, ex_text]
  have hI8 := HI7.out.step hb8
  clear q0 q1 q2 q3 x0 x1 x2
  have x0 : w8.cell? ⟨tb, 0, none⟩ = some (.int .i64 0) := (blk_cell hI8.tb_ 0).trans rfl
  have x1 : w8.cell? ⟨tb, 1, none⟩ = some (.int .i64 0) := (blk_cell hI8.tb_ 1).trans rfl
  have x2 : w8.cell? ⟨tb, 2, none⟩ = some (.slice T 2 tc) := (blk_cell hI8.tb_ 2).trans rfl
  have HI8 := Lib.hid hI8
  clear hI8 hb8 HI7
  go_wp2_with fail
  refine (yield_calls exT (by decide) T tc htc _ HI8.out.tr).mono ?_
  rintro e w9 ⟨v, rfl, hv, hb9⟩
  obtain ⟨Y, yc, rfl⟩ := Kd.R_slice hv
  rw [ex_yield]
  have HB9 := Lib.hid (HI8.out.step hb9).bel
  clear x0 x1 x2 hv hb9 HI8
  go_wp2
  go_ret
  exact ⟨rfl, HB9.out⟩
end Go.Proofs.YtmdjmbdeeodehaaDoor.G
end
section
set_option linter.unusedVariables false
set_option linter.unusedSimpArgs false
namespace Go.Proofs.YtmdjmbdeeodehaaDoor.G
open Go Go.Proofs Go.Proofs.YtmdjmbdeeodehaaDoor Go.RowKit Go.Proofs.YtmdjmbdeeodehaaDoorW.PrintWords Go.Proofs.YtmdjmbdeeodehaaDoorW.PrintLast Go.Proofs.YtmdjmbdeeodehaaDoorW.PrintMore Go.Proofs.YtmdjmbdeeodehaaDoor.Pure
theorem of_calls3 (A0 : Option Addr) (c0 : Nat) (l0 : List ByteArray) (A1 : Option Addr) (c1 : Nat) (l1 : List ByteArray) (a2 : Int) (A3 : Option Addr) (c3 : Nat) (l3 : List GRule) (hn : l3.length ≤ 1000000) (hok : l3.all ruleOk = true) (w : World) (hr3 : Kd.C k32 w A3 l3.length l3) :
    Calls Tryd.prog 30 #[.agg #[.slice A0 l0.length c0, .slice A1 l1.length c1, .int .i64 a2, .slice A3 l3.length c3]] w fun e w' => ∃ Ao co, e = .returned (.agg #[.slice A0 l0.length c0, .slice A1 l1.length c1, .int .i64 a2, .slice Ao l3.length co]) ∧ Kd.C k87 w' Ao l3.length (l3.map ofR) ∧ l3.length ≤ co ∧ Below w.heap.size w w' := by
  refine (of_calls A0 c0 l0 A1 c1 l1 a2 A3 c3 l3 hn hok w hr3).mono ?_
  rintro e w' ⟨v3, rfl, hrow, hb⟩
  obtain ⟨Ao, co, rfl, hco, hC⟩ := Kd.R_reads hrow
  rw [List.length_map] at hco hC ⊢
  exact ⟨Ao, co, rfl, hC, hco, hb⟩
theorem cntTs_app : ∀ a b : List TTree, cntTs (a ++ b) = cntTs a + cntTs b
  | [], b => by simp [cntTs]
  | x :: a, b => by simp only [List.cons_append, cntTs, cntTs_app a b]; omega
theorem bAll_cnt : ∀ (l : List SPart) (st : List TTree), cntTs (bAll l st) = cntTs st + l.length
  | [], st => by simp [bAll]
  | p :: l, st => by
    rw [bAll, bAll_cnt l, bStep, cntTs_app]
    have h := cntTs_app (st.take (st.length - bkN st.length p)) (st.drop (st.length - bkN st.length p))
    rw [List.take_append_drop] at h
    simp only [cntTs, cntT, List.length_cons]
    omega
theorem bAll_sym : ∀ (l : List SPart) (st : List TTree), (∀ p ∈ l, symOk p.f1 = true) → (∀ t ∈ st, symOk t.f1 = true) → ∀ t ∈ bAll l st, symOk t.f1 = true
  | [], st, _, h, t, ht => h t ht
  | p :: l, st, hp, h, t, ht => by
    refine bAll_sym l (bStep st p) (fun q hq => hp q (List.mem_cons_of_mem _ hq)) (fun u hu => ?_) t ht
    rcases List.mem_append.1 hu with h1 | h1
    · exact h u (List.mem_of_mem_take h1)
    · rw [List.mem_singleton] at h1
      rw [h1]
      exact hp p List.mem_cons_self
set_option maxHeartbeats 2000000 in
theorem build_any (Pp : Option Addr) (pc : Nat) (l : List SPart) (hl : l.length ≤ 1000) (hs : ∀ p ∈ l, symOk p.f1 = true) (w : World) (hr : Kd.C k157 w Pp l.length l) :
    Calls Tryd.prog 29 #[.slice Pp l.length pc] w fun e w' => ∃ (t : TTree) (T : Option Addr) (tc : Nat) (R : Option Addr) (rc : Nat), cntT t ≤ 1000 ∧ symOk t.f1 = true ∧ e = .returned (.tuple #[.agg #[.int .i64 t.f0, .int .i64 t.f1, .slice T t.f2.length tc], .agg #[.int .i64 (toR t).f0, .int .i64 (toR t).f1, .slice R (toR t).f2.length rc]]) ∧ (Kd.C k55 w' T t.f2.length t.f2 ∧ t.f2.length ≤ tc) ∧ (Kd.C k58 w' R (toR t).f2.length (toR t).f2 ∧ (toR t).f2.length ≤ rc) ∧ Below w.heap.size w w' := by
  by_cases hne : bAll l [] = []
  · obtain ⟨rfl, -⟩ := bAll_nil _ _ hne
    refine (build_none Pp pc w).mono ?_
    rintro e w' ⟨rfl, hb⟩
    exact ⟨⟨-1, -1, []⟩, none, 0, none, 0, by decide, by decide, by simp [toR, toRs], ⟨AppC.C_empty _ _ _, Nat.le_refl _⟩, ⟨AppC.C_empty _ _ _, Nat.le_refl _⟩, hb⟩
  · refine (build_calls Pp pc l hl w hr _ rfl hne).mono ?_
    rintro e w' ⟨t, T, tc, R, rc, ht, rfl, h1, h2, hb⟩
    have hm := List.mem_of_getLast? ht
    have hc := cntTs_mem hm
    rw [bAll_cnt] at hc
    exact ⟨t, T, tc, R, rc, by simp only [cntTs] at hc; omega, bAll_sym l [] hs (fun _ h => by cases h) t hm, rfl, h1, h2, hb⟩
theorem rtreeCheck_calls3 (A0 : Option Addr) (c0 : Nat) (l0 : List ByteArray) (A1 : Option Addr) (c1 : Nat) (l1 : List ByteArray) (a2 : Int) (Ao : Option Addr) (co : Nat) (l3 : List GRule) (hok : gramOk l0 l1 a2 l3 = true) (h0 : l0.length ≤ c0) (h1 : l1.length ≤ c1) (h3 : l3.length ≤ co) (t : TTree) (T : Option Addr) (tc : Nat) (htc : (toR t).f2.length ≤ tc) (hcnt : cntT t ≤ 1000000)
    (w : World) (hr0 : Kd.C Kd.string w A0 l0.length l0) (hr1 : Kd.C Kd.string w A1 l1.length l1) (hm : Kd.C k87 w Ao l3.length (l3.map ofR)) (ht : Kd.C k58 w T (toR t).f2.length (toR t).f2) :
    Calls Tryd.prog 32 #[.agg #[.slice A0 l0.length c0, .slice A1 l1.length c1, .int .i64 a2, .slice Ao l3.length co], .agg #[.int .i64 (toR t).f0, .int .i64 (toR t).f1, .slice T (toR t).f2.length tc]] w fun e w' => e = .returned (.int .i64 (treeC l0 l1 a2 l3 t)) ∧ Below w.heap.size w w' := by
  have h := rtreeCheck_calls A0 c0 l0 A1 c1 l1 a2 Ao co l3 hok h0 h1 (by rw [List.length_map]; exact h3) t (toR t) rfl T tc htc hcnt w hr0 hr1 (by rw [List.length_map]; exact hm) ht
  rwa [List.length_map] at h
theorem rtreeRoot_calls3 (A0 : Option Addr) (c0 : Nat) (l0 : List ByteArray) (A1 : Option Addr) (c1 : Nat) (l1 : List ByteArray) (a2 : Int) (Ao : Option Addr) (co : Nat) (l3 : List GRule) (hok : gramOk l0 l1 a2 l3 = true) (h0 : l0.length ≤ c0) (h1 : l1.length ≤ c1) (h3 : l3.length ≤ co) (t : TTree) (T : Option Addr) (tc : Nat) (htc : (toR t).f2.length ≤ tc) (hcnt : cntT t ≤ 1000000)
    (w : World) (hr0 : Kd.C Kd.string w A0 l0.length l0) (hr1 : Kd.C Kd.string w A1 l1.length l1) (hm : Kd.C k87 w Ao l3.length (l3.map ofR)) (ht : Kd.C k58 w T (toR t).f2.length (toR t).f2) :
    Calls Tryd.prog 34 #[.agg #[.slice A0 l0.length c0, .slice A1 l1.length c1, .int .i64 a2, .slice Ao l3.length co], .agg #[.int .i64 (toR t).f0, .int .i64 (toR t).f1, .slice T (toR t).f2.length tc]] w fun e w' => e = .returned (.int .i64 (rootC l0 l1 a2 l3 t)) ∧ Below w.heap.size w w' := by
  have h := rtreeRoot_calls A0 c0 l0 A1 c1 l1 a2 Ao co l3 hok h0 h1 (by rw [List.length_map]; exact h3) t (toR t) rfl T tc htc hcnt w hr0 hr1 (by rw [List.length_map]; exact hm) ht
  rwa [List.length_map] at h
structure InE (w : World) (A0 : Option Addr) (c0 : Nat) (l0 : List ByteArray) (A1 : Option Addr) (c1 : Nat) (l1 : List ByteArray) (a2 : Int) (A3 : Option Addr) (c3 : Nat) (l3 : List GRule) (Ao : Option Addr) (co : Nat) (tb rb hb_ : Nat) (t : TTree) (T : Option Addr) (tc : Nat) (R : Option Addr) (rc : Nat) (W : World) : Prop where
  bel : Below w.heap.size w W
  gb : W.heap[w.heap.size]? = some (.cells #[.slice A0 l0.length c0, .slice A1 l1.length c1, .int .i64 a2, .slice A3 l3.length c3] 25 (0, 0))
  tb' : W.heap[tb]? = some (.cells #[.int .i64 t.f0, .int .i64 t.f1, .slice T t.f2.length tc] 55 (0, 0))
  rb' : W.heap[rb]? = some (.cells #[.int .i64 (toR t).f0, .int .i64 (toR t).f1, .slice R (toR t).f2.length rc] 58 (0, 0))
  hb' : W.heap[hb_]? = some (.cells #[.slice A0 l0.length c0, .slice A1 l1.length c1, .int .i64 a2, .slice Ao l3.length co] 63 (0, 0))
  r0 : Kd.C Kd.string W A0 l0.length l0
  r1 : Kd.C Kd.string W A1 l1.length l1
  r3 : Kd.C k32 W A3 l3.length l3
  ro : Kd.C k87 W Ao l3.length (l3.map ofR)
  tr : Kd.C k55 W T t.f2.length t.f2
  rr : Kd.C k58 W R (toR t).f2.length (toR t).f2
section
variable {w : World} {A0 : Option Addr} {c0 : Nat} {l0 : List ByteArray} {A1 : Option Addr} {c1 : Nat} {l1 : List ByteArray} {a2 : Int} {A3 : Option Addr} {c3 : Nat} {l3 : List GRule} {Ao : Option Addr} {co : Nat} {tb rb hb_ : Nat} {t : TTree} {T : Option Addr} {tc : Nat} {R : Option Addr} {rc : Nat} {W W' : World}
theorem InE.step (h : InE w A0 c0 l0 A1 c1 l1 a2 A3 c3 l3 Ao co tb rb hb_ t T tc R rc W) (hb : Below W.heap.size W W') : InE w A0 c0 l0 A1 c1 l1 a2 A3 c3 l3 Ao co tb rb hb_ t T tc R rc W' := ⟨h.bel.trans (hb.mono h.bel.size), blk_below h.gb hb, blk_below h.tb' hb, blk_below h.rb' hb, blk_below h.hb' hb, Kd.C_below h.r0 hb, Kd.C_below h.r1 hb, Kd.C_below h.r3 hb, Kd.C_below h.ro hb, Kd.C_below h.tr hb, Kd.C_below h.rr hb⟩
theorem InE.drew (h : InE w A0 c0 l0 A1 c1 l1 a2 A3 c3 l3 Ao co tb rb hb_ t T tc R rc W) : InE w A0 c0 l0 A1 c1 l1 a2 A3 c3 l3 Ao co tb rb hb_ t T tc R rc W.drew := h.step (below_drew (Below.refl _ _))
theorem InE.g0 (h : InE w A0 c0 l0 A1 c1 l1 a2 A3 c3 l3 Ao co tb rb hb_ t T tc R rc W) : W.cell? ⟨w.heap.size, 0, none⟩ = some (.slice A0 l0.length c0) := (blk_cell h.gb 0).trans rfl
theorem InE.g1 (h : InE w A0 c0 l0 A1 c1 l1 a2 A3 c3 l3 Ao co tb rb hb_ t T tc R rc W) : W.cell? ⟨w.heap.size, 1, none⟩ = some (.slice A1 l1.length c1) := (blk_cell h.gb 1).trans rfl
theorem InE.g2 (h : InE w A0 c0 l0 A1 c1 l1 a2 A3 c3 l3 Ao co tb rb hb_ t T tc R rc W) : W.cell? ⟨w.heap.size, 2, none⟩ = some (.int .i64 a2) := (blk_cell h.gb 2).trans rfl
theorem InE.g3 (h : InE w A0 c0 l0 A1 c1 l1 a2 A3 c3 l3 Ao co tb rb hb_ t T tc R rc W) : W.cell? ⟨w.heap.size, 3, none⟩ = some (.slice A3 l3.length c3) := (blk_cell h.gb 3).trans rfl
theorem InE.t0 (h : InE w A0 c0 l0 A1 c1 l1 a2 A3 c3 l3 Ao co tb rb hb_ t T tc R rc W) : W.cell? ⟨tb, 0, none⟩ = some (.int .i64 t.f0) := (blk_cell h.tb' 0).trans rfl
theorem InE.t1 (h : InE w A0 c0 l0 A1 c1 l1 a2 A3 c3 l3 Ao co tb rb hb_ t T tc R rc W) : W.cell? ⟨tb, 1, none⟩ = some (.int .i64 t.f1) := (blk_cell h.tb' 1).trans rfl
theorem InE.t2 (h : InE w A0 c0 l0 A1 c1 l1 a2 A3 c3 l3 Ao co tb rb hb_ t T tc R rc W) : W.cell? ⟨tb, 2, none⟩ = some (.slice T t.f2.length tc) := (blk_cell h.tb' 2).trans rfl
theorem InE.s0 (h : InE w A0 c0 l0 A1 c1 l1 a2 A3 c3 l3 Ao co tb rb hb_ t T tc R rc W) : W.cell? ⟨rb, 0, none⟩ = some (.int .i64 (toR t).f0) := (blk_cell h.rb' 0).trans rfl
theorem InE.s1 (h : InE w A0 c0 l0 A1 c1 l1 a2 A3 c3 l3 Ao co tb rb hb_ t T tc R rc W) : W.cell? ⟨rb, 1, none⟩ = some (.int .i64 (toR t).f1) := (blk_cell h.rb' 1).trans rfl
theorem InE.s2 (h : InE w A0 c0 l0 A1 c1 l1 a2 A3 c3 l3 Ao co tb rb hb_ t T tc R rc W) : W.cell? ⟨rb, 2, none⟩ = some (.slice R (toR t).f2.length rc) := (blk_cell h.rb' 2).trans rfl
theorem InE.h0 (h : InE w A0 c0 l0 A1 c1 l1 a2 A3 c3 l3 Ao co tb rb hb_ t T tc R rc W) : W.cell? ⟨hb_, 0, none⟩ = some (.slice A0 l0.length c0) := (blk_cell h.hb' 0).trans rfl
theorem InE.h1 (h : InE w A0 c0 l0 A1 c1 l1 a2 A3 c3 l3 Ao co tb rb hb_ t T tc R rc W) : W.cell? ⟨hb_, 1, none⟩ = some (.slice A1 l1.length c1) := (blk_cell h.hb' 1).trans rfl
theorem InE.h2 (h : InE w A0 c0 l0 A1 c1 l1 a2 A3 c3 l3 Ao co tb rb hb_ t T tc R rc W) : W.cell? ⟨hb_, 2, none⟩ = some (.int .i64 a2) := (blk_cell h.hb' 2).trans rfl
theorem InE.h3 (h : InE w A0 c0 l0 A1 c1 l1 a2 A3 c3 l3 Ao co tb rb hb_ t T tc R rc W) : W.cell? ⟨hb_, 3, none⟩ = some (.slice Ao l3.length co) := (blk_cell h.hb' 3).trans rfl
end
set_option maxHeartbeats 16000000 in
set_option maxRecDepth 100000 in
theorem treeChecks_calls (w : World) (hG : Laid w) (A0 : Option Addr) (c0 : Nat) (l0 : List ByteArray) (A1 : Option Addr) (c1 : Nat) (l1 : List ByteArray) (a2 : Int) (A3 : Option Addr) (c3 : Nat) (l3 : List GRule) (hg : GIn l0 l1 a2 l3) (h0 : l0.length ≤ c0) (h1 : l1.length ≤ c1) (h3 : l3.length ≤ c3)
    (hr0 : Kd.C Kd.string w A0 l0.length l0) (hr1 : Kd.C Kd.string w A1 l1.length l1) (hr3 : Kd.C k32 w A3 l3.length l3) (ps : List SPart) (Pp : Option Addr) (pc : Nat) (hps : ∀ p ∈ ps, symOk p.f0 = true ∧ symOk p.f1 = true ∧ symOk p.f2 = true) (hpc : ps.length ≤ pc) (hrp : Kd.C k157 w Pp ps.length ps) :
    Calls Tryd.prog 4 #[.agg #[.slice A0 l0.length c0, .slice A1 l1.length c1, .int .i64 a2, .slice A3 l3.length c3], .slice Pp ps.length pc] w fun e w' => e = .returned (.bool true) ∧ Below w.heap.size w w' := by
  have hu := Tryd.underlying25
  have hu2 := Tryd.underlying55
  have hu3 := Tryd.underlying58
  have hu4 := Tryd.underlying63
  have HG := Lib.hid hG
  obtain ⟨KS, hKS⟩ := Pure.Ev.out (small_f l0 l1 a2 l3 hg)
  have HKS := Lib.hid (hKS KS (Nat.le_refl _))
  have hbx : Below w.heap.size w (w.alloc (.cells #[.slice A0 l0.length c0, .slice A1 l1.length c1, .int .i64 a2, .slice A3 l3.length c3] 25)) := (Below.refl _ _).alloc (Nat.le_refl _) _
  have HIB : Hid (InB w A0 c0 l0 A1 c1 l1 a2 A3 c3 l3 (w.alloc (.cells #[.slice A0 l0.length c0, .slice A1 l1.length c1, .int .i64 a2, .slice A3 l3.length c3] 25))) := Lib.hid ⟨⟨blk_new w _, Kd.C_alloc hr0 _, Kd.C_alloc hr1 _, Kd.C_alloc hr3 _⟩, (Below.refl _ _).alloc (Nat.le_refl _) _⟩
  have HRP := Lib.hid hrp
  have HPS := Lib.hid hps
  have HH := Lib.hid hg
  clear hG hKS hr0 hr1 hr3 hg hrp hps hbx
  go_enter Tryd.func4, Tryd.ntmps4
  go_wp2_with fail
  refine (wickerlaw02_Small.calls KS A0 c0 l0 A1 c1 l1 a2 A3 c3 l3 _ _ HIB.out.r0 h0 HIB.out.r1 h1 HIB.out.r3 h3 HKS.out).mono ?_
  rintro e w2 ⟨rfl, hb2⟩
  have hI2 := HIB.out.step hb2
  clear hb2 HIB
  cases hs : smallB l0 l1 l3 with
  | false =>
    have HI2 := Lib.hid hI2
    clear hI2 hs
    go_wp2_with fail
    refine (awake3_calls _ (Laid.below HG.out HI2.out.bel)).mono ?_
    rintro e w3 ⟨rfl, hb3⟩
    have hB3 := HI2.out.bel.trans (hb3.mono HI2.out.bel.size)
    clear hb3
    go_wp2
    go_ret
    exact ⟨rfl, hB3⟩
  | true =>
    by_cases h80 : ps.length ≤ 80
    · have h80b : decide ((ps.length : Int) > 80) = false := decide_eq_false (by omega)
      obtain ⟨hok, hn0, hn1, hn3, _⟩ := small_ok HH.out hs
      have HOK := Lib.hid hok
      have HRO : Hid (l3.all ruleOk = true) := Lib.hid (by
        simp only [gramOk, Bool.and_eq_true] at hok
        exact hok.2)
      have hz0 := hI2.c0
      have hz1 := hI2.c1
      have hz2 := hI2.c2
      have hz3 := hI2.c3
      have HI2 := Lib.hid hI2
      clear hI2 hs hok
      go_wp2_with fail
      refine (build_any Pp pc ps (by omega) (fun p hp => (HPS.out p hp).2.1) _ (Kd.C_below HRP.out HI2.out.bel)).mono ?_
      rintro e w3 ⟨t, T, tc, R, rc, hcnt, hsy, rfl, ⟨hT, htc⟩, ⟨hR, hrc⟩, hb3⟩
      have hbx : Below w3.heap.size w3 ((w3.alloc (.cells #[.int .i64 t.f0, .int .i64 t.f1, .slice T t.f2.length tc] 55)).alloc (.cells #[.int .i64 (toR t).f0, .int .i64 (toR t).f1, .slice R (toR t).f2.length rc] 58)) := ((Below.refl _ w3).alloc (Nat.le_refl _) _).alloc (by simp) _
      have hbt := blk_alloc (blk_new w3 (.cells #[.int .i64 t.f0, .int .i64 t.f1, .slice T t.f2.length tc] 55)) (.cells #[.int .i64 (toR t).f0, .int .i64 (toR t).f1, .slice R (toR t).f2.length rc] 58)
      have hbr := blk_new (w3.alloc (.cells #[.int .i64 t.f0, .int .i64 t.f1, .slice T t.f2.length tc] 55)) (.cells #[.int .i64 (toR t).f0, .int .i64 (toR t).f1, .slice R (toR t).f2.length rc] 58)
      rw [show (w3.alloc (.cells #[.int .i64 t.f0, .int .i64 t.f1, .slice T t.f2.length tc] 55)).heap.size = w3.heap.size + 1 by simp] at hbr
      generalize hw4 : (w3.alloc (.cells #[.int .i64 t.f0, .int .i64 t.f1, .slice T t.f2.length tc] 55)).alloc (.cells #[.int .i64 (toR t).f0, .int .i64 (toR t).f1, .slice R (toR t).f2.length rc] 58) = w4 at hbx hbt hbr
      have hI4 := (HI2.out.step hb3).step hbx
      have HT := Lib.hid (Kd.C_below hT hbx)
      have HR := Lib.hid (Kd.C_below hR hbx)
      have HBT := Lib.hid hbt
      have HBR := Lib.hid hbr
      have HSY := Lib.hid hsy
      clear hz0 hz1 hz2 hz3 hT hR hb3 hbx hbt hbr hsy
      have hz0 := hI4.c0
      have hz1 := hI4.c1
      have hz2 := hI4.c2
      have hz3 := hI4.c3
      have HI4 := Lib.hid hI4
      clear hI4 HI2 HRP HPS
      have hw4' := hw4
      go_wp2_with fail
      (try simp only [hw4'])
      refine (of_calls3 A0 c0 l0 A1 c1 l1 a2 A3 c3 l3 (by omega) HRO.out _ HI4.out.r3).mono ?_
      rintro e w5 ⟨Ao, co, rfl, hro, ho, hb5⟩
      have hbz : Below w5.heap.size w5 (w5.alloc (.cells #[.slice A0 l0.length c0, .slice A1 l1.length c1, .int .i64 a2, .slice Ao l3.length co] 63)) := (Below.refl _ w5).alloc (Nat.le_refl _) _
      have hb46 := hb5.trans (hbz.mono hb5.size)
      have hI6 := HI4.out.step hb46
      have HE := Lib.hid (InE.mk (w := w) (t := t) (R := R) (rc := rc) (tb := w3.heap.size) (rb := w3.heap.size + 1) (hb_ := w5.heap.size) hI6.bel hI6.box.1 (blk_below HBT.out hb46) (blk_below HBR.out hb46) (blk_new w5 _) hI6.r0 hI6.r1 hI6.r3 (Kd.C_below hro hbz) (Kd.C_below HT.out hb46) (Kd.C_below HR.out hb46))
      obtain ⟨cT, hcT⟩ : ∃ cT, treeC l0 l1 a2 l3 t = cT := ⟨_, rfl⟩
      obtain ⟨cR, hcR⟩ : ∃ cR, rootC l0 l1 a2 l3 t = cR := ⟨_, rfl⟩
      have HCT := Lib.hid hcT
      have HCR := Lib.hid hcR
      replace hcnt : cntT t ≤ 1000000 := by omega
      clear hz0 hz1 hz2 hz3 hbz hb46 hI6 hro hb5 HI4 HBT HBR HT HR hw4 hw4' hcT hcR
      go_wp2_with fail
      generalize w3.heap.size + 1 = rb at *
      generalize w3.heap.size = tb at *
      generalize hw6 : w5.alloc (.cells #[.slice A0 l0.length c0, .slice A1 l1.length c1, .int .i64 a2, .slice Ao l3.length co] 63) = w6 at *
      generalize w5.heap.size = hb_ at *
      clear hw6
      refine RegT.region (F := ?F) (InE w A0 c0 l0 A1 c1 l1 a2 A3 c3 l3 Ao co tb rb hb_ t T tc R rc) (fun i v _ => match i with | 0 => v = .bool true | 1 => v = .bool true | 2 => v = .agg #[.slice A0 l0.length c0, .slice A1 l1.length c1, .int .i64 a2, .slice A3 l3.length c3] | 3 => v = .agg #[.int .i64 t.f0, .int .i64 t.f1, .slice T t.f2.length tc] | 4 => v = .int .i64 cT | 5 => v = .agg #[.slice A0 l0.length c0, .slice A1 l1.length c1, .int .i64 a2, .slice Ao l3.length co] | 6 => v = .agg #[.int .i64 (toR t).f0, .int .i64 (toR t).f1, .slice R (toR t).f2.length rc] | 7 => v = .int .i64 cT | 8 => v = .bool true | 9 => v = .bool true | 10 => v = .bool true | 11 => v = .agg #[.slice A0 l0.length c0, .slice A1 l1.length c1, .int .i64 a2, .slice A3 l3.length c3] | 12 => v = .agg #[.int .i64 t.f0, .int .i64 t.f1, .slice T t.f2.length tc] | 13 => v = .int .i64 cR | 14 => v = .agg #[.slice A0 l0.length c0, .slice A1 l1.length c1, .int .i64 a2, .slice Ao l3.length co] | 15 => v = .agg #[.int .i64 (toR t).f0, .int .i64 (toR t).f1, .slice R (toR t).f2.length rc] | 16 => v = .int .i64 cR | 17 => v = .bool true | 18 => v = .bool true | 19 => v = .bool true | _ => True) ?hF (by kernel_rfl) (by kernel_rfl) (by kernel_rfl) (by kernel_rfl) ?hR ?hS ⟨?o0, ?o1, ?o2, ?o3, ?o4, ?o5, ?o6, ?o7, ?o8, ?o9, ?o10, ?o11, ?o12, ?o13, ?o14, ?o15, ?o16, ?o17, ?o18, ?o19, trivial⟩ ?hend
      case hF => intro f; (try simp only [RegT.fillIn, RegT.fv, Act.put, List.setIfInBounds_toArray, List.set_cons_zero, List.set_cons_succ]); exact rfl
      case hR => exact fun _ _ _ _ h _ => h
      case hS => exact HE.out.drew
      case o0 =>
        intro f W1 hS hd K hK
        clear hd
        go_simp
        go_at_call 28
        (with_reducible refine (awake3_calls _ (Laid.below HG.out hS.bel)).mono ?_)
        rintro e w' ⟨rfl, hb⟩
        have hS' := hS.step hb
        exact hK.out (.bool true) _ hS' hb rfl _ (by rfl)
      case o1 =>
        intro f W1 hS hd K hK
        obtain ⟨e24, -, -⟩ := hd
        replace e24 : f 24 = .bool true := e24
        (go_simp; first | exact hK.out (.bool true) _ hS (Below.refl _ _) rfl _ (by (try simp only [e24]); rfl))
      case o2 =>
        intro f W1 hS hd K hK
        obtain ⟨e25, -⟩ := hd
        replace e25 : f 25 = .bool true := e25
        have z0 := hS.g0
        have z1 := hS.g1
        have z2 := hS.g2
        have z3 := hS.g3
        have x0 := hS.t0
        have x1 := hS.t1
        have x2 := hS.t2
        have y0 := hS.s0
        have y1 := hS.s1
        have y2 := hS.s2
        have q0 := hS.h0
        have q1 := hS.h1
        have q2 := hS.h2
        have q3 := hS.h3
        (go_simp; first | exact hK.out (.agg #[.slice A0 l0.length c0, .slice A1 l1.length c1, .int .i64 a2, .slice A3 l3.length c3]) _ hS (Below.refl _ _) rfl _ (by (try simp only [e25]); rfl))
      case o3 =>
        intro f W1 hS hd K hK
        obtain ⟨e25, -⟩ := hd
        replace e25 : f 25 = .bool true := e25
        have z0 := hS.g0
        have z1 := hS.g1
        have z2 := hS.g2
        have z3 := hS.g3
        have x0 := hS.t0
        have x1 := hS.t1
        have x2 := hS.t2
        have y0 := hS.s0
        have y1 := hS.s1
        have y2 := hS.s2
        have q0 := hS.h0
        have q1 := hS.h1
        have q2 := hS.h2
        have q3 := hS.h3
        (go_simp; first | exact hK.out (.agg #[.int .i64 t.f0, .int .i64 t.f1, .slice T t.f2.length tc]) _ hS (Below.refl _ _) rfl _ (by (try simp only [e25]); rfl))
      case o4 =>
        intro f W1 hS hd K hK
        obtain ⟨e26, e27, e25, -, -⟩ := hd
        replace e26 : f 26 = .agg #[.slice A0 l0.length c0, .slice A1 l1.length c1, .int .i64 a2, .slice A3 l3.length c3] := e26
        replace e27 : f 27 = .agg #[.int .i64 t.f0, .int .i64 t.f1, .slice T t.f2.length tc] := e27
        replace e25 : f 25 = .bool true := e25
        go_simp
        go_at_call 31
        (with_reducible refine (treeCheck_calls A0 c0 l0 A1 c1 l1 a2 A3 c3 l3 HOK.out h0 h1 h3 t T tc htc hcnt HSY.out _ (Laid.below HG.out hS.bel) hS.r0 hS.r1 hS.r3 hS.tr).mono ?_)
        rintro e w' ⟨rfl, hb⟩
        rw [HCT.out]
        have hS' := hS.step hb
        exact hK.out (.int .i64 cT) _ hS' hb rfl _ (by (try simp only [e26, e27, e25]); rfl)
      case o5 =>
        intro f W1 hS hd K hK
        obtain ⟨e25, -⟩ := hd
        replace e25 : f 25 = .bool true := e25
        have z0 := hS.g0
        have z1 := hS.g1
        have z2 := hS.g2
        have z3 := hS.g3
        have x0 := hS.t0
        have x1 := hS.t1
        have x2 := hS.t2
        have y0 := hS.s0
        have y1 := hS.s1
        have y2 := hS.s2
        have q0 := hS.h0
        have q1 := hS.h1
        have q2 := hS.h2
        have q3 := hS.h3
        (go_simp; first | exact hK.out (.agg #[.slice A0 l0.length c0, .slice A1 l1.length c1, .int .i64 a2, .slice Ao l3.length co]) _ hS (Below.refl _ _) rfl _ (by (try simp only [e25]); rfl))
      case o6 =>
        intro f W1 hS hd K hK
        obtain ⟨e25, -⟩ := hd
        replace e25 : f 25 = .bool true := e25
        have z0 := hS.g0
        have z1 := hS.g1
        have z2 := hS.g2
        have z3 := hS.g3
        have x0 := hS.t0
        have x1 := hS.t1
        have x2 := hS.t2
        have y0 := hS.s0
        have y1 := hS.s1
        have y2 := hS.s2
        have q0 := hS.h0
        have q1 := hS.h1
        have q2 := hS.h2
        have q3 := hS.h3
        (go_simp; first | exact hK.out (.agg #[.int .i64 (toR t).f0, .int .i64 (toR t).f1, .slice R (toR t).f2.length rc]) _ hS (Below.refl _ _) rfl _ (by (try simp only [e25]); rfl))
      case o7 =>
        intro f W1 hS hd K hK
        obtain ⟨e29, e30, -, e25, -⟩ := hd
        replace e29 : f 29 = .agg #[.slice A0 l0.length c0, .slice A1 l1.length c1, .int .i64 a2, .slice Ao l3.length co] := e29
        replace e30 : f 30 = .agg #[.int .i64 (toR t).f0, .int .i64 (toR t).f1, .slice R (toR t).f2.length rc] := e30
        replace e25 : f 25 = .bool true := e25
        go_simp
        go_at_call 32
        (refine (rtreeCheck_calls3 A0 c0 l0 A1 c1 l1 a2 Ao co l3 HOK.out h0 h1 ho t R rc hrc hcnt _ hS.r0 hS.r1 hS.ro hS.rr).mono ?_)
        rintro e w' ⟨rfl, hb⟩
        rw [HCT.out]
        have hS' := hS.step hb
        exact hK.out (.int .i64 cT) _ hS' hb rfl _ (by (try simp only [e29, e30, e25]); rfl)
      case o8 =>
        intro f W1 hS hd K hK
        obtain ⟨e28, e31, e25, -⟩ := hd
        replace e28 : f 28 = .int .i64 cT := e28
        replace e31 : f 31 = .int .i64 cT := e31
        replace e25 : f 25 = .bool true := e25
        (go_simp; first | exact hK.out (.bool true) _ hS (Below.refl _ _) rfl _ (by (try simp only [e28, e31, e25]); rfl))
      case o9 =>
        intro f W1 hS hd K hK
        obtain ⟨e25, e32, -⟩ := hd
        replace e25 : f 25 = .bool true := e25
        replace e32 : f 32 = .bool true := e32
        (go_simp; first | exact hK.out (.bool true) _ hS (Below.refl _ _) rfl _ (by (try simp only [e25, e32]); rfl))
      case o10 =>
        intro f W1 hS hd K hK
        obtain ⟨e33, -, -⟩ := hd
        replace e33 : f 33 = .bool true := e33
        (go_simp; first | exact hK.out (.bool true) _ hS (Below.refl _ _) rfl _ (by (try simp only [e33]); rfl))
      case o11 =>
        intro f W1 hS hd K hK
        obtain ⟨e34, -⟩ := hd
        replace e34 : f 34 = .bool true := e34
        have z0 := hS.g0
        have z1 := hS.g1
        have z2 := hS.g2
        have z3 := hS.g3
        have x0 := hS.t0
        have x1 := hS.t1
        have x2 := hS.t2
        have y0 := hS.s0
        have y1 := hS.s1
        have y2 := hS.s2
        have q0 := hS.h0
        have q1 := hS.h1
        have q2 := hS.h2
        have q3 := hS.h3
        (go_simp; first | exact hK.out (.agg #[.slice A0 l0.length c0, .slice A1 l1.length c1, .int .i64 a2, .slice A3 l3.length c3]) _ hS (Below.refl _ _) rfl _ (by (try simp only [e34]); rfl))
      case o12 =>
        intro f W1 hS hd K hK
        obtain ⟨e34, -⟩ := hd
        replace e34 : f 34 = .bool true := e34
        have z0 := hS.g0
        have z1 := hS.g1
        have z2 := hS.g2
        have z3 := hS.g3
        have x0 := hS.t0
        have x1 := hS.t1
        have x2 := hS.t2
        have y0 := hS.s0
        have y1 := hS.s1
        have y2 := hS.s2
        have q0 := hS.h0
        have q1 := hS.h1
        have q2 := hS.h2
        have q3 := hS.h3
        (go_simp; first | exact hK.out (.agg #[.int .i64 t.f0, .int .i64 t.f1, .slice T t.f2.length tc]) _ hS (Below.refl _ _) rfl _ (by (try simp only [e34]); rfl))
      case o13 =>
        intro f W1 hS hd K hK
        obtain ⟨e35, e36, e34, -, -⟩ := hd
        replace e35 : f 35 = .agg #[.slice A0 l0.length c0, .slice A1 l1.length c1, .int .i64 a2, .slice A3 l3.length c3] := e35
        replace e36 : f 36 = .agg #[.int .i64 t.f0, .int .i64 t.f1, .slice T t.f2.length tc] := e36
        replace e34 : f 34 = .bool true := e34
        go_simp
        go_at_call 33
        (with_reducible refine (treeRoot_calls A0 c0 l0 A1 c1 l1 a2 A3 c3 l3 HOK.out h0 h1 h3 t T tc htc hcnt HSY.out _ (Laid.below HG.out hS.bel) hS.r0 hS.r1 hS.r3 hS.tr).mono ?_)
        rintro e w' ⟨rfl, hb⟩
        rw [HCR.out]
        have hS' := hS.step hb
        exact hK.out (.int .i64 cR) _ hS' hb rfl _ (by (try simp only [e35, e36, e34]); rfl)
      case o14 =>
        intro f W1 hS hd K hK
        obtain ⟨e34, -⟩ := hd
        replace e34 : f 34 = .bool true := e34
        have z0 := hS.g0
        have z1 := hS.g1
        have z2 := hS.g2
        have z3 := hS.g3
        have x0 := hS.t0
        have x1 := hS.t1
        have x2 := hS.t2
        have y0 := hS.s0
        have y1 := hS.s1
        have y2 := hS.s2
        have q0 := hS.h0
        have q1 := hS.h1
        have q2 := hS.h2
        have q3 := hS.h3
        (go_simp; first | exact hK.out (.agg #[.slice A0 l0.length c0, .slice A1 l1.length c1, .int .i64 a2, .slice Ao l3.length co]) _ hS (Below.refl _ _) rfl _ (by (try simp only [e34]); rfl))
      case o15 =>
        intro f W1 hS hd K hK
        obtain ⟨e34, -⟩ := hd
        replace e34 : f 34 = .bool true := e34
        have z0 := hS.g0
        have z1 := hS.g1
        have z2 := hS.g2
        have z3 := hS.g3
        have x0 := hS.t0
        have x1 := hS.t1
        have x2 := hS.t2
        have y0 := hS.s0
        have y1 := hS.s1
        have y2 := hS.s2
        have q0 := hS.h0
        have q1 := hS.h1
        have q2 := hS.h2
        have q3 := hS.h3
        (go_simp; first | exact hK.out (.agg #[.int .i64 (toR t).f0, .int .i64 (toR t).f1, .slice R (toR t).f2.length rc]) _ hS (Below.refl _ _) rfl _ (by (try simp only [e34]); rfl))
      case o16 =>
        intro f W1 hS hd K hK
        obtain ⟨e38, e39, -, e34, -⟩ := hd
        replace e38 : f 38 = .agg #[.slice A0 l0.length c0, .slice A1 l1.length c1, .int .i64 a2, .slice Ao l3.length co] := e38
        replace e39 : f 39 = .agg #[.int .i64 (toR t).f0, .int .i64 (toR t).f1, .slice R (toR t).f2.length rc] := e39
        replace e34 : f 34 = .bool true := e34
        go_simp
        go_at_call 34
        (refine (rtreeRoot_calls3 A0 c0 l0 A1 c1 l1 a2 Ao co l3 HOK.out h0 h1 ho t R rc hrc hcnt _ hS.r0 hS.r1 hS.ro hS.rr).mono ?_)
        rintro e w' ⟨rfl, hb⟩
        rw [HCR.out]
        have hS' := hS.step hb
        exact hK.out (.int .i64 cR) _ hS' hb rfl _ (by (try simp only [e38, e39, e34]); rfl)
      case o17 =>
        intro f W1 hS hd K hK
        obtain ⟨e37, e40, e34, -⟩ := hd
        replace e37 : f 37 = .int .i64 cR := e37
        replace e40 : f 40 = .int .i64 cR := e40
        replace e34 : f 34 = .bool true := e34
        (go_simp; first | exact hK.out (.bool true) _ hS (Below.refl _ _) rfl _ (by (try simp only [e37, e40, e34]); rfl))
      case o18 =>
        intro f W1 hS hd K hK
        obtain ⟨e34, e41, -⟩ := hd
        replace e34 : f 34 = .bool true := e34
        replace e41 : f 41 = .bool true := e41
        (go_simp; first | exact hK.out (.bool true) _ hS (Below.refl _ _) rfl _ (by (try simp only [e34, e41]); rfl))
      case o19 =>
        intro f W1 hS hd K hK
        obtain ⟨e42, -, -, -, -, -, -, -, -, -, -, -, -, -, -, -, -, -, -, -, -, -⟩ := hd
        replace e42 : f 42 = .bool true := e42
        (go_simp; first | exact hK.out (.bool true) _ hS (Below.refl _ _) rfl _ (by (try simp only [e42]); rfl))
      case hend =>
        intro f W1 hS hr
        have e4 : f 4 = .bool true := hr 19 _ _ rfl rfl
        (try dsimp only)
        generalize f 4 = x4 at *
        subst e4
        have HB := Lib.hid hS.bel
        clear hS hr
        go_wp2
        go_ret
        exact ⟨rfl, HB.out⟩
    · have h80b : decide ((ps.length : Int) > 80) = true := decide_eq_true (by omega)
      have HI2 := Lib.hid hI2
      clear hI2 hs
      go_wp2_with fail
      refine (awake3_calls _ (Laid.below HG.out HI2.out.bel)).mono ?_
      rintro e w3 ⟨rfl, hb3⟩
      have hB3 := HI2.out.bel.trans (hb3.mono HI2.out.bel.size)
      clear hb3
      go_wp2
      go_ret
      exact ⟨rfl, hB3⟩
end Go.Proofs.YtmdjmbdeeodehaaDoor.G
end
namespace Go.Proofs.YtmdjmbdeeodehaaDoor.treeChecks
open Go Go.Proofs.YtmdjmbdeeodehaaDoorOpen Go.ChangeShapes Go.WideShapes Go.ChangeAt Go.RowKit
open Go.ChangeMaps (open_string shut_string)
set_option linter.unusedVariables false
theorem own : ownKnob Tryd.prog.godebug = none := by kernel_rfl
theorem laidOut : laidOutB Tryd.prog = true := by kernel_rfl
def laid : List (String × DataW Unit) := [("math/bits.deBruijn32tab", Rows.laid_math_bits_deBruijn32tab), ("math/bits.deBruijn64tab", Rows.laid_math_bits_deBruijn64tab), ("internal/strconv.uint64pow10", Rows.laid_internal_strconv_uint64pow10)]
theorem laid_in : (("internal/strconv.uint64pow10", Lib.tabData .u64 Lib.pow10Tab) : String × DataW Unit) ∈ laid := by
  rw [show (Lib.tabData .u64 Lib.pow10Tab : DataW Unit) = Rows.laid_internal_strconv_uint64pow10 by kernel_rfl]
  exact List.Mem.tail _ (List.Mem.tail _ (List.Mem.head _))
theorem laid_met (os : Os) (args : Array Value) : laidMetH Tryd.prog laid ((World.laidAll Tryd.prog os laid).forCall (fun _ _ => 0) ⟨#[], args, []⟩).memory := by
  rw [Go.MakeChecks.laidMetH_plain _ _ _ (by kernel_rfl)]
  exact laidMet_laidAll args (by kernel_rfl) (by kernel_rfl)
set_option maxRecDepth 100000 in
theorem lifted (os : Os) (started : os.Started) (H : Type) (enc : TypeId × Value → H) :
    ReturnsInHanded {} Tryd.checked os 4 .any (fun w args => (Rows.treeChecksSpec.pre enc Tryd.prog Tryd.f4 [] false w args ∧ laidMetH Tryd.prog laid w) ∧ sizedMet enc Tryd.prog Tryd.f4 (OpenSpec.ofChange Rows.treeChecksSpec) false w args) (Rows.treeChecksSpec.post enc Tryd.prog Tryd.f4 false true false false) := by
  refine returnsInHanded_of_change_and (C := Tryd.checked) (X := fun w _ => laidMetH Tryd.prog laid w) (fun _ _ _ hh h => h.of_heap hh) own started (by kernel_rfl) Tryd.func4
    (ChangeSpec.witness_at (enc := enc) (C := Tryd.checked) (os := os) (X := fun w _ => laidMetH Tryd.prog laid w) false (World.laidAll Tryd.prog os laid) #[.agg #[.slice none 0 0, .slice none 0 0, .int .i64 0, .slice none 0 0], .slice none 0 0] 8 (World.laidAll_os _ _ _) (by kernel_rfl) (by kernel_rfl) (by kernel_rfl) (by kernel_rfl) (by kernel_rfl) (laid_met os _)) ?_
  intro W base args ds gs before hval0 hW hcnd hsz0 hL _
  have hsz : (DataW.weightsEach Tryd.prog (Tryd.f4.params.toList ++ Rows.treeChecksSpec.plain.varTypes Tryd.prog) (ds ++ gs)).all (· ≤ reachBytes) = true := hsz0
  have hval : ∀ (j : Nat) t v, Tryd.f4.params[j]? = some t → args[j]? = some v → Value.okWide Tryd.prog W .any base t v := hval0
  have hW' := hW
  obtain ⟨p, q, hA0, hV, rfl, hfz, hnd⟩ := hW
  have hA : DataW.TrodAll enc Tryd.prog W 0 (fun _ => true) true Tryd.f4.params.toList args.toList ds p := hA0
  rw [Tryd.params4] at hA hval hsz
  obtain ⟨v0, vs0, d0, ds0, p0, q0, hargs, rfl, rfl, h0, r0⟩ := trodAll_cons hA
  obtain ⟨v1, vs1, d1, ds1, p1, q1, rfl, rfl, rfl, h1, r1⟩ := trodAll_cons r0
  obtain ⟨rfl, rfl, rfl⟩ := trodAll_nil r1
  obtain rfl : args = #[v0, v1] := by cases args; simp_all
  obtain ⟨rfl, rfl⟩ := trodVars_none hV
  have k0 := h0
  have lt0 : ∀ x ∈ p0, x.block < W.heap.size := by obtain ⟨m, hm⟩ := k0; exact DataW.trod_lt m _ _ _ hm
  obtain ⟨A0a, c0a, l0a, A0b, c0b, l0b, i0, A0d, c0d, l0d, rfl, ⟨hr0a, hc0a⟩, ⟨hr0b, hc0b⟩, ⟨hr0d, hc0d⟩, gin0⟩ := Go.Proofs.YtmdjmbdeeodehaaDoor.G.open_gram (hval 0 25 v0 rfl rfl) h0 (Go.Proofs.YtmdjmbdeeodehaaDoorOpen.weigh hsz (j := 0) rfl rfl)
  have k1 := h1
  have lt1 : ∀ x ∈ p1, x.block < W.heap.size := by obtain ⟨m, hm⟩ := k1; exact DataW.trod_lt m _ _ _ hm
  obtain ⟨l1, A1, c1, rfl, gp1, hc1, hr1⟩ := Go.Proofs.YtmdjmbdeeodehaaDoor.G.open_parts (hval 1 51 v1 rfl rfl) h1 (Go.Proofs.YtmdjmbdeeodehaaDoorOpen.weigh hsz (j := 1) rfl rfl)
  clear hA0 hval0 hsz0 hsz
  refine (Go.Proofs.YtmdjmbdeeodehaaDoor.G.treeChecks_calls W (laid_of (by kernel_rfl) laid_in hL) _ _ l0a _ _ l0b i0 _ _ l0d gin0 hc0a hc0b hc0d hr0a hr0b hr0d l1 _ _ gp1 hc1 hr1).mono fun e W' hpost => ?_
  obtain ⟨he, bel⟩ : e = .returned (.bool true) ∧ Below W.heap.size W W' := hpost
  subst he
  exact ⟨_, rfl, _, _, _, [], _, [], hW', trodAll_mk1 (shut_bool Tryd.underlying4 _), (trodAll_cons_mk (Below.trod laidOut (by kernel_rfl) (of_decide_eq_true (by kernel_rfl)) k0 bel lt0) (trodAll_cons_mk (Below.trod laidOut (by kernel_rfl) (of_decide_eq_true (by kernel_rfl)) k1 bel lt1) trodAll_mk0)), rfl, bel.frame _, fun h => by cases h⟩
theorem over : Rows.TreeChecksSaid :=
  OpenClaim.holds_of_wide 4 Tryd.f4 rfl rfl rfl rfl rfl rfl rfl ⟨rfl, rfl, rfl, rfl, rfl⟩ rfl rfl rfl rfl rfl (by kernel_rfl) Tryd.func4 (by kernel_rfl)
    (of_decide_eq_true (by kernel_rfl)) (by unfold Func.isWrapper; first | (rw [if_pos (by decide +kernel)]; kernel_rfl) | (rw [if_neg (by decide +kernel)]; exact ⟨rfl, rfl⟩))
    (fun os started H enc _ => lifted os started H enc)
theorem carded : Rows.TreeChecksCardSaid :=
  Claim7.holds_tied_plain_at .later [] [.data, .data, .data] true (true, "0c877ec8b1f63600cbff811b53e1e164aa019ccd5cd30c3b202bac2b752e5ce1") true
    over (fun _ h => by cases h) (by kernel_rfl) (fun _ h => by cases h) treeChecks_row_tie rfl ⟨rfl, rfl⟩ (by kernel_rfl) rfl
    (fun f fn hf hfn => by
      obtain rfl : f = 4 := Option.some.inj ((show Tryd.prog.funcNamed Rows.treeChecksRow.func = some 4 by kernel_rfl).symm.trans hf) |>.symm
      obtain rfl : fn = Tryd.f4 := (Option.some.inj (Tryd.func4.symm.trans hfn)).symm
      exact ⟨by kernel_rfl, fun j t ht => by
        rw [Tryd.params4] at ht
        rcases j with _ | j
        · obtain rfl : t = 25 := by simpa using ht.symm
          exact (show Tryd.prog.wantsStandIn 25 = false by kernel_rfl)
        rcases j with _ | j
        · obtain rfl : t = 51 := by simpa using ht.symm
          exact (show Tryd.prog.wantsStandIn 51 = false by kernel_rfl)
        simp at ht⟩)
    (by kernel_rfl)
#print axioms carded
end Go.Proofs.YtmdjmbdeeodehaaDoor.treeChecks
namespace Go.Proofs.YtmdjmbdeeodehaaDoor
theorem treeChecks_holds : Rows.TreeChecksCardSaid := treeChecks.carded
end Go.Proofs.YtmdjmbdeeodehaaDoor
