/- TreeDerives of the law03, where what it reads is of bulk at most 1048576: answers true: the leftmost derivation by the rules that a fitting tree uses ends in the tree's yield: part 6 of 6 of its proof, packed by a program of this session out of the texts TreeV, TreeH, LTreeDerivesUpto. -/
import Derived.Test.YtmdjmbdeeodehaaDoorZTD4
import Derived.Test.YtmdjmbdeeodehaaDoorRows
import Derived.Test.YtmdjmbdeeodehaaDoorTie
import Derived.Test.YtmdjmbdeeodehaaDoorCards
import Derived.WalkKit
import Derived.ProofKit
import Derived.OpenShut
import Derived.ShutString
import Derived.ChangeOld
import Derived.ChangeVars
import Derived.ChangeSame
import Derived.JoinedOf
import Derived.Below
import Derived.SizedLaws
import Derived.Handed
import Derived.LaidLaws
import Derived.LaidHandle
import Derived.Lay
import Derived.MakeChecks
import Derived.Stop.Joined
import Derived.Deep.DeepHandedRow
import Derived.SevenTiedAt
section
set_option linter.unusedVariables false
set_option linter.unusedSimpArgs false
namespace Go.Proofs.YtmdjmbdeeodehaaDoor.G
open Go Go.Proofs Go.Proofs.YtmdjmbdeeodehaaDoor Go.RowKit Go.Proofs.YtmdjmbdeeodehaaDoorW.PrintWords Go.Proofs.YtmdjmbdeeodehaaDoorW.PrintLast Go.Proofs.YtmdjmbdeeodehaaDoorW.PrintMore Go.Proofs.YtmdjmbdeeodehaaDoor.Pure
structure InDv (w : World) (A0 : Option Addr) (c0 : Nat) (l0 : List ByteArray) (A1 : Option Addr) (c1 : Nat) (l1 : List ByteArray) (a2 : Int) (A3 : Option Addr) (c3 : Nat) (l3 : List GRule) (Au : Option Addr) (cu : Nat) (us : List Int) (vo : Value) (out : List Int) (As : Option Addr) (cs : Nat) (ss : List Int) (W : World) : Prop where
  bel : Below w.heap.size w W
  gb : W.heap[w.heap.size]? = some (.cells #[.slice A0 l0.length c0, .slice A1 l1.length c1, .int .i64 a2, .slice A3 l3.length c3] 25 (0, 0))
  row : Kd.R (Kd.int .i64) 52 W w.heap.size (fun k => w.heap.size < k) vo out
  sent : Kd.F (Kd.int .i64) W (fun k => w.heap.size < k ∧ some k ≠ vo.ownBlock) As ss.length ss ∧ ss.length ≤ cs
  used : Kd.C (Kd.int .i64) w Au us.length us ∧ us.length ≤ cu
theorem InDv.step {w : World} {A0 : Option Addr} {c0 : Nat} {l0 : List ByteArray} {A1 : Option Addr} {c1 : Nat} {l1 : List ByteArray} {a2 : Int} {A3 : Option Addr} {c3 : Nat} {l3 : List GRule} {Au : Option Addr} {cu : Nat} {us : List Int} {vo : Value} {out : List Int} {As : Option Addr} {cs : Nat} {ss : List Int} {W W' : World} (h : InDv w A0 c0 l0 A1 c1 l1 a2 A3 c3 l3 Au cu us vo out As cs ss W) (hb : Below W.heap.size W W') : InDv w A0 c0 l0 A1 c1 l1 a2 A3 c3 l3 Au cu us vo out As cs ss W' :=
  ⟨h.bel.trans (hb.mono h.bel.size), blk_below h.gb hb, Kd.R_below h.row hb, ⟨Kd.F_below h.sent.1 hb, h.sent.2⟩, h.used⟩
def lenV : Value → Nat
  | .slice _ n _ => n
  | _ => 0
theorem cut_one (sa : Addr) (n c : Nat) (hc : n + 1 ≤ c) : ∃ A2 c2, (∀ W : World, (Instr.slice 30 (.slice (some sa) (n + 1) c) (some (.int .i64 1)) none none).run Tryd.prog W = .ok (.slice A2 n c2) W) ∧ n ≤ c2 ∧ ∀ (W : World) (ok : Nat → Prop) (x : Int) (l : List Int), l.length = n → Kd.F (Kd.int .i64) W ok (some sa) (n + 1) (x :: l) → Kd.F (Kd.int .i64) W ok A2 n l := by
  obtain ⟨i, hi, -, hs, -⟩ := info_parts info52
  have h1 := cut_from (P := Tryd.prog) 30 52 .i64 Tryd.underlying30 hi 1 hs (some sa) (n + 1) c 1 (by omega) (by omega)
  refine ⟨_, _, fun W => h1 W, by omega, fun W ok x l hl h => ?_⟩
  refine Kd.F_imp h (fun W' hC => ?_)
  have h2 : Kd.C (Kd.int .i64) W' (if c = 1 then some sa else (some sa).map (·.add (1 * 1))) (n + 1 - 1) (List.drop 1 (x :: l)) := AppC.C_drop hC 1 (by omega) hc
  simpa using h2
theorem cut_oneI (sa : Addr) (n c : Nat) (hc : n + 1 ≤ c) : ∃ A2 c2, (∀ W : World, (Instr.slice 71 (.slice (some sa) (n + 1) c) (some (.int .i64 1)) none none).run Tryd.prog W = .ok (.slice A2 n c2) W) ∧ n ≤ c2 ∧ ∀ (W : World) (x : Int) (l : List Int), l.length = n → Kd.C (Kd.int .i64) W (some sa) (n + 1) (x :: l) → Kd.C (Kd.int .i64) W A2 n l := by
  obtain ⟨i, hi, -, hs, -⟩ := info_parts info3
  have h1 := cut_from (P := Tryd.prog) 71 3 .i64 Tryd.underlying71 hi 1 hs (some sa) (n + 1) c 1 (by omega) (by omega)
  refine ⟨_, _, fun W => h1 W, by omega, fun W x l hl hC => ?_⟩
  have h2 : Kd.C (Kd.int .i64) W (if c = 1 then some sa else (some sa).map (·.add (1 * 1))) (n + 1 - 1) (List.drop 1 (x :: l)) := AppC.C_drop hC 1 (by omega) hc
  simpa using h2
set_option maxHeartbeats 16000000 in
set_option maxRecDepth 100000 in
theorem derive_calls (A0 : Option Addr) (c0 : Nat) (l0 : List ByteArray) (A1 : Option Addr) (c1 : Nat) (l1 : List ByteArray) (a2 : Int) (A3 : Option Addr) (c3 : Nat) (l3 : List GRule) (hok : gramOk l0 l1 a2 l3 = true) (hhd : ∀ r ∈ l3, 0 ≤ r.f0 ∧ r.f0 < l0.length) (h3 : l3.length ≤ c3) (t : TTree) (hfit : fitT l3 t = 0) (hcnt : cntT t ≤ 1000000) (U : Option Addr) (uc : Nat) (huc : (usedT t).length ≤ uc)
    (w : World) (hr3 : Kd.C k32 w A3 l3.length l3) (hu0 : Kd.C (Kd.int .i64) w U (usedT t).length (usedT t)) :
    Calls Tryd.prog 36 #[.agg #[.slice A0 l0.length c0, .slice A1 l1.length c1, .int .i64 a2, .slice A3 l3.length c3], .int .i64 (ruleAt l3 t.f0).f0, .slice U (usedT t).length uc] w fun e w' => ∃ v, e = .returned (.tuple #[v, .bool true]) ∧ Kd.R (Kd.int .i64) 52 w' w.heap.size (fun k => w.heap.size < k) v (yieldT t) ∧ Below w.heap.size w w' := by
  have hu := Tryd.underlying25
  have hu2 := Tryd.underlying32
  obtain ⟨ad, B0_, d0_, eA, -⟩ := at_T32 hr3 t.f0 (fitT_in hfit).1 (fitT_in hfit).2.1
  subst eA
  have hb1 : Below w.heap.size w ((w.alloc (.cells #[.slice A0 l0.length c0, .slice A1 l1.length c1, .int .i64 a2, .slice (some ad) l3.length c3] 25)).alloc (.cells #[.int .i64 (ruleAt l3 t.f0).f0] 52)) := ((Below.refl _ w).alloc (Nat.le_refl _) _).alloc (by simp) _
  have hlit := AppC.lit_C (Kd.int .i64) (w.alloc (.cells #[.slice A0 l0.length c0, .slice A1 l1.length c1, .int .i64 a2, .slice (some ad) l3.length c3] 25)) 52 [(ruleAt l3 t.f0).f0] [.int .i64 (ruleAt l3 t.f0).f0] (Reps.one rfl (Reps.none _ _)) (by simp)
  have hcf : ∀ (W : World) (ok : Nat → Prop) (A : Option Addr) (n : Nat) (l : List Int), Kd.C (Kd.int .i64) W A n l → (∀ ad, A = some ad → n ≠ 0 → ok ad.block) → Kd.F (Kd.int .i64) W ok A n l := fun W ok A n l h hA => F_of (ReadsRow.imp_ h (Below.refl _ _) (fun _ _ hp _ _ => hp)) hA
  have HI0 : Hid (InDv w A0 c0 l0 A1 c1 l1 a2 (some ad) c3 l3 U uc (usedTs [t]) (.slice none 0 0) [] (some ⟨w.heap.size + 1, 0, none⟩) 1 ([t].map (sgnT l3)) ((w.alloc (.cells #[.slice A0 l0.length c0, .slice A1 l1.length c1, .int .i64 a2, .slice (some ad) l3.length c3] 25)).alloc (.cells #[.int .i64 (ruleAt l3 t.f0).f0] 52))) := Lib.hid (by
    have hs : [t].map (sgnT l3) = [(ruleAt l3 t.f0).f0] := by have := (fitT_in hfit).1; simp only [List.map_cons, List.map_nil, sgnT]; rw [if_neg (by omega)]
    have hus : usedTs [t] = usedT t := by simp [usedTs]
    rw [hs, hus]
    rw [show (w.alloc (.cells #[.slice A0 l0.length c0, .slice A1 l1.length c1, .int .i64 a2, .slice (some ad) l3.length c3] 25)).heap.size = w.heap.size + 1 by simp] at hlit
    exact ⟨hb1, blk_alloc (blk_new w _) _, Kd.R_nil _ _ _ _ _, ⟨hcf _ _ _ _ _ hlit (fun ad e _ => by injection e with e; rw [← e]; exact ⟨Nat.lt_succ_self _, by simp [Value.ownBlock]⟩), Nat.le_refl _⟩, ⟨hu0, huc⟩⟩)
  have HK0 : Hid (∀ k ∈ [t], okD l3 k) := Lib.hid (fun k hk => by rw [List.mem_singleton] at hk; rw [hk]; exact .inr hfit)
  have HR3 := Lib.hid hr3
  have HHD := Lib.hid hhd
  have HOK := Lib.hid hok
  have HYL : Hid ((yieldT t).length ≤ 1000000) := Lib.hid (Nat.le_trans (yieldT_len t) hcnt)
  have HUL : Hid (cntTs [t] ≤ 1000000) := Lib.hid (by simpa [cntTs] using hcnt)
  obtain ⟨yt, hyt⟩ : ∃ yt, yt = yieldT t := ⟨_, rfl⟩
  rw [← hyt] at HYL ⊢
  have HY0 : Hid ([] ++ yieldTs [t] = yt) := Lib.hid (by rw [hyt]; simp [yieldTs])
  have HCF := Lib.hid hcf
  have hst1 : ([t].map (sgnT l3)).length = 1 := rfl
  have hst2 : usedTs [t] = usedT t := by simp [usedTs]
  rw [← hst2]
  clear hlit hb1 hr3 hu0 hhd hok hcf huc hfit hyt hst2
  go_enter Tryd.func36, Tryd.ntmps36
  go_wp2_with fail
  go_loopw [8, 9, 2] (fun s o u wr => ∃ (ks : List TTree) (As : Option Addr) (cs : Nat) (vo : Value) (out : List Int) (Au : Option Addr) (cu : Nat), s = .slice As (ks.map (sgnT l3)).length cs ∧ o = vo ∧ u = .slice Au (usedTs ks).length cu ∧ Hid (out ++ yieldTs ks = yt) ∧ Hid (∀ k ∈ ks, okD l3 k) ∧ Hid (cntTs ks ≤ 1000000) ∧ Hid (InDv w A0 c0 l0 A1 c1 l1 a2 (some ad) c3 l3 Au cu (usedTs ks) vo out As cs (ks.map (sgnT l3)) wr)) (fun s _ u _ => lenV u * 2000000 + lenV s)
  case atStart => exact ⟨[t], some ⟨w.heap.size + 1, 0, none⟩, 1, .slice none 0 0, [], U, uc, rfl, rfl, rfl, HY0, HK0, HUL, HI0⟩
  case round =>
    clear HI0 HK0 HUL HY0
    obtain ⟨ks, As, cs, vo, out, Au, cu, rfl, rfl, rfl, HY, HK, HC, HI⟩ := hrel
    obtain ⟨Ao, co, e⟩ := Kd.R_slice HI.out.row
    subst e
    cases ks with
    | nil =>
      have HE : Hid (out = yt) := Lib.hid (by have := HY.out; simpa [yieldTs] using this)
      simp only [List.map_nil, List.length_nil, show usedTs ([] : List TTree) = [] from rfl]
      have HRW := Lib.hid HI.out.row
      have HBL := Lib.hid HI.out.bel
      clear HI HY HK HC
      go_wp2
      refine bodyPost_ret (v := .tuple #[.slice Ao out.length co, .bool true]) (by simp [results, Tryd.results36, go_sem]) rfl ?_
      exact ⟨_, rfl, by rw [← HE.out]; exact HRW.out, HBL.out⟩
    | cons k rest =>
      have hkk := HK.out k List.mem_cons_self
      have HKR : Hid (∀ k ∈ rest, okD l3 k) := Lib.hid (fun x hx => HK.out x (List.mem_cons_of_mem _ hx))
      simp only [List.map_cons, List.length_cons]
      obtain ⟨sa, eS, hs0⟩ := Kd.at_int (Kd.F_now HI.out.sent.1) 0 (by omega) (by simp)
      subst eS
      obtain ⟨sg, hsg⟩ : ∃ sg, sg = sgnT l3 k := ⟨_, rfl⟩
      have hs1 : wr.cell? sa = some (.int .i64 sg) := by
        have h1 : (sa.add (0 : Int).toNat) = sa := by simp [Addr.add]
        rw [h1] at hs0
        rw [hs0, hsg]
        rfl
      have hlen0 : decide ((((rest.map (sgnT l3)).length + 1 : Nat) : Int) > 0) = true := decide_eq_true (by omega)
      obtain ⟨ss, hss⟩ : ∃ ss, ss = rest.map (sgnT l3) := ⟨_, rfl⟩
      rw [List.map_cons, ← hss, ← hsg] at HI
      rw [← hss] at hlen0 ⊢
      have HSS := Lib.hid hss
      have HSG := Lib.hid hsg
      clear hs0 hsg hss
      rcases hkk with ⟨hk0, hk1⟩ | hkf
      · have E1 : Hid (sg = k.f1) := Lib.hid (by rw [HSG.out, sgnT, if_pos hk0])
        have HTM : Hid (gram_Sym_IsTerm.f sg = some true) := Lib.hid (by rw [gram_Sym_IsTerm.f, E1.out, decide_eq_true hk1])
        clear hk1
        obtain ⟨A2, d2, hcut, hcutC, hcutF⟩ := cut_one sa ss.length cs (by have := HI.out.sent.2; simpa using this)
        go_wp2_with fail
        refine (gram_Sym_IsTerm.calls sg true _ HTM.out).mono ?_
        rintro e w2 ⟨rfl, hd2⟩
        have hI2 := HI.out.step hd2.below
        have hbg : w.heap.size < w2.heap.size := blk_lt hI2.gb
        have hol : out.length ≤ 1000000 := by have h1 := HY.out; have h2 := HYL.out; rw [← h1, List.length_append] at h2; omega
        have HI2 := Lib.hid hI2
        clear hd2 hI2 HI hs1
        go_wp2_with fail
        go_region_law
          (first | (refine Kd.R_append_step (Kd.int .i64) (w0 := w) (W := w2.drew) w.heap.size (by rfl) (.tmp 21) (.tmp 23) 30 52 (.int .i64 0) 8 (by rfl) Tryd.underlying30 info52 (by rfl) (by decide) (by decide) (.slice Ao out.length co) out sg [.int .i64 sg] (fun k => w.heap.size < k) (fun _ => False) (by rfl) (by rfl) rfl (fun _ h => h.elim) (fun k hk => Nat.lt_of_lt_of_le hbg hk) (Kd.R_drew HI2.out.row) (below_drew HI2.out.bel) (Nat.le_of_lt hbg) (by omega) ?_; intro v4 w4 ho4 hb4 hg4 hat4))
        all_goals
          obtain ⟨Ao4, co4, eo4⟩ := Kd.R_slice ho4
          subst eo4
          have hus : usedTs (k :: rest) = usedTs rest := by simp [usedTs, usedT_eq k, hk0]
          have HY2 : Hid ((out ++ [sg]) ++ yieldTs rest = yt) := Lib.hid (by have := HY.out; rw [yieldTs, yieldT_eq, if_pos hk0, ← E1.out] at this; rw [← this]; simp)
          have HC2 : Hid (cntTs rest ≤ 1000000) := Lib.hid (by have := HC.out; simp only [cntTs] at this; omega)
          have hown := HI2.out.row.1
          have hFd := Kd.F_drew (hcutF w2 _ sg ss rfl HI2.out.sent.1)
          have HI4 : Hid (InDv w A0 c0 l0 A1 c1 l1 a2 (some ad) c3 l3 Au cu (usedTs rest) (.slice Ao4 (out ++ [sg]).length co4) (out ++ [sg]) A2 d2 ss w4) := Lib.hid ⟨hb4, blk_grown (blk_drew HI2.out.gb) hg4 (fun e => absurd (hown _ e.symm) (by omega)), ho4, ⟨Kd.F_after hFd hg4 hat4, hcutC⟩, by rw [← hus]; exact HI2.out.used⟩
          rw [hus]
          have HUS := Lib.hid hus
          clear hFd hown hb4 hg4 hat4 ho4 hus
          (try simp only [List.getElem_toArray, List.getElem_cons_succ, List.getElem_cons_zero])
          (try simp only [Act.put, List.setIfInBounds_toArray, List.set_cons_zero, List.set_cons_succ])
          go_wp2
          go_roundw
          case rel => exact ⟨rest, A2, d2, _, out ++ [sg], Au, cu, by rw [HSS.out], rfl, rfl, HY2, HKR, HC2, by rw [← HSS.out]; exact HI4⟩
          case measure => have := congrArg List.length HUS.out; simp only [lenV]; omega
      · obtain ⟨g0, g1, g2, g3, g4⟩ := fitT_node hkf
        have hgn := node_sgn hkf
        have hrm := rule_mem l3 k.f0 g0 g1
        have hsg0 : sg = (ruleAt l3 k.f0).f0 := by rw [HSG.out, sgnT, if_neg (by omega)]
        have hsp : 0 ≤ sg := by rw [hsg0]; exact (HHD.out _ hrm).1
        have HTM : Hid (gram_Sym_IsTerm.f sg = some false) := Lib.hid (by rw [gram_Sym_IsTerm.f, decide_eq_false (by omega)])
        have HPL : Hid (gram_Sym_Place.f sg = some sg) := Lib.hid (by unfold gram_Sym_Place.f gram_Sym_IsTerm.f; simp only [Option.bind_some, decide_eq_false (show ¬ sg < 0 by omega), Bool.false_eq_true, if_false])
        have hus : usedTs (k :: rest) = k.f0 :: usedTs (k.f2 ++ rest) := by rw [usedTs, usedT_eq, if_neg (by omega), usedTs_app]; simp
        obtain ⟨us, hus2⟩ : ∃ us, us = usedTs (k :: rest) := ⟨_, rfl⟩
        rw [← hus2] at HI ⊢
        obtain ⟨nu, hnu⟩ : ∃ nu, nu = us.length := ⟨_, rfl⟩
        have hnu1 : nu = (usedTs (k.f2 ++ rest)).length + 1 := by rw [hnu, hus2, hus]; rfl
        have hnu0 : ((nu : Int) == 0) = false := by simp only [beq_eq_false_iff_ne, ne_eq]; omega
        have hnup : (0 : Int) < (nu : Int) := by omega
        have hnun : 0 < nu := by omega
        obtain ⟨ua, eU, hu1⟩ := Kd.at_int HI.out.used.1 0 (by omega) (by rw [← hnu]; omega)
        subst eU
        obtain ⟨ad', B1, d1, eA, hra, hrb, hd1, hrc⟩ := at_T32 HR3.out k.f0 g0 g1
        injection eA with eA
        subst eA
        obtain ⟨body, hbody⟩ : ∃ body, body = (ruleAt l3 k.f0).f1 := ⟨_, rfl⟩
        rw [show (rd_T32 l3 k.f0).f0 = sg from hsg0.symm] at hra
        rw [show (rd_T32 l3 k.f0).f1 = body from hbody.symm] at hrb hd1 hrc
        rw [show (ua.add (0 : Int).toNat) = ua by simp [Addr.add], show rd us 0 = k.f0 by rw [hus2, hus]; rfl] at hu1
        have hbl : body.length ≤ 1000000 := by
          have h1 : l3.all ruleOk = true := by have := HOK.out; simp only [gramOk, Bool.and_eq_true] at this; exact this.2
          have h2 := List.all_eq_true.1 h1 _ hrm
          simp only [ruleOk, Bool.and_eq_true, decide_eq_true_eq] at h2
          rw [hbody]
          exact h2.1.2
        obtain ⟨A2, d2, hcut, hcutC, hcutF⟩ := cut_one sa ss.length cs (by have := HI.out.sent.2; simpa using this)
        obtain ⟨U2, e2, hcuu, hcuuC, hcuuF⟩ := cut_oneI ua (usedTs (k.f2 ++ rest)).length cu (by have := HI.out.used.2; rw [← hnu] at this; omega)
        rw [← hnu1] at hcuu
        have HBD := Lib.hid hbody
        have HUS := Lib.hid (And.intro hus2 hus)
        have HGN := Lib.hid hgn
        have HBC := Lib.hid hrc
        rw [← hnu]
        have HNU := Lib.hid hnu1
        clear hgn hrm hsg0 hus hus2 hnu hnu1 hbody hkf g2 g3 g4 hrc
        go_wp2_with fail
        refine (gram_Sym_IsTerm.calls sg false _ HTM.out).mono ?_
        rintro e w2 ⟨rfl, hd2⟩
        have hI2 := HI.out.step hd2.below
        have hbg : w.heap.size < w2.heap.size := blk_lt hI2.gb
        have hol : out.length ≤ 1000000 := by have h1 := HY.out; have h2 := HYL.out; rw [← h1, List.length_append] at h2; omega
        have HUA := Lib.hid (pw_cell_below hI2.bel hu1)
        have HRA := Lib.hid (pw_cell_below hI2.bel hra)
        have HRB := Lib.hid (pw_cell_below hI2.bel hrb)
        have HG3 : Hid (w2.cell? ⟨w.heap.size, 3, none⟩ = some (.slice (some ad) l3.length c3)) := Lib.hid ((blk_cell hI2.gb 3).trans rfl)
        have HI2 := Lib.hid hI2
        have HU0 := Lib.hid hu1
        have HB0 := Lib.hid hrb
        clear hd2 hI2 HI hs1 hu1 hra hrb
        go_wp2_with fail
        refine RegT.regionT (F := ?FV) (fun W => W.cell? ua = some (.int .i64 k.f0) ∧ W.cell? ⟨w.heap.size, 3, none⟩ = some (.slice (some ad) l3.length c3) ∧ W.cell? (ad.add (k.f0.toNat * 2)) = some (.int .i64 sg) ∧ InDv w A0 c0 l0 A1 c1 l1 a2 (some ad) c3 l3 (some ua) cu us (.slice Ao out.length co) out (some sa) cs (sg :: ss) W) [fun v _ => v = .slice (some ua) nu cu, fun v _ => v = .int .i64 (nu : Int), fun v _ => v = .bool false, fun v _ => v = .bool false, fun v _ => v = .slice (some ua) nu cu, fun v _ => v = .pointer (some ua), fun v _ => v = .int .i64 k.f0, fun v _ => v = .bool false, fun v _ => v = .bool false, fun v _ => v = .bool false, fun v _ => v = .slice (some ua) nu cu, fun v _ => v = .pointer (some ua), fun v _ => v = .int .i64 k.f0, fun v _ => v = .pointer (some ⟨w.heap.size, 3, none⟩), fun v _ => v = .slice (some ad) l3.length c3, fun v _ => v = .int .i64 (l3.length : Int), fun v _ => v = .bool false, fun v _ => v = .bool false, fun v _ => v = .bool false, fun v _ => v = .pointer (some ⟨w.heap.size, 3, none⟩), fun v _ => v = .slice (some ad) l3.length c3, fun v _ => v = .slice (some ua) nu cu, fun v _ => v = .pointer (some ua), fun v _ => v = .int .i64 k.f0, fun v _ => v = .pointer (some (ad.add (k.f0.toNat * 2))), fun v _ => v = .pointer (some (ad.add (k.f0.toNat * 2))), fun v _ => v = .int .i64 sg, fun v _ => v = .int .i64 sg, fun v _ => v = .int .i64 sg, fun v _ => v = .bool false, fun v _ => v = .bool false] (fun i v => match i with  | _ => none) (fun i => match i with  | _ => false) 31 ?hFV (by kernel_rfl) (by kernel_rfl) (by kernel_rfl) (by kernel_rfl) (by kernel_rfl) (by simp) ⟨fun _ _ _ h _ => h, fun _ _ _ h _ => h, fun _ _ _ h _ => h, fun _ _ _ h _ => h, fun _ _ _ h _ => h, fun _ _ _ h _ => h, fun _ _ _ h _ => h, fun _ _ _ h _ => h, fun _ _ _ h _ => h, fun _ _ _ h _ => h, fun _ _ _ h _ => h, fun _ _ _ h _ => h, fun _ _ _ h _ => h, fun _ _ _ h _ => h, fun _ _ _ h _ => h, fun _ _ _ h _ => h, fun _ _ _ h _ => h, fun _ _ _ h _ => h, fun _ _ _ h _ => h, fun _ _ _ h _ => h, fun _ _ _ h _ => h, fun _ _ _ h _ => h, fun _ _ _ h _ => h, fun _ _ _ h _ => h, fun _ _ _ h _ => h, fun _ _ _ h _ => h, fun _ _ _ h _ => h, fun _ _ _ h _ => h, fun _ _ _ h _ => h, fun _ _ _ h _ => h, fun _ _ _ h _ => h, trivial⟩ ?hSV ⟨?o0V, ?o1V, ?o2V, ?o3V, ?o4V, ?o5V, ?o6V, ?o7V, ?o8V, ?o9V, ?o10V, ?o11V, ?o12V, ?o13V, ?o14V, ?o15V, ?o16V, ?o17V, ?o18V, ?o19V, ?o20V, ?o21V, ?o22V, ?o23V, ?o24V, ?o25V, ?o26V, ?o27V, ?o28V, ?o29V, ?o30V, trivial⟩ ?hendV
        case hFV => intro f; (try simp only [List.take_succ_cons, List.take_zero, RegT.fillIn, RegT.fv, Act.put, List.setIfInBounds_toArray, List.set_cons_zero, List.set_cons_succ]); exact rfl
        case hSV => exact ⟨HUA.out, HG3.out, HRA.out, HI2.out.step (below_drew (Below.refl _ _))⟩
        case o0V =>
          intro f W1 hS hd ho_ K hK
          clear hd
          clear ho_
          (go_simp; exact hK.out (.slice (some ua) nu cu) _ hS (Below.refl _ _) rfl (fun _ (h : (none : Option Nat) = some _) => by cases h) _ (by rfl))
        case o1V =>
          intro f W1 hS hd ho_ K hK
          obtain ⟨e27, -⟩ := hd
          clear ho_
          replace e27 : f 27 = .slice (some ua) nu cu := e27
          (go_simp; exact hK.out (.int .i64 (nu : Int)) _ hS (Below.refl _ _) rfl (fun _ (h : (none : Option Nat) = some _) => by cases h) _ (by first | (simp only [e27]; done) | (simp only [e27]; rfl) | rfl))
        case o2V =>
          intro f W1 hS hd ho_ K hK
          obtain ⟨e28, -⟩ := hd
          clear ho_
          replace e28 : f 28 = .int .i64 (nu : Int) := e28
          have hf := hnu0
          (go_simp; exact hK.out (.bool false) _ hS (Below.refl _ _) rfl (fun _ (h : (none : Option Nat) = some _) => by cases h) _ (by first | (simp only [e28, hf]; done) | (simp only [e28, hf]; rfl) | rfl))
        case o3V =>
          intro f W1 hS hd ho_ K hK
          obtain ⟨e29, -⟩ := hd
          clear ho_
          replace e29 : f 29 = .bool false := e29
          (go_simp; exact hK.out (.bool false) _ hS (Below.refl _ _) rfl (fun _ (h : (none : Option Nat) = some _) => by cases h) _ (by first | (simp only [e29]; done) | (simp only [e29]; rfl) | rfl))
        case o4V =>
          intro f W1 hS hd ho_ K hK
          obtain ⟨e30, -⟩ := hd
          clear ho_
          replace e30 : f 30 = .bool false := e30
          (go_simp; exact hK.out (.slice (some ua) nu cu) _ hS (Below.refl _ _) rfl (fun _ (h : (none : Option Nat) = some _) => by cases h) _ (by first | (simp only [e30]; done) | (simp only [e30]; rfl) | rfl))
        case o5V =>
          intro f W1 hS hd ho_ K hK
          obtain ⟨e31, e30, -⟩ := hd
          clear ho_
          replace e31 : f 31 = .slice (some ua) nu cu := e31
          replace e30 : f 30 = .bool false := e30
          (go_simp; exact hK.out (.pointer (some ua)) _ hS (Below.refl _ _) rfl (fun _ (h : (none : Option Nat) = some _) => by cases h) _ (by first | (simp only [e31, e30]; done) | (simp only [e31, e30]; rfl) | rfl))
        case o6V =>
          intro f W1 hS hd ho_ K hK
          obtain ⟨e32, e30, -⟩ := hd
          clear ho_
          replace e32 : f 32 = .pointer (some ua) := e32
          replace e30 : f 30 = .bool false := e30
          have q0 := hS.1
          have q1 := hS.2.1
          have q2 := hS.2.2.1
          (go_simp; exact hK.out (.int .i64 k.f0) _ hS (Below.refl _ _) rfl (fun _ (h : (none : Option Nat) = some _) => by cases h) _ (by first | (simp only [e32, e30]; done) | (simp only [e32, e30]; rfl) | rfl))
        case o7V =>
          intro f W1 hS hd ho_ K hK
          obtain ⟨e33, e30, -⟩ := hd
          clear ho_
          replace e33 : f 33 = .int .i64 k.f0 := e33
          replace e30 : f 30 = .bool false := e30
          have hf : decide (k.f0 < 0) = false := decide_eq_false (by omega)
          (go_simp; exact hK.out (.bool false) _ hS (Below.refl _ _) rfl (fun _ (h : (none : Option Nat) = some _) => by cases h) _ (by first | (simp only [e33, e30, hf]; done) | (simp only [e33, e30, hf]; rfl) | rfl))
        case o8V =>
          intro f W1 hS hd ho_ K hK
          obtain ⟨e30, e34, -⟩ := hd
          clear ho_
          replace e30 : f 30 = .bool false := e30
          replace e34 : f 34 = .bool false := e34
          (go_simp; exact hK.out (.bool false) _ hS (Below.refl _ _) rfl (fun _ (h : (none : Option Nat) = some _) => by cases h) _ (by first | (simp only [e30, e34]; done) | (simp only [e30, e34]; rfl) | rfl))
        case o9V =>
          intro f W1 hS hd ho_ K hK
          obtain ⟨e35, -, -⟩ := hd
          clear ho_
          replace e35 : f 35 = .bool false := e35
          (go_simp; exact hK.out (.bool false) _ hS (Below.refl _ _) rfl (fun _ (h : (none : Option Nat) = some _) => by cases h) _ (by first | (simp only [e35]; done) | (simp only [e35]; rfl) | rfl))
        case o10V =>
          intro f W1 hS hd ho_ K hK
          obtain ⟨e36, -⟩ := hd
          clear ho_
          replace e36 : f 36 = .bool false := e36
          (go_simp; exact hK.out (.slice (some ua) nu cu) _ hS (Below.refl _ _) rfl (fun _ (h : (none : Option Nat) = some _) => by cases h) _ (by first | (simp only [e36]; done) | (simp only [e36]; rfl) | rfl))
        case o11V =>
          intro f W1 hS hd ho_ K hK
          obtain ⟨e37, e36, -⟩ := hd
          clear ho_
          replace e37 : f 37 = .slice (some ua) nu cu := e37
          replace e36 : f 36 = .bool false := e36
          (go_simp; exact hK.out (.pointer (some ua)) _ hS (Below.refl _ _) rfl (fun _ (h : (none : Option Nat) = some _) => by cases h) _ (by first | (simp only [e37, e36]; done) | (simp only [e37, e36]; rfl) | rfl))
        case o12V =>
          intro f W1 hS hd ho_ K hK
          obtain ⟨e38, e36, -⟩ := hd
          clear ho_
          replace e38 : f 38 = .pointer (some ua) := e38
          replace e36 : f 36 = .bool false := e36
          have q0 := hS.1
          have q1 := hS.2.1
          have q2 := hS.2.2.1
          (go_simp; exact hK.out (.int .i64 k.f0) _ hS (Below.refl _ _) rfl (fun _ (h : (none : Option Nat) = some _) => by cases h) _ (by first | (simp only [e38, e36]; done) | (simp only [e38, e36]; rfl) | rfl))
        case o13V =>
          intro f W1 hS hd ho_ K hK
          obtain ⟨e36, -⟩ := hd
          clear ho_
          replace e36 : f 36 = .bool false := e36
          (go_simp; exact hK.out (.pointer (some ⟨w.heap.size, 3, none⟩)) _ hS (Below.refl _ _) rfl (fun _ (h : (none : Option Nat) = some _) => by cases h) _ (by first | (simp only [e36]; done) | (simp only [e36]; rfl) | rfl))
        case o14V =>
          intro f W1 hS hd ho_ K hK
          obtain ⟨e40, e36, -⟩ := hd
          clear ho_
          replace e40 : f 40 = .pointer (some ⟨w.heap.size, 3, none⟩) := e40
          replace e36 : f 36 = .bool false := e36
          have q0 := hS.1
          have q1 := hS.2.1
          have q2 := hS.2.2.1
          (go_simp; exact hK.out (.slice (some ad) l3.length c3) _ hS (Below.refl _ _) rfl (fun _ (h : (none : Option Nat) = some _) => by cases h) _ (by first | (simp only [e40, e36]; done) | (simp only [e40, e36]; rfl) | rfl))
        case o15V =>
          intro f W1 hS hd ho_ K hK
          obtain ⟨e41, e36, -⟩ := hd
          clear ho_
          replace e41 : f 41 = .slice (some ad) l3.length c3 := e41
          replace e36 : f 36 = .bool false := e36
          (go_simp; exact hK.out (.int .i64 (l3.length : Int)) _ hS (Below.refl _ _) rfl (fun _ (h : (none : Option Nat) = some _) => by cases h) _ (by first | (simp only [e41, e36]; done) | (simp only [e41, e36]; rfl) | rfl))
        case o16V =>
          intro f W1 hS hd ho_ K hK
          obtain ⟨e39, e42, e36, -⟩ := hd
          clear ho_
          replace e39 : f 39 = .int .i64 k.f0 := e39
          replace e42 : f 42 = .int .i64 (l3.length : Int) := e42
          replace e36 : f 36 = .bool false := e36
          have hf : decide (k.f0 ≥ (l3.length : Int)) = false := decide_eq_false (by omega)
          (go_simp; exact hK.out (.bool false) _ hS (Below.refl _ _) rfl (fun _ (h : (none : Option Nat) = some _) => by cases h) _ (by first | (simp only [e39, e42, e36, hf]; done) | (simp only [e39, e42, e36, hf]; rfl) | rfl))
        case o17V =>
          intro f W1 hS hd ho_ K hK
          obtain ⟨e36, e43, -⟩ := hd
          clear ho_
          replace e36 : f 36 = .bool false := e36
          replace e43 : f 43 = .bool false := e43
          (go_simp; exact hK.out (.bool false) _ hS (Below.refl _ _) rfl (fun _ (h : (none : Option Nat) = some _) => by cases h) _ (by first | (simp only [e36, e43]; done) | (simp only [e36, e43]; rfl) | rfl))
        case o18V =>
          intro f W1 hS hd ho_ K hK
          obtain ⟨e44, -, -⟩ := hd
          clear ho_
          replace e44 : f 44 = .bool false := e44
          (go_simp; exact hK.out (.bool false) _ hS (Below.refl _ _) rfl (fun _ (h : (none : Option Nat) = some _) => by cases h) _ (by first | (simp only [e44]; done) | (simp only [e44]; rfl) | rfl))
        case o19V =>
          intro f W1 hS hd ho_ K hK
          obtain ⟨e45, -⟩ := hd
          clear ho_
          replace e45 : f 45 = .bool false := e45
          (go_simp; exact hK.out (.pointer (some ⟨w.heap.size, 3, none⟩)) _ hS (Below.refl _ _) rfl (fun _ (h : (none : Option Nat) = some _) => by cases h) _ (by first | (simp only [e45]; done) | (simp only [e45]; rfl) | rfl))
        case o20V =>
          intro f W1 hS hd ho_ K hK
          obtain ⟨e46, e45, -⟩ := hd
          clear ho_
          replace e46 : f 46 = .pointer (some ⟨w.heap.size, 3, none⟩) := e46
          replace e45 : f 45 = .bool false := e45
          have q0 := hS.1
          have q1 := hS.2.1
          have q2 := hS.2.2.1
          (go_simp; exact hK.out (.slice (some ad) l3.length c3) _ hS (Below.refl _ _) rfl (fun _ (h : (none : Option Nat) = some _) => by cases h) _ (by first | (simp only [e46, e45]; done) | (simp only [e46, e45]; rfl) | rfl))
        case o21V =>
          intro f W1 hS hd ho_ K hK
          obtain ⟨e45, -⟩ := hd
          clear ho_
          replace e45 : f 45 = .bool false := e45
          (go_simp; exact hK.out (.slice (some ua) nu cu) _ hS (Below.refl _ _) rfl (fun _ (h : (none : Option Nat) = some _) => by cases h) _ (by first | (simp only [e45]; done) | (simp only [e45]; rfl) | rfl))
        case o22V =>
          intro f W1 hS hd ho_ K hK
          obtain ⟨e48, e45, -⟩ := hd
          clear ho_
          replace e48 : f 48 = .slice (some ua) nu cu := e48
          replace e45 : f 45 = .bool false := e45
          (go_simp; exact hK.out (.pointer (some ua)) _ hS (Below.refl _ _) rfl (fun _ (h : (none : Option Nat) = some _) => by cases h) _ (by first | (simp only [e48, e45]; done) | (simp only [e48, e45]; rfl) | rfl))
        case o23V =>
          intro f W1 hS hd ho_ K hK
          obtain ⟨e49, e45, -⟩ := hd
          clear ho_
          replace e49 : f 49 = .pointer (some ua) := e49
          replace e45 : f 45 = .bool false := e45
          have q0 := hS.1
          have q1 := hS.2.1
          have q2 := hS.2.2.1
          (go_simp; exact hK.out (.int .i64 k.f0) _ hS (Below.refl _ _) rfl (fun _ (h : (none : Option Nat) = some _) => by cases h) _ (by first | (simp only [e49, e45]; done) | (simp only [e49, e45]; rfl) | rfl))
        case o24V =>
          intro f W1 hS hd ho_ K hK
          obtain ⟨e47, e50, e45, -⟩ := hd
          clear ho_
          replace e47 : f 47 = .slice (some ad) l3.length c3 := e47
          replace e50 : f 50 = .int .i64 k.f0 := e50
          replace e45 : f 45 = .bool false := e45
          (go_simp; exact hK.out (.pointer (some (ad.add (k.f0.toNat * 2)))) _ hS (Below.refl _ _) rfl (fun _ (h : (none : Option Nat) = some _) => by cases h) _ (by first | (simp only [e47, e50, e45]; done) | (simp only [e47, e50, e45]; rfl) | rfl))
        case o25V =>
          intro f W1 hS hd ho_ K hK
          obtain ⟨e51, e45, -⟩ := hd
          clear ho_
          replace e51 : f 51 = .pointer (some (ad.add (k.f0.toNat * 2))) := e51
          replace e45 : f 45 = .bool false := e45
          (go_simp; exact hK.out (.pointer (some (ad.add (k.f0.toNat * 2)))) _ hS (Below.refl _ _) rfl (fun _ (h : (none : Option Nat) = some _) => by cases h) _ (by first | (simp only [e51, e45]; done) | (simp only [e51, e45]; rfl) | rfl))
        case o26V =>
          intro f W1 hS hd ho_ K hK
          obtain ⟨e52, e45, -⟩ := hd
          clear ho_
          replace e52 : f 52 = .pointer (some (ad.add (k.f0.toNat * 2))) := e52
          replace e45 : f 45 = .bool false := e45
          have q0 := hS.1
          have q1 := hS.2.1
          have q2 := hS.2.2.1
          (go_simp; exact hK.out (.int .i64 sg) _ hS (Below.refl _ _) rfl (fun _ (h : (none : Option Nat) = some _) => by cases h) _ (by first | (simp only [e52, e45]; done) | (simp only [e52, e45]; rfl) | rfl))
        case o27V =>
          intro f W1 hS hd ho_ K hK
          obtain ⟨e45, -⟩ := hd
          clear ho_
          replace e45 : f 45 = .bool false := e45
          (go_simp; exact hK.out (.int .i64 sg) _ hS (Below.refl _ _) rfl (fun _ (h : (none : Option Nat) = some _) => by cases h) _ (by first | (simp only [e45]; done) | (simp only [e45]; rfl) | rfl))
        case o28V =>
          intro f W1 hS hd ho_ K hK
          obtain ⟨e54, e45, -, -⟩ := hd
          clear ho_
          replace e54 : f 54 = .int .i64 sg := e54
          replace e45 : f 45 = .bool false := e45
          go_simp
          go_at_call 79
          refine (gram_Sym_Place.calls sg sg _ HPL.out).mono ?_
          rintro e w' ⟨rfl, hd_⟩
          have hb := hd_.below
          have hS' := And.intro (pw_cell_below hb hS.1) (And.intro (pw_cell_below hb hS.2.1) (And.intro (pw_cell_below hb hS.2.2.1) (hS.2.2.2.step hb)))
          exact hK.out (.int .i64 sg) _ hS' hb rfl (fun _ (h : (none : Option Nat) = some _) => by cases h) _ (by first | (simp only [e54, e45]; done) | (simp only [e54, e45]; rfl) | rfl)
        case o29V =>
          intro f W1 hS hd ho_ K hK
          obtain ⟨e53, e55, e45, -⟩ := hd
          clear ho_
          replace e53 : f 53 = .int .i64 sg := e53
          replace e55 : f 55 = .int .i64 sg := e55
          replace e45 : f 45 = .bool false := e45
          have hf := bne_self_eq_false sg
          (go_simp; exact hK.out (.bool false) _ hS (Below.refl _ _) rfl (fun _ (h : (none : Option Nat) = some _) => by cases h) _ (by first | (simp only [e53, e55, e45, hf]; done) | (simp only [e53, e55, e45, hf]; rfl) | rfl))
        case o30V =>
          intro f W1 hS hd ho_ K hK
          obtain ⟨e45, e56, -⟩ := hd
          clear ho_
          replace e45 : f 45 = .bool false := e45
          replace e56 : f 56 = .bool false := e56
          (go_simp; exact hK.out (.bool false) _ hS (Below.refl _ _) rfl (fun _ (h : (none : Option Nat) = some _) => by cases h) _ (by first | (simp only [e45, e56]; done) | (simp only [e45, e56]; rfl) | rfl))
        case hendV =>
          intro f W1 hS hr hbl
          have e57 := hr 30 _ _ (by omega) rfl rfl
          replace e57 : f 57 = .bool false := e57
          (try dsimp only)
          generalize f 57 = x57 at *
          subst e57
          try simp only [List.drop_succ_cons, List.drop_zero]
          have HIS := Lib.hid hS.2.2.2
          clear hS hr hbl
          go_wp2_with fail
          have q0 : W1.drew.cell? ua = some (.int .i64 k.f0) := pw_cell_below HIS.out.bel HU0.out
          have q1 : W1.drew.cell? ⟨w.heap.size, 3, none⟩ = some (.slice (some ad) l3.length c3) := (blk_cell HIS.out.gb 3).trans rfl
          have q2 : W1.drew.cell? ⟨(ad.add (k.f0.toNat * 2)).block, (ad.add (k.f0.toNat * 2)).off + 1, none⟩ = some (.slice B1 body.length d1) := pw_cell_below HIS.out.bel HB0.out
          have q0a : ((W1.alloc (.cells #[] 52)).drew).cell? ua = some (.int .i64 k.f0) := pw_cell_below (below_drew ((Below.refl _ W1).alloc (Nat.le_refl _) _)) (pw_cell_below HIS.out.bel HU0.out)
          have q1a : ((W1.alloc (.cells #[] 52)).drew).cell? ⟨w.heap.size, 3, none⟩ = some (.slice (some ad) l3.length c3) := pw_cell_below (below_drew ((Below.refl _ W1).alloc (Nat.le_refl _) _)) ((blk_cell HIS.out.gb 3).trans rfl)
          have q2a : ((W1.alloc (.cells #[] 52)).drew).cell? ⟨(ad.add (k.f0.toNat * 2)).block, (ad.add (k.f0.toNat * 2)).off + 1, none⟩ = some (.slice B1 body.length d1) := pw_cell_below (below_drew ((Below.refl _ W1).alloc (Nat.le_refl _) _)) (pw_cell_below HIS.out.bel HB0.out)
          have hsl : ss.length ≤ 1000000 := by have h1 := HC.out; have h2 := cntTs_len rest; rw [HSS.out, List.length_map]; simp only [cntTs] at h1; omega
          have hl1 : (([] : List Int).length + body.length) * 8 ≤ 140737488355328 := by simp; omega
          have hl2 : (([] ++ body : List Int).length + ss.length) * 8 ≤ 140737488355328 := by simp; omega
          have hBz : Below W1.heap.size W1 ((W1.alloc (.cells #[] 52)).drew) := below_drew ((Below.refl _ W1).alloc (Nat.le_refl _) _)
          have HOE : Hid (Kd.R (Kd.int .i64) 52 ((W1.alloc (.cells #[] 52)).drew) W1.heap.size (fun k => W1.heap.size ≤ k) (.slice (some ⟨W1.heap.size, 0, none⟩) 0 0) []) := Lib.hid ⟨fun k hk => Nat.le_of_eq (by simpa [Value.ownBlock] using hk), [], ⟨by simp, .inr ⟨W1.heap.size, 0, #[], rfl, Nat.le_refl _, blk_new W1 _, Nat.le_refl _, Nat.zero_le _, by simp, by simp⟩⟩, Reps.none _ _⟩
          have HBR : Hid (Kd.C (Kd.int .i64) ((W1.alloc (.cells #[] 52)).drew) B1 body.length body) := Lib.hid (Kd.C_below (Kd.C_below HBC.out HIS.out.bel) hBz)
          have HSF := Lib.hid (hcutF W1 _ sg ss rfl HIS.out.sent.1)
          have HBZ := Lib.hid hBz
          clear hBz
          go_region_law
            (first | (refine Kd.R_append_rows_step (Kd.int .i64) (Rr := Kd.K (Kd.int .i64) W1) (w0 := W1) (W := (W1.alloc (.cells #[] 52)).drew) W1.heap.size (by rfl) (.tmp 58) (.tmp 66) 30 52 (.int .i64 0) 8 (by rfl) Tryd.underlying30 info52 (by rfl) (by decide) (by decide) (.slice (some ⟨W1.heap.size, 0, none⟩) 0 0) [] body B1 body.length d1 (fun k => W1.heap.size ≤ k) (fun _ => False) (by rfl) (by rfl) HOE.out HBR.out (fun _ _ h => h) (fun _ h => h.elim) (fun k hk => Nat.le_trans HBZ.out.size hk) HBZ.out HBZ.out.size hl1 ?_; intro v4 w4 ho4 hb4 hg4 hat4; obtain ⟨A4, c4, e4⟩ := Kd.R_slice ho4; subst e4; have q0b : w4.cell? ua = some (.int .i64 k.f0) := pw_cell_below hb4 (pw_cell_below HIS.out.bel HU0.out)) | (refine Kd.R_append_rows_step (Kd.int .i64) (Rr := Kd.K (Kd.int .i64) W1) (w0 := W1) (W := w4) W1.heap.size (by rfl) (.tmp 67) (.tmp 69) 30 52 (.int .i64 0) 8 (by rfl) Tryd.underlying30 info52 (by rfl) (by decide) (by decide) (.slice A4 ([] ++ body).length c4) ([] ++ body) ss A2 ss.length d2 (fun k => W1.heap.size ≤ k) (fun _ => False) (by rfl) (by rfl) ho4 (Kd.C_below (Kd.F_now HSF.out) hb4) (fun _ _ h => h) (fun _ h => h.elim) (fun k hk => Nat.le_trans hb4.size hk) hb4 hb4.size hl2 ?_; intro v5 w5 ho5 hb5 hg5 hat5))
          all_goals
            obtain ⟨A5, c5, e5⟩ := Kd.R_slice ho5
            subst e5
            have hL : ([] ++ body) ++ ss = (k.f2 ++ rest).map (sgnT l3) := by rw [List.map_append, HGN.out.1, ← HBD.out, ← HSS.out, List.nil_append]
            rw [hL] at ho5
            rw [hL]
            have hLl : ((k.f2 ++ rest).map (sgnT l3)).length = body.length + ss.length := by rw [← hL]; simp
            have hown := Kd.R_lt HIS.out.row
            have hlt := blk_lt HIS.out.gb
            have HY2 : Hid (out ++ yieldTs (k.f2 ++ rest) = yt) := Lib.hid (by have := HY.out; rw [yieldTs, yieldT_eq, if_neg (by omega)] at this; rw [yieldTs_app]; exact this)
            have HC2 : Hid (cntTs (k.f2 ++ rest) ≤ 1000000) := Lib.hid (by have h1 := HC.out; have h2 := cntT_eq k; rw [cntTs_app]; simp only [cntTs] at h1; omega)
            have HK2 : Hid (∀ x ∈ k.f2 ++ rest, okD l3 x) := Lib.hid (fun x hx => by rcases List.mem_append.1 hx with h | h; exact HGN.out.2 x h; exact HKR.out x h)
            have HI5 : Hid (InDv w A0 c0 l0 A1 c1 l1 a2 (some ad) c3 l3 U2 e2 (usedTs (k.f2 ++ rest)) (.slice Ao out.length co) out A5 c5 ((k.f2 ++ rest).map (sgnT l3)) w5) := Lib.hid ⟨HIS.out.bel.trans (hb5.mono HIS.out.bel.size), blk_below HIS.out.gb hb5, Kd.R_below HIS.out.row hb5, ⟨Kd.F_mono (Kd.N_F (Kd.R_N ho5)) (fun j hj => ⟨by omega, fun e => by have := hown j e.symm; omega⟩), (Kd.R_reads' ho5).2.1⟩, ⟨hcuuF w k.f0 (usedTs (k.f2 ++ rest)) rfl (by have := HIS.out.used.1; rwa [HUS.out.1, HUS.out.2] at this), hcuuC⟩⟩
            have HLL := Lib.hid hLl
            clear hown hlt ho5 hb5 hg5 hat5 ho4 hb4 hg4 hat4 hL hLl
            (try simp only [List.getElem_toArray, List.getElem_cons_succ, List.getElem_cons_zero])
            (try simp only [Act.put, List.setIfInBounds_toArray, List.set_cons_zero, List.set_cons_succ])
            go_wp2
            go_roundw
            case rel => exact ⟨k.f2 ++ rest, A5, c5, _, out, U2, e2, rfl, rfl, rfl, HY2, HK2, HC2, HI5⟩
            case measure => have h1 := HLL.out; have h2 := HNU.out; simp only [lenV]; omega
end Go.Proofs.YtmdjmbdeeodehaaDoor.G
end
section
set_option linter.unusedVariables false
set_option linter.unusedSimpArgs false
namespace Go.Proofs.YtmdjmbdeeodehaaDoor.G
open Go Go.Proofs Go.Proofs.YtmdjmbdeeodehaaDoor Go.RowKit Go.Proofs.YtmdjmbdeeodehaaDoorW.PrintWords Go.Proofs.YtmdjmbdeeodehaaDoorW.PrintLast Go.Proofs.YtmdjmbdeeodehaaDoorW.PrintMore Go.Proofs.YtmdjmbdeeodehaaDoor.Pure
structure InH (w : World) (A0 : Option Addr) (c0 : Nat) (l0 : List ByteArray) (A1 : Option Addr) (c1 : Nat) (l1 : List ByteArray) (a2 : Int) (A3 : Option Addr) (c3 : Nat) (l3 : List GRule) (tb : Nat) (t : TTree) (T : Option Addr) (tc : Nat) (W : World) : Prop where
  bel : Below w.heap.size w W
  gb : W.heap[w.heap.size]? = some (.cells #[.slice A0 l0.length c0, .slice A1 l1.length c1, .int .i64 a2, .slice A3 l3.length c3] 25 (0, 0))
  tb' : W.heap[tb]? = some (.cells #[.int .i64 t.f0, .int .i64 t.f1, .slice T t.f2.length tc] 55 (0, 0))
  r0 : Kd.C Kd.string W A0 l0.length l0
  r1 : Kd.C Kd.string W A1 l1.length l1
  r3 : Kd.C k32 W A3 l3.length l3
  tr : Kd.C k55 W T t.f2.length t.f2
section
variable {w : World} {A0 : Option Addr} {c0 : Nat} {l0 : List ByteArray} {A1 : Option Addr} {c1 : Nat} {l1 : List ByteArray} {a2 : Int} {A3 : Option Addr} {c3 : Nat} {l3 : List GRule} {tb : Nat} {t : TTree} {T : Option Addr} {tc : Nat} {W W' : World}
theorem InH.step (h : InH w A0 c0 l0 A1 c1 l1 a2 A3 c3 l3 tb t T tc W) (hb : Below W.heap.size W W') : InH w A0 c0 l0 A1 c1 l1 a2 A3 c3 l3 tb t T tc W' := ⟨h.bel.trans (hb.mono h.bel.size), blk_below h.gb hb, blk_below h.tb' hb, Kd.C_below h.r0 hb, Kd.C_below h.r1 hb, Kd.C_below h.r3 hb, Kd.C_below h.tr hb⟩
theorem InH.g0 (h : InH w A0 c0 l0 A1 c1 l1 a2 A3 c3 l3 tb t T tc W) : W.cell? ⟨w.heap.size, 0, none⟩ = some (.slice A0 l0.length c0) := (blk_cell h.gb 0).trans rfl
theorem InH.g1 (h : InH w A0 c0 l0 A1 c1 l1 a2 A3 c3 l3 tb t T tc W) : W.cell? ⟨w.heap.size, 1, none⟩ = some (.slice A1 l1.length c1) := (blk_cell h.gb 1).trans rfl
theorem InH.g2 (h : InH w A0 c0 l0 A1 c1 l1 a2 A3 c3 l3 tb t T tc W) : W.cell? ⟨w.heap.size, 2, none⟩ = some (.int .i64 a2) := (blk_cell h.gb 2).trans rfl
theorem InH.g3 (h : InH w A0 c0 l0 A1 c1 l1 a2 A3 c3 l3 tb t T tc W) : W.cell? ⟨w.heap.size, 3, none⟩ = some (.slice A3 l3.length c3) := (blk_cell h.gb 3).trans rfl
theorem InH.t0 (h : InH w A0 c0 l0 A1 c1 l1 a2 A3 c3 l3 tb t T tc W) : W.cell? ⟨tb, 0, none⟩ = some (.int .i64 t.f0) := (blk_cell h.tb' 0).trans rfl
theorem InH.t1 (h : InH w A0 c0 l0 A1 c1 l1 a2 A3 c3 l3 tb t T tc W) : W.cell? ⟨tb, 1, none⟩ = some (.int .i64 t.f1) := (blk_cell h.tb' 1).trans rfl
theorem InH.t2 (h : InH w A0 c0 l0 A1 c1 l1 a2 A3 c3 l3 tb t T tc W) : W.cell? ⟨tb, 2, none⟩ = some (.slice T t.f2.length tc) := (blk_cell h.tb' 2).trans rfl
end
set_option maxHeartbeats 32000000 in
set_option maxRecDepth 100000 in
theorem treeDerives_calls (w : World) (hG : Laid w) (A0 : Option Addr) (c0 : Nat) (l0 : List ByteArray) (A1 : Option Addr) (c1 : Nat) (l1 : List ByteArray) (a2 : Int) (A3 : Option Addr) (c3 : Nat) (l3 : List GRule) (hg : GIn l0 l1 a2 l3) (h0 : l0.length ≤ c0) (h1 : l1.length ≤ c1) (h3 : l3.length ≤ c3)
    (hr0 : Kd.C Kd.string w A0 l0.length l0) (hr1 : Kd.C Kd.string w A1 l1.length l1) (hr3 : Kd.C k32 w A3 l3.length l3) (ps : List SPart) (Pp : Option Addr) (pc : Nat) (hps : ∀ p ∈ ps, symOk p.f0 = true ∧ symOk p.f1 = true ∧ symOk p.f2 = true) (hpc : ps.length ≤ pc) (hrp : Kd.C k157 w Pp ps.length ps) (hpl : ps.length ≤ 1048576) :
    Calls Tryd.prog 5 #[.agg #[.slice A0 l0.length c0, .slice A1 l1.length c1, .int .i64 a2, .slice A3 l3.length c3], .slice Pp ps.length pc] w fun e w' => e = .returned (.bool true) ∧ Below w.heap.size w w' := by
  have hu := Tryd.underlying25
  have hu2 := Tryd.underlying55
  have hu3 := Tryd.underlying58
  have hu5 := Tryd.underlying32
  have HG := Lib.hid hG
  obtain ⟨KS, hKS⟩ := Pure.Ev.out (small_f l0 l1 a2 l3 hg)
  have HKS := Lib.hid (hKS KS (Nat.le_refl _))
  have HIB : Hid (InB w A0 c0 l0 A1 c1 l1 a2 A3 c3 l3 (w.alloc (.cells #[.slice A0 l0.length c0, .slice A1 l1.length c1, .int .i64 a2, .slice A3 l3.length c3] 25))) := Lib.hid ⟨⟨blk_new w _, Kd.C_alloc hr0 _, Kd.C_alloc hr1 _, Kd.C_alloc hr3 _⟩, (Below.refl _ _).alloc (Nat.le_refl _) _⟩
  have HRP := Lib.hid hrp
  have HPS := Lib.hid hps
  have HH := Lib.hid hg
  have HR3 := Lib.hid hr3
  clear hG hKS hr0 hr1 hr3 hg hrp hps
  go_enter Tryd.func5, Tryd.ntmps5
  go_wp2_with fail
  refine (build_any Pp pc ps (by omega) (fun p hp => (HPS.out p hp).2.1) _ (Kd.C_below HRP.out HIB.out.bel)).mono ?_
  rintro e w3 ⟨t, T, tc, R, rc, hcn1, hsy, rfl, ⟨hT, htc⟩, ⟨hR, hrc⟩, hb3⟩
  have hbx : Below w3.heap.size w3 ((w3.alloc (.cells #[.int .i64 t.f0, .int .i64 t.f1, .slice T t.f2.length tc] 55)).alloc (.cells #[.int .i64 (toR t).f0, .int .i64 (toR t).f1, .slice R (toR t).f2.length rc] 58)) := ((Below.refl _ w3).alloc (Nat.le_refl _) _).alloc (by simp) _
  have hbt := blk_alloc (blk_new w3 (.cells #[.int .i64 t.f0, .int .i64 t.f1, .slice T t.f2.length tc] 55)) (.cells #[.int .i64 (toR t).f0, .int .i64 (toR t).f1, .slice R (toR t).f2.length rc] 58)
  have hIB := HIB.out.step (hb3.trans (hbx.mono hb3.size))
  have hTx := Kd.C_below hT hbx
  generalize hw4 : ((w3.alloc (.cells #[.int .i64 t.f0, .int .i64 t.f1, .slice T t.f2.length tc] 55)).alloc (.cells #[.int .i64 (toR t).f0, .int .i64 (toR t).f1, .slice R (toR t).f2.length rc] 58)) = w4 at hbx hbt hIB hTx
  generalize htb : w3.heap.size = tb at *
  have HI4 := Lib.hid (InH.mk (w := w) (tb := tb) (t := t) (tc := tc) hIB.bel hIB.box.1 hbt hIB.r0 hIB.r1 hIB.r3 hTx)
  have HSY := Lib.hid hsy
  clear hbx hbt hIB hTx hT hR hb3 hsy hrc HIB HRP HPS
  have z0 := HI4.out.g0
  have z1 := HI4.out.g1
  have z2 := HI4.out.g2
  have z3 := HI4.out.g3
  have hw4' := hw4
  go_wp2_with fail
  (try simp only [hw4'])
  refine (wickerlaw02_Small.calls KS A0 c0 l0 A1 c1 l1 a2 A3 c3 l3 _ _ HI4.out.r0 h0 HI4.out.r1 h1 HI4.out.r3 h3 HKS.out).mono ?_
  rintro e w5 ⟨rfl, hb5⟩
  have HI5 := Lib.hid (HI4.out.step hb5)
  clear hb5 HI4 z0 z1 z2 z3 hw4 hw4' htb
  cases hs : smallB l0 l1 l3 with
  | false =>
    clear hs
    go_wp2_with fail
    refine (awake3_calls _ (Laid.below HG.out HI5.out.bel)).mono ?_
    rintro e w9 ⟨rfl, hb9⟩
    have hB9 := HI5.out.bel.trans (hb9.mono HI5.out.bel.size)
    clear hb9
    go_wp2
    go_ret
    exact ⟨rfl, hB9⟩
  | true =>
    by_cases h80 : ps.length ≤ 80
    · have h80b : decide ((ps.length : Int) > 80) = false := decide_eq_false (by omega)
      have hcnt : cntT t ≤ 1000000 := by omega
      have z0 := HI5.out.g0
      have z1 := HI5.out.g1
      have z2 := HI5.out.g2
      have z3 := HI5.out.g3
      have x0 := HI5.out.t0
      have x1 := HI5.out.t1
      have x2 := HI5.out.t2
      by_cases hf0 : t.f0 < 0
      · have hf0b : decide (t.f0 < 0) = true := decide_eq_true hf0
        clear hs
        go_wp2_with fail
        clear z0 z1 z2 z3 x0 x1 x2
        refine (awake3_calls _ (Laid.below HG.out HI5.out.bel)).mono ?_
        rintro e w9 ⟨rfl, hb9⟩
        have hB9 := HI5.out.bel.trans (hb9.mono HI5.out.bel.size)
        clear hb9
        go_wp2
        go_ret
        exact ⟨rfl, hB9⟩
      · have hf0b : decide (t.f0 < 0) = false := decide_eq_false hf0
        obtain ⟨hok, hn0, hn1, hn3, _, hx0, hx1, _⟩ := small_ok HH.out hs
        have HOK := Lib.hid hok
        clear hs hx0 hx1 hok
        go_wp2_with fail
        refine (fits3_calls A0 c0 l0 A1 c1 l1 a2 A3 c3 l3 HOK.out h0 h1 h3 t T tc htc hcnt _ HI5.out.r0 HI5.out.r1 HI5.out.r3 HI5.out.tr).mono ?_
        rintro e w6 ⟨rfl, hb6⟩
        replace HI5 := Lib.hid (HI5.out.step hb6)
        clear hb6 z0 z1 z2 z3 x0 x1 x2
        by_cases hc : treeC l0 l1 a2 l3 t = 0
        · rw [show (treeC l0 l1 a2 l3 t == 0) = true from by rw [hc]; rfl]
          obtain ⟨-, hhd, -⟩ := treeC_ok HOK.out HSY.out hc
          have hft := treeC_at hc (by omega)
          have HHD := Lib.hid hhd
          have HFT := Lib.hid hft
          have hfi := fitT_in hft
          have g0 := hfi.1
          have g1 := hfi.2.1
          obtain ⟨ad, B1, d1, eA, hra, -⟩ := at_T32 HR3.out t.f0 g0 g1
          subst eA
          have HRA : Hid (w.cell? (ad.add (t.f0.toNat * 2)) = some (.int .i64 (ruleAt l3 t.f0).f0)) := Lib.hid hra
          obtain ⟨KU, hKU⟩ := Pure.Ev.out (used_f _ t (Nat.le_refl _) hcnt)
          have HKU := Lib.hid (hKU KU (Nat.le_refl _))
          obtain ⟨ys, hys⟩ : ∃ ys, yieldT t = ys := ⟨_, rfl⟩
          have HYS := Lib.hid hys
          have hyl : ys.length ≤ 1000000 := by rw [← hys]; exact Nat.le_trans (yieldT_len t) hcnt
          clear hc hhd hft hfi hra hKU hys HR3
          go_wp2_with fail
          refine RegT.regionT (F := ?FD) (InH w A0 c0 l0 A1 c1 l1 a2 (some ad) c3 l3 tb t T tc) [fun v _ => v = .agg #[.slice A0 l0.length c0, .slice A1 l1.length c1, .int .i64 a2, .slice (some ad) l3.length c3], fun v _ => v = .pointer (some ⟨w.heap.size, 3, none⟩), fun v _ => v = .slice (some ad) l3.length c3, fun v _ => v = .pointer (some ⟨tb, 0, none⟩), fun v _ => v = .int .i64 t.f0, fun v _ => v = .pointer (some (ad.add (t.f0.toNat * 2))), fun v _ => v = .pointer (some (ad.add (t.f0.toNat * 2))), fun v _ => v = .int .i64 (ruleAt l3 t.f0).f0, fun v _ => v = .agg #[.int .i64 t.f0, .int .i64 t.f1, .slice T t.f2.length tc], fun v W => ∃ U uc, v = .slice U (usedT t).length uc ∧ (usedT t).length ≤ uc ∧ Kd.C (Kd.int .i64) W U (usedT t).length (usedT t), fun v W => ∃ Y yc, v = .tuple #[.slice Y ys.length yc, .bool true] ∧ Kd.C (Kd.int .i64) W Y ys.length ys, fun v W => ∃ Y yc, v = .tuple #[.slice Y ys.length yc, .bool true] ∧ Kd.C (Kd.int .i64) W Y ys.length ys, fun v W => ∃ Y yc, v = .slice Y ys.length yc ∧ Kd.C (Kd.int .i64) W Y ys.length ys, fun v _ => v = .bool true, fun v W => ∃ Y yc, v = .slice Y ys.length yc ∧ Kd.C (Kd.int .i64) W Y ys.length ys] (fun i v => match i with  | _ => none) (fun i => match i with  | _ => false) 15 ?hFD (by kernel_rfl) (by kernel_rfl) (by kernel_rfl) (by kernel_rfl) (by kernel_rfl) (by simp) ⟨fun _ _ _ h _ => h, fun _ _ _ h _ => h, fun _ _ _ h _ => h, fun _ _ _ h _ => h, fun _ _ _ h _ => h, fun _ _ _ h _ => h, fun _ _ _ h _ => h, fun _ _ _ h _ => h, fun _ _ _ h _ => h, fun _ _ _ ⟨Y, yc, h1, h2, h3⟩ hb => ⟨Y, yc, h1, h2, Kd.C_below h3 hb⟩, fun _ _ _ ⟨Y, yc, h1, h3⟩ hb => ⟨Y, yc, h1, Kd.C_below h3 hb⟩, fun _ _ _ ⟨Y, yc, h1, h3⟩ hb => ⟨Y, yc, h1, Kd.C_below h3 hb⟩, fun _ _ _ ⟨Y, yc, h1, h3⟩ hb => ⟨Y, yc, h1, Kd.C_below h3 hb⟩, fun _ _ _ h _ => h, fun _ _ _ ⟨Y, yc, h1, h3⟩ hb => ⟨Y, yc, h1, Kd.C_below h3 hb⟩, trivial⟩ ?hSD ⟨?o0D, ?o1D, ?o2D, ?o3D, ?o4D, ?o5D, ?o6D, ?o7D, ?o8D, ?o9D, ?o10D, ?o11D, ?o12D, ?o13D, ?o14D, trivial⟩ ?hendD
          case hFD => intro f; (try simp only [List.take_succ_cons, List.take_zero, RegT.fillIn, RegT.fv, Act.put, List.setIfInBounds_toArray, List.set_cons_zero, List.set_cons_succ]); exact rfl
          case hSD => exact HI5.out.step (below_drew (Below.refl _ _))
          case o0D =>
            intro f W1 hS hd ho_ K hK
            clear hd
            clear ho_
            have z0 := hS.g0
            have z1 := hS.g1
            have z2 := hS.g2
            have z3 := hS.g3
            have x0 := hS.t0
            have x1 := hS.t1
            have x2 := hS.t2
            have y0 := pw_cell_below hS.bel HRA.out
            (go_simp; exact hK.out (.agg #[.slice A0 l0.length c0, .slice A1 l1.length c1, .int .i64 a2, .slice (some ad) l3.length c3]) _ hS (Below.refl _ _) rfl (fun _ (h : (none : Option Nat) = some _) => by cases h) _ (by rfl))
          case o1D =>
            intro f W1 hS hd ho_ K hK
            clear hd
            clear ho_
            (go_simp; exact hK.out (.pointer (some ⟨w.heap.size, 3, none⟩)) _ hS (Below.refl _ _) rfl (fun _ (h : (none : Option Nat) = some _) => by cases h) _ (by rfl))
          case o2D =>
            intro f W1 hS hd ho_ K hK
            obtain ⟨e38, -⟩ := hd
            clear ho_
            replace e38 : f 38 = .pointer (some ⟨w.heap.size, 3, none⟩) := e38
            have z0 := hS.g0
            have z1 := hS.g1
            have z2 := hS.g2
            have z3 := hS.g3
            have x0 := hS.t0
            have x1 := hS.t1
            have x2 := hS.t2
            have y0 := pw_cell_below hS.bel HRA.out
            (go_simp; exact hK.out (.slice (some ad) l3.length c3) _ hS (Below.refl _ _) rfl (fun _ (h : (none : Option Nat) = some _) => by cases h) _ (by first | (simp only [e38]; done) | (simp only [e38]; rfl) | rfl))
          case o3D =>
            intro f W1 hS hd ho_ K hK
            clear hd
            clear ho_
            (go_simp; exact hK.out (.pointer (some ⟨tb, 0, none⟩)) _ hS (Below.refl _ _) rfl (fun _ (h : (none : Option Nat) = some _) => by cases h) _ (by rfl))
          case o4D =>
            intro f W1 hS hd ho_ K hK
            obtain ⟨e40, -⟩ := hd
            clear ho_
            replace e40 : f 40 = .pointer (some ⟨tb, 0, none⟩) := e40
            have z0 := hS.g0
            have z1 := hS.g1
            have z2 := hS.g2
            have z3 := hS.g3
            have x0 := hS.t0
            have x1 := hS.t1
            have x2 := hS.t2
            have y0 := pw_cell_below hS.bel HRA.out
            (go_simp; exact hK.out (.int .i64 t.f0) _ hS (Below.refl _ _) rfl (fun _ (h : (none : Option Nat) = some _) => by cases h) _ (by first | (simp only [e40]; done) | (simp only [e40]; rfl) | rfl))
          case o5D =>
            intro f W1 hS hd ho_ K hK
            obtain ⟨e39, e41, -⟩ := hd
            clear ho_
            replace e39 : f 39 = .slice (some ad) l3.length c3 := e39
            replace e41 : f 41 = .int .i64 t.f0 := e41
            (go_simp; exact hK.out (.pointer (some (ad.add (t.f0.toNat * 2)))) _ hS (Below.refl _ _) rfl (fun _ (h : (none : Option Nat) = some _) => by cases h) _ (by first | (simp only [e39, e41]; done) | (simp only [e39, e41]; rfl) | rfl))
          case o6D =>
            intro f W1 hS hd ho_ K hK
            obtain ⟨e42, -⟩ := hd
            clear ho_
            replace e42 : f 42 = .pointer (some (ad.add (t.f0.toNat * 2))) := e42
            (go_simp; exact hK.out (.pointer (some (ad.add (t.f0.toNat * 2)))) _ hS (Below.refl _ _) rfl (fun _ (h : (none : Option Nat) = some _) => by cases h) _ (by first | (simp only [e42]; done) | (simp only [e42]; rfl) | rfl))
          case o7D =>
            intro f W1 hS hd ho_ K hK
            obtain ⟨e43, -⟩ := hd
            clear ho_
            replace e43 : f 43 = .pointer (some (ad.add (t.f0.toNat * 2))) := e43
            have z0 := hS.g0
            have z1 := hS.g1
            have z2 := hS.g2
            have z3 := hS.g3
            have x0 := hS.t0
            have x1 := hS.t1
            have x2 := hS.t2
            have y0 := pw_cell_below hS.bel HRA.out
            (go_simp; exact hK.out (.int .i64 (ruleAt l3 t.f0).f0) _ hS (Below.refl _ _) rfl (fun _ (h : (none : Option Nat) = some _) => by cases h) _ (by first | (simp only [e43]; done) | (simp only [e43]; rfl) | rfl))
          case o8D =>
            intro f W1 hS hd ho_ K hK
            clear hd
            clear ho_
            have z0 := hS.g0
            have z1 := hS.g1
            have z2 := hS.g2
            have z3 := hS.g3
            have x0 := hS.t0
            have x1 := hS.t1
            have x2 := hS.t2
            have y0 := pw_cell_below hS.bel HRA.out
            (go_simp; exact hK.out (.agg #[.int .i64 t.f0, .int .i64 t.f1, .slice T t.f2.length tc]) _ hS (Below.refl _ _) rfl (fun _ (h : (none : Option Nat) = some _) => by cases h) _ (by rfl))
          case o9D =>
            intro f W1 hS hd ho_ K hK
            obtain ⟨e45, -⟩ := hd
            clear ho_
            replace e45 : f 45 = .agg #[.int .i64 t.f0, .int .i64 t.f1, .slice T t.f2.length tc] := e45
            go_simp
            go_at_call 37
            refine (wickerlaw03_used.calls KU t.f0 t.f1 T tc t.f2 _ W1 hS.tr htc HKU.out).mono ?_
            rintro e w' ⟨v, rfl, hv, hb⟩
            obtain ⟨Y, yc, rfl, hl, hC⟩ := Kd.R_reads hv
            exact hK.out (.slice Y (usedT t).length yc) _ (hS.step hb) hb ⟨Y, yc, rfl, hl, hC⟩ (fun _ (h : (none : Option Nat) = some _) => by cases h) _ (by first | (simp only [e45]; done) | (simp only [e45]; rfl) | rfl)
          case o10D =>
            intro f W1 hS hd ho_ K hK
            obtain ⟨e37, e44, e46, -, -⟩ := hd
            clear ho_
            replace e37 : f 37 = .agg #[.slice A0 l0.length c0, .slice A1 l1.length c1, .int .i64 a2, .slice (some ad) l3.length c3] := e37
            replace e44 : f 44 = .int .i64 (ruleAt l3 t.f0).f0 := e44
            obtain ⟨U46, uc46, e46, hl46, hC46⟩ := e46
            go_simp
            go_at_call 36
            refine (derive_calls A0 c0 l0 A1 c1 l1 a2 (some ad) c3 l3 HOK.out HHD.out h3 t HFT.out hcnt U46 uc46 hl46 W1 hS.r3 hC46).mono ?_
            rintro e w' ⟨v, rfl, hv, hb⟩
            rw [HYS.out] at hv
            obtain ⟨Y, yc, rfl, hl, hC⟩ := Kd.R_reads hv
            exact hK.out (.tuple #[.slice Y ys.length yc, .bool true]) _ (hS.step hb) hb ⟨Y, yc, rfl, hC⟩ (fun _ (h : (none : Option Nat) = some _) => by cases h) _ (by first | (simp only [e37, e44, e46]; done) | (simp only [e37, e44, e46]; rfl) | rfl)
          case o11D =>
            intro f W1 hS hd ho_ K hK
            obtain ⟨e47, -⟩ := hd
            clear ho_
            obtain ⟨Y47, yc47, e47, hC47⟩ := e47
            go_simp
            exact hK.out (.tuple #[.slice Y47 ys.length yc47, .bool true]) _ hS (Below.refl _ _) ⟨Y47, yc47, rfl, hC47⟩ (fun _ (h : (none : Option Nat) = some _) => by cases h) _ (by first | (simp only [e47]; done) | (simp only [e47]; rfl) | rfl)
          case o12D =>
            intro f W1 hS hd ho_ K hK
            obtain ⟨e36, -⟩ := hd
            clear ho_
            obtain ⟨Y36, yc36, e36, hC36⟩ := e36
            go_simp
            exact hK.out (.slice Y36 ys.length yc36) _ hS (Below.refl _ _) ⟨Y36, yc36, rfl, hC36⟩ (fun _ (h : (none : Option Nat) = some _) => by cases h) _ (by first | (simp only [e36]; done) | (simp only [e36]; rfl) | rfl)
          case o13D =>
            intro f W1 hS hd ho_ K hK
            obtain ⟨e36, -⟩ := hd
            clear ho_
            obtain ⟨Y36, yc36, e36, hC36⟩ := e36
            go_simp
            exact hK.out (.bool true) _ hS (Below.refl _ _) rfl (fun _ (h : (none : Option Nat) = some _) => by cases h) _ (by first | (simp only [e36]; done) | (simp only [e36]; rfl) | rfl)
          case o14D =>
            intro f W1 hS hd ho_ K hK
            obtain ⟨e48, -, -, -, -, -, -, -, -, -, -, -, -, -, -, -⟩ := hd
            clear ho_
            obtain ⟨Y48, yc48, e48, hC48⟩ := e48
            go_simp
            exact hK.out (.slice Y48 ys.length yc48) _ hS (Below.refl _ _) ⟨Y48, yc48, rfl, hC48⟩ (fun _ (h : (none : Option Nat) = some _) => by cases h) _ (by first | (simp only [e48]; done) | (simp only [e48]; rfl) | rfl)
          case hendD =>
            intro f W1 hS hr hbl
            have e49 := hr 13 _ _ (by omega) rfl rfl
            replace e49 : f 49 = .bool true := e49
            have e7 := hr 14 _ _ (by omega) rfl rfl
            obtain ⟨Y7, yc7, e7, hC7⟩ := e7
            (try dsimp only)
            generalize f 49 = x49 at *
            subst e49
            generalize f 7 = x7 at *
            subst e7
            try simp only [List.drop_succ_cons, List.drop_zero]
            have HS := Lib.hid hS
            have HY7 := Lib.hid hC7
            have x0 := hS.t0
            have x1 := hS.t1
            have x2 := hS.t2
            clear hS hr hbl hC7
            go_wp2_with fail
            refine (yield_calls t hcnt T tc htc _ HS.out.tr).mono ?_
            rintro e w7 ⟨v, rfl, hv, hb7⟩
            obtain ⟨Y, yc, rfl⟩ := Kd.R_slice hv
            rw [HYS.out]
            replace HS := Lib.hid (HS.out.step hb7)
            replace HY7 := Lib.hid (Kd.C_below HY7.out hb7)
            clear x0 x1 x2 hv hb7
            have x0 := HS.out.t0
            have x1 := HS.out.t1
            have x2 := HS.out.t2
            go_wp2_with fail
            refine (yield_calls t hcnt T tc htc _ HS.out.tr).mono ?_
            rintro e w8 ⟨v, rfl, hv, hb8⟩
            rw [HYS.out] at hv
            obtain ⟨Y2, yc2, rfl, hl2, hC2⟩ := Kd.R_reads hv
            replace HS := Lib.hid (HS.out.step hb8)
            replace HY7 := Lib.hid (Kd.C_below HY7.out hb8)
            have HY2 := Lib.hid hC2
            clear x0 x1 x2 hv hb8 hC2
            go_wp2_with fail
            go_loopw [63] (fun i wr => ∃ j : Nat, j ≤ ys.length ∧ i = .int .i64 j ∧ Hid (Below w8.heap.size w8 wr)) (fun i _ => ys.length - (intOf i).toNat)
            case atStart => exact ⟨0, Nat.zero_le _, rfl, Lib.hid (Below.refl _ _)⟩
            case round =>
              obtain ⟨j, hj, rfl, HB⟩ := hrel
              by_cases hjl : j < ys.length
              · obtain ⟨ya, e1, hy1⟩ := Kd.at_int (Kd.C_below HY7.out HB.out) (j : Int) (by omega) (by omega)
                obtain ⟨yb, e2, hy2⟩ := Kd.at_int (Kd.C_below HY2.out HB.out) (j : Int) (by omega) (by omega)
                subst e1
                subst e2
                obtain ⟨yj, hyj⟩ : ∃ yj, rd ys (j : Int) = yj := ⟨_, rfl⟩
                rw [hyj] at hy1 hy2
                have hne := bne_self_eq_false yj
                have hj0 : 0 ≤ (j : Int) := Int.natCast_nonneg _
                have hj1 : (j : Int) < (ys.length : Int) := by omega
                rw [Int.toNat_natCast] at hy1 hy2
                have HJ := Lib.hid hjl
                clear hyj
                go_wp2
                go_roundw
                case rel => exact ⟨j + 1, HJ.out, by go_num, HB⟩
                case measure => have := HJ.out; simp [intOf]; omega
              · obtain rfl : j = ys.length := by omega
                go_wp2_with fail
                have hbb := HS.out.bel.trans (HB.out.mono HS.out.bel.size)
                refine (awake3_calls _ (Laid.below HG.out hbb)).mono ?_
                rintro e w9 ⟨rfl, hb9⟩
                have hB9 := hbb.trans (hb9.mono hbb.size)
                clear hb9
                go_wp2
                go_ret
                exact ⟨rfl, hB9⟩
        · rw [show (treeC l0 l1 a2 l3 t == 0) = false from beq_eq_false_iff_ne.2 hc]
          clear hc
          go_wp2_with fail
          refine (awake3_calls _ (Laid.below HG.out HI5.out.bel)).mono ?_
          rintro e w9 ⟨rfl, hb9⟩
          have hB9 := HI5.out.bel.trans (hb9.mono HI5.out.bel.size)
          clear hb9
          go_wp2
          go_ret
          exact ⟨rfl, hB9⟩
    · have h80b : decide ((ps.length : Int) > 80) = true := decide_eq_true (by omega)
      clear hs
      have z0 := HI5.out.g0
      have z1 := HI5.out.g1
      have z2 := HI5.out.g2
      have z3 := HI5.out.g3
      have x0 := HI5.out.t0
      have x1 := HI5.out.t1
      have x2 := HI5.out.t2
      go_wp2_with fail
      clear z0 z1 z2 z3 x0 x1 x2
      refine (awake3_calls _ (Laid.below HG.out HI5.out.bel)).mono ?_
      rintro e w9 ⟨rfl, hb9⟩
      have hB9 := HI5.out.bel.trans (hb9.mono HI5.out.bel.size)
      clear hb9
      go_wp2
      go_ret
      exact ⟨rfl, hB9⟩
end Go.Proofs.YtmdjmbdeeodehaaDoor.G
end
namespace Go.Proofs.YtmdjmbdeeodehaaDoor.treeDerives
open Go Go.Proofs.YtmdjmbdeeodehaaDoorOpen Go.ChangeShapes Go.WideShapes Go.ChangeAt Go.RowKit
open Go.ChangeMaps (open_string shut_string)
set_option linter.unusedVariables false
theorem own : ownKnob Tryd.prog.godebug = none := by kernel_rfl
theorem laidOut : laidOutB Tryd.prog = true := by kernel_rfl
def laid : List (String × DataW Unit) := [("math/bits.deBruijn32tab", Rows.laid_math_bits_deBruijn32tab), ("math/bits.deBruijn64tab", Rows.laid_math_bits_deBruijn64tab), ("internal/strconv.uint64pow10", Rows.laid_internal_strconv_uint64pow10)]
theorem laid_in : (("internal/strconv.uint64pow10", Lib.tabData .u64 Lib.pow10Tab) : String × DataW Unit) ∈ laid := by
  rw [show (Lib.tabData .u64 Lib.pow10Tab : DataW Unit) = Rows.laid_internal_strconv_uint64pow10 by kernel_rfl]
  exact List.Mem.tail _ (List.Mem.tail _ (List.Mem.head _))
theorem laid_met (os : Os) (args : Array Value) : laidMetH Tryd.prog laid ((World.laidAll Tryd.prog os laid).forCall (fun _ _ => 0) ⟨#[], args, []⟩).memory := by
  rw [Go.MakeChecks.laidMetH_plain _ _ _ (by kernel_rfl)]
  exact laidMet_laidAll args (by kernel_rfl) (by kernel_rfl)
theorem laid_met0 (os : Os) (args : Array Value) : laidMet Tryd.prog laid ((World.laidAll Tryd.prog os laid).forCall (fun _ _ => 0) ⟨#[], args, []⟩).memory := laidMet_laidAll args (by kernel_rfl) (by kernel_rfl)
theorem reads (os : Os) {H : Type} (enc : TypeId × Value → H) : ∃ x, DataW.whole enc Tryd.prog ((World.laidAll Tryd.prog os laid).forCall (fun _ _ => 0) ⟨#[], #[.agg #[.slice none 0 0, .slice none 0 0, .int .i64 0, .slice none 0 0], .slice none 0 0], []⟩).memory Tryd.f5.params.toList Rows.treeDerivesSpec.vars false (#[.agg #[.slice none 0 0, .slice none 0 0, .int .i64 0, .slice none 0 0], .slice none 0 0]).toList 8 = some ([.agg [.nil, .nil, .lit (.int .i64 0), .nil], .nil], [], x) := ⟨[], by kernel_rfl⟩
set_option maxRecDepth 100000 in
theorem lifted (os : Os) (started : os.Started) (H : Type) (enc : TypeId × Value → H) (F : Stop.Interp) :
    ReturnsInHanded {} Tryd.checked os 5 .any ((Rows.OpenSpec.upto Rows.treeDerivesSpec).preRow enc Tryd.prog Tryd.f5 Rows.treeDerivesUptoRow.domain false Rows.treeDerivesUptoRow.laid) (((Rows.OpenSpec.upto Rows.treeDerivesSpec).at F).post enc Tryd.prog Tryd.f5 false true false false) := by
  obtain ⟨places, hx⟩ := reads os enc
  refine returnsInHanded_of_row (C := Tryd.checked) (s := (Rows.OpenSpec.upto Rows.treeDerivesSpec)) own started (by kernel_rfl) Tryd.func5
    (witness_row_at (enc := enc) (C := Tryd.checked) false (World.laidAll Tryd.prog os laid) #[.agg #[.slice none 0 0, .slice none 0 0, .int .i64 0, .slice none 0 0], .slice none 0 0] (World.laidAll_os _ _ _) (by kernel_rfl) (by kernel_rfl) (by kernel_rfl)
      (OpenSpec.preRow_of_cond 8 hx (by kernel_rfl) (fun k hk => by cases hk; kernel_rfl) (by kernel_rfl) (laid_met os _))) ?_
  intro W base args ds gs before hval0 hW _ hcond hsz0 hL _ _
  have hbulk : Rows.uptoBulkAll (ds ++ gs) ≤ 1048576 := of_decide_eq_true (hcond _ rfl)
  have hsz : (DataW.weightsEach Tryd.prog (Tryd.f5.params.toList ++ Rows.treeDerivesSpec.plain.varTypes Tryd.prog) (ds ++ gs)).all (· ≤ reachBytes) = true := hsz0
  have hval : ∀ (j : Nat) t v, Tryd.f5.params[j]? = some t → args[j]? = some v → Value.okWide Tryd.prog W .any base t v := hval0
  have hW' := hW
  obtain ⟨p, q, hA0, hV, rfl, hfz, hnd⟩ := hW
  have hA : DataW.TrodAll enc Tryd.prog W 0 (fun _ => true) true Tryd.f5.params.toList args.toList ds p := hA0
  rw [Tryd.params5] at hA hval hsz
  obtain ⟨v0, vs0, d0, ds0, p0, q0, hargs, rfl, rfl, h0, r0⟩ := trodAll_cons hA
  obtain ⟨v1, vs1, d1, ds1, p1, q1, rfl, rfl, rfl, h1, r1⟩ := trodAll_cons r0
  obtain ⟨rfl, rfl, rfl⟩ := trodAll_nil r1
  obtain rfl : args = #[v0, v1] := by cases args; simp_all
  obtain ⟨rfl, rfl⟩ := trodVars_none hV
  have k0 := h0
  have lt0 : ∀ x ∈ p0, x.block < W.heap.size := by obtain ⟨m, hm⟩ := k0; exact DataW.trod_lt m _ _ _ hm
  obtain ⟨A0a, c0a, l0a, A0b, c0b, l0b, i0, A0d, c0d, l0d, rfl, ⟨hr0a, hc0a⟩, ⟨hr0b, hc0b⟩, ⟨hr0d, hc0d⟩, gin0⟩ := Go.Proofs.YtmdjmbdeeodehaaDoor.G.open_gram (hval 0 25 v0 rfl rfl) h0 (Go.Proofs.YtmdjmbdeeodehaaDoorOpen.weigh hsz (j := 0) rfl rfl)
  have k1 := h1
  have lt1 : ∀ x ∈ p1, x.block < W.heap.size := by obtain ⟨m, hm⟩ := k1; exact DataW.trod_lt m _ _ _ hm
  obtain ⟨l1, A1, c1, rfl, gp1, hc1, hr1⟩ := Go.Proofs.YtmdjmbdeeodehaaDoor.G.open_parts (hval 1 51 v1 rfl rfl) h1 (Go.Proofs.YtmdjmbdeeodehaaDoorOpen.weigh hsz (j := 1) rfl rfl)
  clear hA0 hval0 hsz0 hsz
  refine (Go.Proofs.YtmdjmbdeeodehaaDoor.G.treeDerives_calls W (laid_of (by kernel_rfl) laid_in hL) _ _ l0a _ _ l0b i0 _ _ l0d gin0 hc0a hc0b hc0d hr0a hr0b hr0d l1 _ _ gp1 hc1 hr1 (by have hq := Go.Proofs.YtmdjmbdeeodehaaDoor.G.parts_bulk k1; have hm := Go.Proofs.YtmdjmbdeeodehaaDoor.G.bulk_mem (d := d1) (l := [d0, d1] ++ []) (by simp); exact Nat.le_trans hq (Nat.le_trans hm hbulk))).mono fun e W' hpost => ?_
  obtain ⟨he, bel⟩ : e = .returned (.bool true) ∧ Below W.heap.size W W' := hpost
  subst he
  exact ⟨_, rfl, _, _, _, [], _, [], hW', trodAll_mk1 (shut_bool Tryd.underlying4 _), (trodAll_cons_mk (Below.trod laidOut (by kernel_rfl) (of_decide_eq_true (by kernel_rfl)) k0 bel lt0) (trodAll_cons_mk (Below.trod laidOut (by kernel_rfl) (of_decide_eq_true (by kernel_rfl)) k1 bel lt1) trodAll_mk0)), rfl, bel.frame _, fun h => by cases h⟩
theorem over : Rows.TreeDerivesUptoSaid :=
  OpenClaim.holds_of_cond 5 Tryd.f5 rfl rfl rfl rfl rfl rfl rfl ⟨rfl, rfl, rfl, rfl, rfl⟩ rfl rfl rfl rfl rfl (by kernel_rfl) Tryd.func5 (by kernel_rfl)
    (of_decide_eq_true (by kernel_rfl)) (by unfold Func.isWrapper; first | (rw [if_pos (by decide +kernel)]; kernel_rfl) | (rw [if_neg (by decide +kernel)]; exact ⟨rfl, rfl⟩))
    (fun os started H enc _ F => by rw [OpenClaim.pre_eq_preRow]; exact lifted os started H enc F)
theorem carded : Rows.TreeDerivesUptoCardSaid :=
  Claim7.holds_tied_plain_at .later [] [.data, .data, .data] true (true, "0c877ec8b1f63600cbff811b53e1e164aa019ccd5cd30c3b202bac2b752e5ce1") true
    over (fun _ h => by cases h) (by kernel_rfl) (fun _ h => by cases h) treeDerivesUpto_row_tie rfl ⟨rfl, rfl⟩ (by kernel_rfl) rfl
    (fun f fn hf hfn => by
      obtain rfl : f = 5 := Option.some.inj ((show Tryd.prog.funcNamed Rows.treeDerivesUptoRow.func = some 5 by kernel_rfl).symm.trans hf) |>.symm
      obtain rfl : fn = Tryd.f5 := (Option.some.inj (Tryd.func5.symm.trans hfn)).symm
      exact ⟨by kernel_rfl, fun j t ht => by
        rw [Tryd.params5] at ht
        rcases j with _ | j
        · obtain rfl : t = 25 := by simpa using ht.symm
          exact (show Tryd.prog.wantsStandIn 25 = false by kernel_rfl)
        rcases j with _ | j
        · obtain rfl : t = 51 := by simpa using ht.symm
          exact (show Tryd.prog.wantsStandIn 51 = false by kernel_rfl)
        simp at ht⟩)
    (by kernel_rfl)
#print axioms carded
end Go.Proofs.YtmdjmbdeeodehaaDoor.treeDerives
namespace Go.Proofs.YtmdjmbdeeodehaaDoor
theorem treeDerivesUpto_holds : Rows.TreeDerivesUptoCardSaid := treeDerives.carded
end Go.Proofs.YtmdjmbdeeodehaaDoor
