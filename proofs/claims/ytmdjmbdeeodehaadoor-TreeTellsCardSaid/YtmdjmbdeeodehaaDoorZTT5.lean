/- TreeTells of the law03 answers true for every grammar and every two lists of parts: yields, counts, sameness and texts of the built trees are the same by the program and by the document: part 6 of 6 of its proof, packed by a program of this session out of the texts AppC, TreeB, TreeN, TreeA, TreeK, TreeR, TreeT, LTreeTells. -/
import Derived.Test.YtmdjmbdeeodehaaDoorZTT4
import Derived.Laws.Append
import Derived.Deep.DeepCutAuto
import Derived.Deep.LoopGhost
import Derived.WalkSpells
import Derived.Test.YtmdjmbdeeodehaaDoorRows
import Derived.Test.YtmdjmbdeeodehaaDoorTie
import Derived.Test.YtmdjmbdeeodehaaDoorCards
import Derived.WalkKit
import Derived.ProofKit
import Derived.OpenShut
import Derived.ShutString
import Derived.ChangeOld
import Derived.ChangeVars
import Derived.ChangeSame
import Derived.JoinedOf
import Derived.Below
import Derived.SizedLaws
import Derived.Handed
import Derived.LaidLaws
import Derived.LaidHandle
import Derived.Lay
import Derived.MakeChecks
import Derived.Stop.Joined
import Derived.SevenTiedAt
section
set_option linter.unusedVariables false
set_option linter.unusedSimpArgs false
namespace Go.Proofs.YtmdjmbdeeodehaaDoor.AppC
open Go Go.Proofs Go.RowKit Go.Proofs.YtmdjmbdeeodehaaDoorW.PrintWords
section
variable {P : Program} {α : Type}
theorem run_full (d : Kd α) {W : World} (t ty e : TypeId) (z : Value) (bytes : Nat) (ht : P.underlying t = some (.slice e)) (hinfo : (P.info? e).map (fun i => (i.zero, i.size, i.bytes)) = some (some z, d.sz, bytes)) (hz : z.cells.size = d.sz) (hb0 : 0 < bytes)
    (B : Option Addr) (n : Nat) (l : List α) (A : Option Addr) (m c : Nat) (ys : List α) (HB : Kd.C d W B n l) (HA : Kd.C d W A m ys) (hl : (n + m) * bytes ≤ 140737488355328) :
    ∃ A1 c1 w1, (Builtin.append_ #[t, t] ty #[.slice B n n, .slice A m c]).run P W = .ok (.slice A1 (n + m) c1) w1 ∧ n + m ≤ c1 ∧ Kd.C d w1 A1 (n + m) (l ++ ys) ∧ Below W.heap.size W w1 ∧ (0 < m → A1 = some ⟨W.heap.size, 0, none⟩ ∧ W.heap.size < w1.heap.size) := by
  obtain ⟨i0, hi, hzz⟩ := Option.map_eq_some_iff.1 hinfo
  simp only [Prod.mk.injEq] at hzz
  obtain ⟨hz0, hz1, hz2⟩ := hzz
  have hlen : n + m ≤ 140737488355328 := Nat.le_trans (Nat.le_mul_of_pos_right _ hb0) hl
  rcases Nat.eq_zero_or_pos m with h0 | h0
  · subst h0
    obtain rfl : ys = [] := List.eq_nil_of_length_eq_zero HA.1
    refine ⟨B, n, W, ?_, Nat.le_refl _, by rw [List.append_nil]; exact HB, Below.refl _ _, fun h => absurd h (by omega)⟩
    cases A with
    | none => cases B <;> simp [Builtin.append_, run_underlying ht, sizeOf, typeInfo, hi, Builtin.lenOf, Builtin.firstCells, storeCells]
    | some ad =>
      have hf := run_firstCells_some (P := P) W i0.size 0 ad 0 c [] (by simp) (by simp)
      cases B <;> simp [Builtin.append_, run_underlying ht, sizeOf, typeInfo, hi, Builtin.lenOf, hf, storeCells]
  obtain ⟨ad, rfl, _⟩ := HA.2.2 h0
  obtain ⟨news, hnr, hnc⟩ := ReadsRow.inner_ HA
  have hnl : news.length = m * d.sz := by rw [hnr.1, HA.1]
  have fin : ∀ (olds : List Value) (cp : Nat), Reps (d.K W) d.sz l olds → n + m ≤ cp → ∀ cur : Array Value, (∀ (j : Nat) (u : Value), (olds ++ news)[j]? = some u → cur[j]? = some u) → Kd.C d (W.drew.alloc (.cells cur e)) (some ⟨W.heap.size, 0, none⟩) (n + m) (l ++ ys) := by
    intro olds cp hor hcp cur hcur
    have hb : Below W.heap.size W (W.drew.alloc (.cells cur e)) := (below_drew (Below.refl _ _)).alloc (Nat.le_refl _) _
    have hrep := Kd.reps_append hor hnr
    refine ⟨by rw [List.length_append, HB.1, HA.1], by omega, fun _ => ⟨_, rfl, fun j p hj => ?_⟩⟩
    have hjl : j < (l ++ ys).length := (List.getElem?_eq_some_iff.1 hj).1
    have hK := hrep.2 j p hj
    refine ⟨_, d.K_len hK, d.K_below hb hK, fun i u hu => ?_⟩
    rw [List.getElem?_take] at hu
    split at hu
    · rw [List.getElem?_drop] at hu
      rw [add_plain]
      have hk := heap_alloc_new W.drew (.cells cur e)
      have h2 : (W.drew.alloc (.cells cur e)).heap[W.heap.size]? = some (.cells cur e (0, 0)) := hk
      rw [blk_cell h2]
      exact hcur _ _ hu
    · cases hu
  have hgl : ∀ (olds : List Value) (x : Array Value), ∀ (j : Nat) (u : Value), (olds ++ news)[j]? = some u → (olds.toArray ++ news.toArray ++ x)[j]? = some u := by
    intro olds x j u hu
    have hj := (List.getElem?_eq_some_iff.1 hu).1
    rw [Array.getElem?_append_left (by simpa using hj)]
    simpa using hu
  rcases B with _ | b
  · have hn0 : n = 0 := by
      rcases Nat.eq_zero_or_pos n with h | h
      · exact h
      · obtain ⟨ad, h2, _⟩ := HB.2.2 h; cases h2
    subst hn0
    obtain rfl : l = [] := List.eq_nil_of_length_eq_zero HB.1
    have hr := run_append_nil (P := P) W t ty e i0 z ht hi hz0 ad m c news (by rw [hz1]; exact hnl) hnc h0 (by omega) (by rw [hz2]; rw [Nat.zero_add] at hl; omega)
    refine ⟨_, grownCap W m 0 e, _, by rw [Nat.zero_add]; exact hr, by rw [Nat.zero_add]; exact grownCap_ge W m 0 e, fin [] _ (Reps.none _ _) (by rw [Nat.zero_add]; exact grownCap_ge W m 0 e) _ (fun j u hu => ?_), (below_drew (Below.refl _ _)).alloc (Nat.le_refl _) _, fun _ => ⟨rfl, by simp⟩⟩
    have := hgl [] (Builtin.zeroCells z.cells (grownCap W m 0 e - m)) j u hu
    simpa using this
  · obtain ⟨olds, hor, hoc⟩ := ReadsRow.inner_ HB
    have hol : olds.length = n * d.sz := by rw [hor.1, HB.1]
    have hr := run_append_grow (P := P) W t ty e i0 z ht hi hz0 b n n olds (by rw [hz1]; exact hol) hoc ad m c news (by rw [hz1]; exact hnl) hnc (by omega) (by omega) (by rw [hz2]; exact growslice_fits (by omega) hl)
    exact ⟨_, _, _, hr, grownCap_ge W (n + m) n e, fin olds _ hor (grownCap_ge W (n + m) n e) _ (hgl olds _), (below_drew (Below.refl _ _)).alloc (Nat.le_refl _) _, fun _ => ⟨rfl, by simp⟩⟩
variable {ops : Array Oper} {o : Oper} {a : Act} {K : Act → World → Prop} {Q : Exit → Act → World → Prop}
theorem step_full (d : Kd α) {W : World} (hw : Region.wanted o (yielded ops a.tmps) = true) (s x : Operand) (t e : TypeId) (z : Value) (bytes : Nat)
    (ho : o.op = .call { callee := .builtin .append, args := #[s, x], argTypes := #[t, t] })
    (ht : P.underlying t = some (.slice e)) (hinfo : (P.info? e).map (fun i => (i.zero, i.size, i.bytes)) = some (some z, d.sz, bytes)) (hz : z.cells.size = d.sz) (hb0 : 0 < bytes)
    (B : Option Addr) (n : Nat) (l : List α) (A : Option Addr) (m c : Nat) (ys : List α) (hs : a.eval s = .slice B n n) (hx : a.eval x = .slice A m c) (HB : Kd.C d W B n l) (HA : Kd.C d W A m ys) (hl : (n + m) * bytes ≤ 140737488355328)
    (h : ∀ A1 c1 w1, n + m ≤ c1 → Kd.C d w1 A1 (n + m) (l ++ ys) → Below W.heap.size W w1 → (0 < m → A1 = some ⟨W.heap.size, 0, none⟩ ∧ W.heap.size < w1.heap.size) → K (a.put o.dst (.slice A1 (n + m) c1)) w1) :
    if Region.wanted o (yielded ops a.tmps) = true then Oper.wp P o a W K Q else K (a.put o.dst undef) W := by
  obtain ⟨A1, c1, w1, hr, h1, h2, h3, h4⟩ := run_full (P := P) d t o.type e z bytes ht hinfo hz hb0 B n l A m c ys HB HA hl
  rw [if_pos hw]
  unfold Oper.wp execOp
  simp only [ho, resolve, invoke, builtin, Sem.run_bind, Sem.run_pure, Result.andThen_ok, List.map_toArray, List.map_cons, List.map_nil, hs, hx, hr]
  exact h A1 c1 w1 h1 h2 h3 h4
theorem row_full (d : Kd α) {rest : List Oper} {W : World} (hgd : o.guard = none) (s x : Operand) (t e : TypeId) (z : Value) (bytes : Nat)
    (ho : o.op = .call { callee := .builtin .append, args := #[s, x], argTypes := #[t, t] })
    (ht : P.underlying t = some (.slice e)) (hinfo : (P.info? e).map (fun i => (i.zero, i.size, i.bytes)) = some (some z, d.sz, bytes)) (hz : z.cells.size = d.sz) (hb0 : 0 < bytes)
    (B : Option Addr) (n : Nat) (l : List α) (A : Option Addr) (m c : Nat) (ys : List α) (hs : a.eval s = .slice B n n) (hx : a.eval x = .slice A m c) (HB : Kd.C d W B n l) (HA : Kd.C d W A m ys) (hl : (n + m) * bytes ≤ 140737488355328)
    (h : ∀ A1 c1 w1, n + m ≤ c1 → Kd.C d w1 A1 (n + m) (l ++ ys) → Below W.heap.size W w1 → (0 < m → A1 = some ⟨W.heap.size, 0, none⟩ ∧ W.heap.size < w1.heap.size) → wpList P ops Q rest (a.put o.dst (.slice A1 (n + m) c1)) w1) : wpList P ops Q (o :: rest) a W := by
  obtain ⟨A1, c1, w1, hr, h1, h2, h3, h4⟩ := run_full (P := P) d t o.type e z bytes ht hinfo hz hb0 B n l A m c ys HB HA hl
  refine wpList_plain hgd fun K hK => ?_
  unfold Oper.wp execOp
  simp only [ho, resolve, invoke, builtin, Sem.run_bind, Sem.run_pure, Result.andThen_ok, List.map_toArray, List.map_cons, List.map_nil, hs, hx, hr]
  exact hK _ _ (h A1 c1 w1 h1 h2 h3 h4)
theorem one_C (d : Kd α) (W : World) (e : TypeId) (x : α) (cs : List Value) (hk : d.K W x cs) : Kd.C d (W.alloc (.cells cs.toArray e)) (some ⟨W.heap.size, 0, none⟩) 1 [x] := by
  have hb : Below W.heap.size W (W.alloc (.cells cs.toArray e)) := (Below.refl _ _).alloc (Nat.le_refl _) _
  refine ⟨rfl, by omega, fun _ => ⟨_, rfl, fun j p hj => ?_⟩⟩
  have hj0 : j = 0 := by have := (List.getElem?_eq_some_iff.1 hj).1; simpa using this
  subst hj0
  have : x = p := by simpa using hj
  subst this
  refine ⟨cs, d.K_len hk, d.K_below hb hk, fun i u hu => ?_⟩
  rw [Nat.zero_mul, Nat.zero_add, add_plain, blk_cell (heap_alloc_new W _)]
  simpa using hu
theorem lit_C (d : Kd α) (W : World) (e : TypeId) (l : List α) (cs : List Value) (hk : Reps (d.K W) d.sz l cs) (hm : l.length ≤ 9223372036854775807) : Kd.C d (W.alloc (.cells cs.toArray e)) (some ⟨W.heap.size, 0, none⟩) l.length l := by
  have hb : Below W.heap.size W (W.alloc (.cells cs.toArray e)) := (Below.refl _ _).alloc (Nat.le_refl _) _
  refine ⟨rfl, hm, fun _ => ⟨_, rfl, fun j p hj => ?_⟩⟩
  have hK := hk.2 j p hj
  refine ⟨_, d.K_len hK, d.K_below hb hK, fun i u hu => ?_⟩
  rw [List.getElem?_take] at hu
  split at hu
  · rw [List.getElem?_drop] at hu
    rw [add_plain, blk_cell (heap_alloc_new W _)]
    simpa using hu
  · cases hu
def elder (d : Kd α) (ws : World) : Kd α where
  sz := d.sz
  E := []
  K := fun _ x cs => d.K ws x cs
  M := fun _ _ _ x cs => d.K ws x cs
  K_len := fun h => d.K_len h
  K_one := fun h => d.K_one h
  K_below := fun _ h => h
  K_of_M := fun h => h
  M_mono := fun _ h => h
  M_bound := fun h => h
  M_move := fun _ h => h
  M_lower := fun _ h => h
theorem C_elder {d : Kd α} {ws W : World} {A : Option Addr} {n : Nat} {l : List α} (h : Kd.C d ws A n l) (hb : Below ws.heap.size ws W) : Kd.C (elder d ws) W A n l := h.imp_ hb (fun _ _ hp => hp)
theorem elder_C {d : Kd α} {ws W : World} {A : Option Addr} {n : Nat} {l : List α} (h : Kd.C (elder d ws) W A n l) (hb : Below ws.heap.size ws W) : Kd.C d W A n l := ReadsRow.imp_ h (Below.refl _ _) (fun _ _ hp => d.K_below hb hp)
theorem elder_far {d : Kd α} {ws W : World} {A : Option Addr} {n : Nat} {l : List α} {b : Nat} (h : Kd.C (elder d ws) W A n l) (hne : ∀ ad, A = some ad → n ≠ 0 → ad.block ≠ b) (j : Nat) (v : Value) : Kd.C (elder d ws) (W.setCell ⟨b, j, none⟩ v) A n l :=
  ⟨h.1, h.2.1, fun hn => by
    obtain ⟨ad, e, hc⟩ := h.2.2 hn
    refine ⟨ad, e, fun j p hj => ?_⟩
    obtain ⟨c, hs, hr, hcell⟩ := hc j p hj
    refine ⟨c, hs, hr, fun i u hu => ?_⟩
    have hne2 := hne ad e (by omega)
    refine (World.cell?_setCell_other W _ _ v (fun he => hne2 ?_)).trans (hcell i u hu)
    have h2 := congrArg Addr.block he
    have h3 : ∀ m, (ad.add m).block = ad.block := fun m => by unfold Addr.add; split <;> rfl
    rw [h3] at h2
    exact h2.symm⟩
theorem C_drop {d : Kd α} {W : World} {A : Option Addr} {n c : Nat} {l : List α} (h : Kd.C d W A n l) (k : Nat) (hk : k ≤ n) (hc : n ≤ c) : Kd.C d W (if c = k then A else A.map (·.add (k * d.sz))) (n - k) (l.drop k) := by
  refine ⟨by rw [List.length_drop, h.1], by have := h.2.1; omega, fun hp => ?_⟩
  obtain ⟨ad, rfl, hcell⟩ := h.2.2 (by omega)
  rw [if_neg (by omega)]
  refine ⟨ad.add (k * d.sz), rfl, fun j p hj => ?_⟩
  rw [List.getElem?_drop] at hj
  obtain ⟨cs, hs, hr, hcc⟩ := hcell (k + j) p hj
  refine ⟨cs, hs, hr, fun i u hu => ?_⟩
  have h1 := hcc i u hu
  have ha : ∀ x y : Nat, (ad.add x).add y = ad.add (x + y) := fun x y => by
    unfold Addr.add
    by_cases h1 : x = 0 <;> by_cases h2 : y = 0 <;> simp [h1, h2, Nat.add_assoc]
  rw [ha, show k * d.sz + (j * d.sz + i) = (k + j) * d.sz + i by rw [Nat.add_mul]; omega]
  exact h1
theorem C_take {d : Kd α} {W : World} {A : Option Addr} {n : Nat} {l : List α} (h : Kd.C d W A n l) (k : Nat) (hk : k ≤ n) : Kd.C d W A k (l.take k) := by
  refine ⟨by rw [List.length_take, h.1]; omega, by have := h.2.1; omega, fun hp => ?_⟩
  obtain ⟨ad, e, hc⟩ := h.2.2 (by omega)
  refine ⟨ad, e, fun j p hj => ?_⟩
  rw [List.getElem?_take] at hj
  split at hj
  · exact hc j p hj
  · cases hj
theorem C_empty (d : Kd α) (W : World) (A : Option Addr) : Kd.C d W A 0 [] := ⟨rfl, by omega, fun h => absurd h (by omega)⟩
end
end Go.Proofs.YtmdjmbdeeodehaaDoor.AppC
end
section
set_option linter.unusedVariables false
set_option linter.unusedSimpArgs false
namespace Go.Proofs.YtmdjmbdeeodehaaDoor.G
open Go Go.Proofs Go.Proofs.YtmdjmbdeeodehaaDoor Go.RowKit Go.Proofs.YtmdjmbdeeodehaaDoorW.PrintWords Go.Proofs.YtmdjmbdeeodehaaDoorW.PrintLast Go.Proofs.YtmdjmbdeeodehaaDoorW.PrintMore Go.Proofs.YtmdjmbdeeodehaaDoor.Pure
attribute [local go_sem] max2_int min2_int max_two min_two
abbrev SPart := S157
def bkN (n : Nat) (p : SPart) : Nat := if 0 < p.f2 then (if (n : Int) < p.f2 then n else p.f2.toNat) else 0
theorem bkN_le (n : Nat) (p : SPart) : bkN n p ≤ n := by unfold bkN; split <;> (try split) <;> omega
def bStep (st : List TTree) (p : SPart) : List TTree := st.take (st.length - bkN st.length p) ++ [⟨p.f0, p.f1, st.drop (st.length - bkN st.length p)⟩]
def bAll : List SPart → List TTree → List TTree
  | [], st => st
  | p :: l, st => bAll l (bStep st p)
theorem infoT : (Tryd.prog.info? 55).map (fun i => (i.zero, i.size, i.bytes)) = some (some (.agg #[.int .i64 0, .int .i64 0, .slice none 0 0]), 3, 40) := by kernel_rfl
theorem infoR : (Tryd.prog.info? 58).map (fun i => (i.zero, i.size, i.bytes)) = some (some (.agg #[.int .i64 0, .int .i64 0, .slice none 0 0]), 3, 40) := by kernel_rfl
theorem stepP {pb : Nat} {o : Obj} {ws W W' : World} (h : W.heap[pb]? = some o ∧ Below ws.heap.size ws W) (hb : Below W.heap.size W W') : W'.heap[pb]? = some o ∧ Below ws.heap.size ws W' := ⟨blk_below h.1 hb, h.2.trans (hb.mono h.2.size)⟩
theorem fresh_of {W w1 : World} {A1 : Option Addr} {k c1 : Nat} (hnew : 0 < k → A1 = some ⟨W.heap.size, 0, none⟩ ∧ W.heap.size < w1.heap.size) {q : Nat} (hq : RegT.blS (.slice A1 k c1) = some q) : W.heap.size ≤ q ∧ q < w1.heap.size := by
  cases A1 with
  | none => cases hq
  | some a =>
    have hq' : (if k = 0 then none else some a.block) = some q := hq
    by_cases h0 : k = 0
    · rw [if_pos h0] at hq'; cases hq'
    · rw [if_neg h0] at hq'
      obtain ⟨h1, h2⟩ := hnew (by omega)
      injection h1 with h1
      injection hq' with hq'
      rw [h1] at hq'
      have hq2 : W.heap.size = q := hq'
      omega
theorem inh_of {f : Tmp → Value} {i d : Nat} {A : Option Addr} {k c : Nat} {x y : Value} (e : f d = .slice A k c) : ∀ q, RegT.blL 2 (.agg #[x, y, .slice A k c]) = some q → RegT.blS (f d) = some q := fun q h => by rw [e]; exact h
theorem ap_of {A : Option Addr} {k c b : Nat} {x y : Value} (h : ∀ q, RegT.blL 2 (.agg #[x, y, .slice A k c]) = some q → RegT.blP (.pointer (some ⟨b, 0, none⟩)) ≠ some q) : ∀ ad, A = some ad → k ≠ 0 → ad.block ≠ b := by
  intro ad e hk he
  subst e
  refine h ad.block ?_ (by rw [he]; rfl)
  show (if k = 0 then none else some ad.block) = some ad.block
  rw [if_neg hk]
def okB (w : World) : Nat → Prop := fun k => w.heap.size + 1 < k
def farA (w : World) (A : Option Addr) (n : Nat) : Prop := ∀ ad, A = some ad → n ≠ 0 → okB w ad.block
def feet {α : Type} (d : Kd α) (ok : Nat → Prop) : Kd α where
  sz := d.sz
  E := []
  K := fun W x cs => Kd.FK d W ok x cs
  M := fun _ _ _ _ _ => False
  K_len := fun h => d.K_len (Kd.FK_now h)
  K_one := fun h => d.K_one (Kd.FK_now h)
  K_below := fun hb h => Kd.FK_below h hb
  K_of_M := fun h => h.elim
  M_mono := fun _ h => h
  M_bound := fun h => h
  M_move := fun _ h => h
  M_lower := fun _ h => h
theorem F_of {α : Type} {d : Kd α} {ok : Nat → Prop} {W : World} {A : Option Addr} {n : Nat} {l : List α} (h : Kd.C (feet d ok) W A n l) (hA : ∀ ad, A = some ad → n ≠ 0 → ok ad.block) : Kd.F d W ok A n l := fun W' hW =>
  ⟨h.1, h.2.1, fun hn => by
    obtain ⟨ad, e, hc⟩ := h.2.2 hn
    refine ⟨ad, e, fun j p hj => ?_⟩
    obtain ⟨c, hs, hr, hcell⟩ := hc j p hj
    refine ⟨c, hs, hr W' hW, fun i u hu => ?_⟩
    have h1 := hcell i u hu
    have h2 := World.block_lt_of_cell? W _ h1
    have hb : ∀ m, (ad.add m).block = ad.block := fun m => by unfold Addr.add; split <;> rfl
    rw [hb] at h2
    have h3 := hW _ (hA ad e (by omega)) h2
    rw [← h1]
    show W'.cell? (ad.add (j * d.sz + i)) = W.cell? (ad.add (j * d.sz + i))
    simp [World.cell?, hb, h3]⟩
theorem far_new {w W w1 : World} {A1 : Option Addr} {m n : Nat} (hnew : 0 < m → A1 = some ⟨W.heap.size, 0, none⟩ ∧ W.heap.size < w1.heap.size) (hm : n ≠ 0 → 0 < m) (h : okB w W.heap.size) : farA w A1 n := fun ad e hn => by
  obtain ⟨h1, _⟩ := hnew (hm hn)
  rw [h1] at e
  injection e with e
  rw [← e]
  exact h
theorem results_two {P : Program} {fn : Func} {p q : Tmp} {ty ty2 : TypeId} (h : fn.results = #[.cell p ty, .cell q ty2]) (tmps : Array Value) (w : World) (g g2 : Nat) (t t2 : TypeId) (cs cs2 : Array Value) (d d2 : TypeDesc)
    (hp : tmps.getD p undef = .pointer (some ⟨g, 0, none⟩)) (hg : w.heap[g]? = some (.cells cs t (0, 0))) (hu : P.underlying ty = some d) (hd : (match d with | .struct _ | .array _ _ => true | _ => false) = true) (hi : (P.info? ty).map (·.size) = some cs.size)
    (hp2 : tmps.getD q undef = .pointer (some ⟨g2, 0, none⟩)) (hg2 : w.heap[g2]? = some (.cells cs2 t2 (0, 0))) (hu2 : P.underlying ty2 = some d2) (hd2 : (match d2 with | .struct _ | .array _ _ => true | _ => false) = true) (hi2 : (P.info? ty2).map (·.size) = some cs2.size) :
    (results fn tmps).run P w = .ok (.tuple #[.agg cs, .agg cs2]) w := by
  have hp' : tmps[p]?.getD undef = .pointer (some ⟨g, 0, none⟩) := by simpa using hp
  have hp2' : tmps[q]?.getD undef = .pointer (some ⟨g2, 0, none⟩) := by simpa using hp2
  simp [results, h, hp', hp2', asAddr, run_loadVar_row w g t ty cs _ d hg hu hd hi, run_loadVar_row w g2 t2 ty2 cs2 _ d2 hg2 hu2 hd2 hi2]
theorem boxed {α : Type} {d : Kd α} {ws W : World} {b t k : Nat} {A : Option Addr} {l : List α} {z0 z1 z2 x0 x1 x2 : Value} (hb : Below ws.heap.size ws W) (hg : ws.heap.size ≤ b) (hz : W.heap[b]? = some (.cells #[z0, z1, z2] t (0, 0))) (hC : Kd.C (AppC.elder d ws) W A k l) (hap : ∀ ad, A = some ad → k ≠ 0 → ad.block ≠ b) :
    Below ws.heap.size ws (((W.setCell ⟨b, 0, none⟩ x0).setCell ⟨b, 1, none⟩ x1).setCell ⟨b, 2, none⟩ x2) ∧ (((W.setCell ⟨b, 0, none⟩ x0).setCell ⟨b, 1, none⟩ x1).setCell ⟨b, 2, none⟩ x2).heap[b]? = some (.cells #[x0, x1, x2] t (0, 0)) ∧ Kd.C d (((W.setCell ⟨b, 0, none⟩ x0).setCell ⟨b, 1, none⟩ x1).setCell ⟨b, 2, none⟩ x2) A k l := by
  have h1 : Below ws.heap.size ws (((W.setCell ⟨b, 0, none⟩ x0).setCell ⟨b, 1, none⟩ x1).setCell ⟨b, 2, none⟩ x2) := ((hb.setCell hg _).setCell hg _).setCell hg _
  exact ⟨h1, blk_set (blk_set (blk_set hz 0 x0) 1 x1) 2 x2, AppC.elder_C (AppC.elder_far (AppC.elder_far (AppC.elder_far hC hap 0 x0) hap 1 x1) hap 2 x2) h1⟩
structure InX11 (w ws : World) (p : SPart) (k : Nat) (st : List TTree) (rs : List RTree) (A B : Option Addr) (x : TTree) (y : RTree) (bx by_ : Nat) (Tx : Option Addr) (tcx : Nat) (Ty : Option Addr) (tcy : Nat) (W : World) : Prop where
  bel : Below ws.heap.size ws W
  big : okB w ws.heap.size ∧ ws.heap.size ≤ W.heap.size
  s : Kd.F k55 W (okB w) A st.length st
  r : Kd.F k58 W (okB w) B st.length rs
  bx : W.heap[bx]? = some (.cells #[.int .i64 p.f0, .int .i64 p.f1, .slice Tx k tcx] 55 (0, 0))
  by_ : W.heap[by_]? = some (.cells #[.int .i64 p.f0, .int .i64 p.f1, .slice Ty k tcy] 58 (0, 0))
  xc : Kd.F k55 W (okB w) Tx k x.f2 ∧ k ≤ tcx ∧ x.f0 = p.f0 ∧ x.f1 = p.f1
  yc : Kd.F k58 W (okB w) Ty k y.f2 ∧ k ≤ tcy ∧ y.f0 = p.f0 ∧ y.f1 = p.f1
section
variable {w ws : World} {p : SPart} {k : Nat} {st : List TTree} {rs : List RTree} {A B : Option Addr} {x : TTree} {y : RTree} {bx by_ : Nat} {Tx : Option Addr} {tcx : Nat} {Ty : Option Addr} {tcy : Nat} {W W' : World}
theorem InX11.step (h : InX11 w ws p k st rs A B x y bx by_ Tx tcx Ty tcy W) (hb : Below W.heap.size W W') : InX11 w ws p k st rs A B x y bx by_ Tx tcx Ty tcy W' := ⟨h.bel.trans (hb.mono h.bel.size), ⟨h.big.1, Nat.le_trans h.big.2 hb.size⟩, Kd.F_below h.s hb, Kd.F_below h.r hb, blk_below h.bx hb, blk_below h.by_ hb, ⟨Kd.F_below h.xc.1 hb, h.xc.2⟩, ⟨Kd.F_below h.yc.1 hb, h.yc.2⟩⟩
theorem InX11.x0 (h : InX11 w ws p k st rs A B x y bx by_ Tx tcx Ty tcy W) : W.cell? ⟨bx, 0, none⟩ = some (.int .i64 p.f0) := (blk_cell h.bx 0).trans rfl
theorem InX11.x1 (h : InX11 w ws p k st rs A B x y bx by_ Tx tcx Ty tcy W) : W.cell? ⟨bx, 1, none⟩ = some (.int .i64 p.f1) := (blk_cell h.bx 1).trans rfl
theorem InX11.x2 (h : InX11 w ws p k st rs A B x y bx by_ Tx tcx Ty tcy W) : W.cell? ⟨bx, 2, none⟩ = some (.slice Tx k tcx) := (blk_cell h.bx 2).trans rfl
theorem InX11.y0 (h : InX11 w ws p k st rs A B x y bx by_ Tx tcx Ty tcy W) : W.cell? ⟨by_, 0, none⟩ = some (.int .i64 p.f0) := (blk_cell h.by_ 0).trans rfl
theorem InX11.y1 (h : InX11 w ws p k st rs A B x y bx by_ Tx tcx Ty tcy W) : W.cell? ⟨by_, 1, none⟩ = some (.int .i64 p.f1) := (blk_cell h.by_ 1).trans rfl
theorem InX11.y2 (h : InX11 w ws p k st rs A B x y bx by_ Tx tcx Ty tcy W) : W.cell? ⟨by_, 2, none⟩ = some (.slice Ty k tcy) := (blk_cell h.by_ 2).trans rfl
theorem InX11.xk (h : InX11 w ws p k st rs A B x y bx by_ Tx tcx Ty tcy W) : (feet k55 (okB w)).K W x [.int .i64 p.f0, .int .i64 p.f1, .slice Tx k tcx] := by
  have e := Kd.F_len h.xc.1
  have := k55_mkF W (okB w) x (A2 := Tx) (c2 := tcx) (by rw [e]; exact h.xc.2.1) (by rw [e]; exact h.xc.1)
  rw [h.xc.2.2.1, h.xc.2.2.2, e] at this; exact this
theorem InX11.yk (h : InX11 w ws p k st rs A B x y bx by_ Tx tcx Ty tcy W) : (feet k58 (okB w)).K W y [.int .i64 p.f0, .int .i64 p.f1, .slice Ty k tcy] := by
  have e := Kd.F_len h.yc.1
  have := k58_mkF W (okB w) y (A2 := Ty) (c2 := tcy) (by rw [e]; exact h.yc.2.1) (by rw [e]; exact h.yc.1)
  rw [h.yc.2.2.1, h.yc.2.2.2, e] at this; exact this
theorem InX11.sk (h : InX11 w ws p k st rs A B x y bx by_ Tx tcx Ty tcy W) (k : Nat) : Kd.C (feet k55 (okB w)) W A (st.length - k) (st.take (st.length - k)) := AppC.C_take (d := feet k55 (okB w)) (Kd.F_rows h.s) _ (Nat.sub_le _ _)
theorem InX11.rk (h : InX11 w ws p k st rs A B x y bx by_ Tx tcx Ty tcy W) (k : Nat) : Kd.C (feet k58 (okB w)) W B (st.length - k) (rs.take (st.length - k)) := AppC.C_take (d := feet k58 (okB w)) (Kd.F_rows h.r) _ (Nat.sub_le _ _)
end
theorem cut_tail {α : Type} (d : Kd α) (t e : TypeId) {i : TypeInfo} (ht : Tryd.prog.underlying t = some (.slice e)) (hi : Tryd.prog.info? e = some i) (hsz : i.size = d.sz) (A : Option Addr) (n c k : Nat) (hk : k ≤ n) (hc : n ≤ c) :
    ∃ A2 c2, (∀ W : World, (Instr.slice t (.slice A n c) (some (.int .i64 ((n : Int) - (k : Int)))) none none).run Tryd.prog W = .ok (.slice A2 k c2) W) ∧ ∀ (W : World) (l : List α), Kd.C d W A n l → Kd.C d W A2 k (l.drop (n - k)) := by
  have h1 := cut_from (P := Tryd.prog) t e .i64 ht hi d.sz hsz A n c ((n : Int) - (k : Int)) (by omega) (by omega)
  have e1 : ((n : Int) - (k : Int)).toNat = n - k := by omega
  refine ⟨if c = n - k then A else A.map (·.add ((n - k) * d.sz)), c - (n - k), fun W => ?_, fun W l h => ?_⟩
  · have := h1 W
    rw [e1, show n - (n - k) = k by omega] at this
    exact this
  · have := AppC.C_drop h (n - k) (Nat.sub_le _ _) hc
    rwa [show n - (n - k) = k by omega] at this
theorem cut_head (t e : TypeId) {i : TypeInfo} (ht : Tryd.prog.underlying t = some (.slice e)) (hi : Tryd.prog.info? e = some i) (A : Option Addr) (n c k : Nat) (hk : k ≤ n) (hc : n ≤ c) (W : World) :
    (Instr.slice t (.slice A n c) none (some (.int .i64 ((n : Int) - (k : Int)))) (some (.int .i64 ((n : Int) - (k : Int))))).run Tryd.prog W = .ok (.slice A (n - k) (n - k)) W := by
  have hel : Tryd.prog.elem t = e := by simp [Program.elem, ht]
  have hu : Tryd.prog.underlying t = some (.slice (Tryd.prog.elem t)) := by rw [hel]; exact ht
  have ha : (A.map fun x => x.add 0) = A := by cases A <;> simp [Addr.add]
  rw [run_slice_hm W t A n c hu .i64 .i64 ((n : Int) - (k : Int)) ((n : Int) - (k : Int)) (by omega) (Int.le_refl _) (by omega), hel]
  have e1 : ((n : Int) - (k : Int)).toNat = n - k := by omega
  simp [sizeOf, typeInfo, hi, sliced, Result.andThen, ha, e1]
structure InBd (w : World) (st : List TTree) (A : Option Addr) (ca : Nat) (B : Option Addr) (cb : Nat) (W : World) : Prop where
  bel : Below w.heap.size w W
  z2 : W.heap[w.heap.size]? = some (.cells #[.int .i64 0, .int .i64 0, .slice none 0 0] 55 (0, 0))
  z3 : W.heap[w.heap.size + 1]? = some (.cells #[.int .i64 0, .int .i64 0, .slice none 0 0] 58 (0, 0))
  a : Kd.F k55 W (okB w) A st.length st ∧ st.length ≤ ca
  b : Kd.F k58 W (okB w) B st.length (toRs st) ∧ st.length ≤ cb
theorem InBd.step {w : World} {st : List TTree} {A : Option Addr} {ca : Nat} {B : Option Addr} {cb : Nat} {W W' : World} (h : InBd w st A ca B cb W) (hb : Below W.heap.size W W') : InBd w st A ca B cb W' := ⟨h.bel.trans (hb.mono h.bel.size), blk_below h.z2 hb, blk_below h.z3 hb, ⟨Kd.F_below h.a.1 hb, h.a.2⟩, ⟨Kd.F_below h.b.1 hb, h.b.2⟩⟩
theorem sub_wrap (n k : Nat) (h : k ≤ n) (hn : n ≤ 1000000) : IntKind.i64.wrap ((n : Int) - (k : Int)) = (n : Int) - (k : Int) := IntWalk.i64_in _ (by omega)
theorem at_farT {w W : World} {A : Option Addr} {n : Nat} {l : List TTree} (h : Kd.F k55 W (okB w) A n l) (m : Nat) (hm : m < n) : ∃ (ad : Addr) (T : Option Addr) (tc : Nat), A = some ad ∧ W.cell? (ad.add (m * 3)) = some (.int .i64 (l.getD m z55).f0) ∧ W.cell? ⟨(ad.add (m * 3)).block, (ad.add (m * 3)).off + 1, none⟩ = some (.int .i64 (l.getD m z55).f1) ∧ W.cell? ⟨(ad.add (m * 3)).block, (ad.add (m * 3)).off + 2, none⟩ = some (.slice T (l.getD m z55).f2.length tc) ∧ (l.getD m z55).f2.length ≤ tc ∧ Kd.F k55 W (okB w) T (l.getD m z55).f2.length (l.getD m z55).f2 ∧ okB w (ad.add (m * 3)).block := by
  obtain ⟨ad, c, e, _, hK, hc0, hin⟩ := Kd.F_get h z55 (m : Int) (by omega) (by omega)
  rw [Int.toNat_natCast] at hK hc0
  have hc : ∀ j u, c[j]? = some u → W.cell? (ad.add (m * 3 + j)) = some u := hc0
  obtain ⟨A2, c2, rfl, l2, g2⟩ := k55_openF hK
  have hb : ∀ m, (ad.add m).block = ad.block := fun m => by unfold Addr.add; split <;> rfl
  exact ⟨ad, A2, c2, e, hc 0 _ rfl, by rw [← add_field _ _ 1 (by omega)]; exact hc 1 _ rfl, by rw [← add_field _ _ 2 (by omega)]; exact hc 2 _ rfl, l2, g2, by rw [hb]; exact hin (by decide)⟩
theorem at_farR {w W : World} {A : Option Addr} {n : Nat} {l : List RTree} (h : Kd.F k58 W (okB w) A n l) (m : Nat) (hm : m < n) : ∃ (ad : Addr) (T : Option Addr) (tc : Nat), A = some ad ∧ W.cell? (ad.add (m * 3)) = some (.int .i64 (l.getD m z58).f0) ∧ W.cell? ⟨(ad.add (m * 3)).block, (ad.add (m * 3)).off + 1, none⟩ = some (.int .i64 (l.getD m z58).f1) ∧ W.cell? ⟨(ad.add (m * 3)).block, (ad.add (m * 3)).off + 2, none⟩ = some (.slice T (l.getD m z58).f2.length tc) ∧ (l.getD m z58).f2.length ≤ tc ∧ Kd.F k58 W (okB w) T (l.getD m z58).f2.length (l.getD m z58).f2 ∧ okB w (ad.add (m * 3)).block := by
  obtain ⟨ad, c, e, _, hK, hc0, hin⟩ := Kd.F_get h z58 (m : Int) (by omega) (by omega)
  rw [Int.toNat_natCast] at hK hc0
  have hc : ∀ j u, c[j]? = some u → W.cell? (ad.add (m * 3 + j)) = some u := hc0
  obtain ⟨A2, c2, rfl, l2, g2⟩ := k58_openF hK
  have hb : ∀ m, (ad.add m).block = ad.block := fun m => by unfold Addr.add; split <;> rfl
  exact ⟨ad, A2, c2, e, hc 0 _ rfl, by rw [← add_field _ _ 1 (by omega)]; exact hc 1 _ rfl, by rw [← add_field _ _ 2 (by omega)]; exact hc 2 _ rfl, l2, g2, by rw [hb]; exact hin (by decide)⟩
structure InEnd (w : World) (t : TTree) (u : RTree) (pa pb : Addr) (T : Option Addr) (tc : Nat) (R : Option Addr) (rc : Nat) (W : World) : Prop where
  bel : Below w.heap.size w W
  z2 : ∃ z0 z1 z2, W.heap[w.heap.size]? = some (.cells #[z0, z1, z2] 55 (0, 0))
  z3 : W.heap[w.heap.size + 1]? = some (.cells #[.int .i64 0, .int .i64 0, .slice none 0 0] 58 (0, 0))
  x0 : W.cell? pa = some (.int .i64 t.f0)
  x1 : W.cell? ⟨pa.block, pa.off + 1, none⟩ = some (.int .i64 t.f1)
  x2 : W.cell? ⟨pa.block, pa.off + 2, none⟩ = some (.slice T t.f2.length tc)
  y0 : W.cell? pb = some (.int .i64 u.f0)
  y1 : W.cell? ⟨pb.block, pb.off + 1, none⟩ = some (.int .i64 u.f1)
  y2 : W.cell? ⟨pb.block, pb.off + 2, none⟩ = some (.slice R u.f2.length rc)
  far : okB w pa.block ∧ okB w pb.block
  c : Kd.F k55 W (okB w) T t.f2.length t.f2 ∧ t.f2.length ≤ tc
  r : Kd.F k58 W (okB w) R u.f2.length u.f2 ∧ u.f2.length ≤ rc
theorem InEnd.drew {w : World} {t : TTree} {u : RTree} {pa pb : Addr} {T : Option Addr} {tc : Nat} {R : Option Addr} {rc : Nat} {W : World} (h : InEnd w t u pa pb T tc R rc W) : InEnd w t u pa pb T tc R rc W.drew := ⟨below_drew h.bel, h.z2, h.z3, h.x0, h.x1, h.x2, h.y0, h.y1, h.y2, h.far, ⟨Kd.F_drew h.c.1, h.c.2⟩, ⟨Kd.F_drew h.r.1, h.r.2⟩⟩
theorem InEnd.set {w : World} {t : TTree} {u : RTree} {pa pb : Addr} {T : Option Addr} {tc : Nat} {R : Option Addr} {rc : Nat} {W : World} (h : InEnd w t u pa pb T tc R rc W) (i : Nat) (v : Value) (hi : i < 3) : InEnd w t u pa pb T tc R rc (W.setCell ⟨w.heap.size, i, none⟩ v) := by
  obtain ⟨z0, z1, z2, hz⟩ := h.z2
  have far : ∀ p : Addr, okB w p.block → (⟨w.heap.size, i, none⟩ : Addr) ≠ p := fun p hp e => by unfold okB at hp; rw [← e] at hp; simp only at hp; omega
  have h1 := blk_set hz i v
  refine ⟨h.bel.setCell (Nat.le_refl _) _, ?_, blk_far h.z3 (by simp) v, ?_, ?_, ?_, ?_, ?_, ?_, h.far, ⟨Kd.F_far h.c.1 (fun k hk e => by unfold okB at hk; simp only at e; omega) v, h.c.2⟩, ⟨Kd.F_far h.r.1 (fun k hk e => by unfold okB at hk; simp only at e; omega) v, h.r.2⟩⟩
  · match i, hi with
    | 0, _ => exact ⟨_, _, _, h1⟩
    | 1, _ => exact ⟨_, _, _, h1⟩
    | 2, _ => exact ⟨_, _, _, h1⟩
  all_goals rw [World.cell?_setCell_other]
  · exact h.x0
  · exact far _ h.far.1
  · exact h.x1
  · exact far _ h.far.1
  · exact h.x2
  · exact far _ h.far.1
  · exact h.y0
  · exact far _ h.far.2
  · exact h.y1
  · exact far _ h.far.2
  · exact h.y2
  · exact far _ h.far.2
set_option maxHeartbeats 16000000 in
set_option maxRecDepth 100000 in
theorem build_calls (Pp : Option Addr) (pc : Nat) (l : List SPart) (hl : l.length ≤ 1000) (w : World) (hr : Kd.C k157 w Pp l.length l) (fin : List TTree) (hfin : bAll l [] = fin) (hne : fin ≠ []) :
    Calls Tryd.prog 29 #[.slice Pp l.length pc] w fun e w' => ∃ (t : TTree) (T : Option Addr) (tc : Nat) (R : Option Addr) (rc : Nat), fin.getLast? = some t ∧ e = .returned (.tuple #[.agg #[.int .i64 t.f0, .int .i64 t.f1, .slice T t.f2.length tc], .agg #[.int .i64 (toR t).f0, .int .i64 (toR t).f1, .slice R (toR t).f2.length rc]]) ∧ (Kd.C k55 w' T t.f2.length t.f2 ∧ t.f2.length ≤ tc) ∧ (Kd.C k58 w' R (toR t).f2.length (toR t).f2 ∧ (toR t).f2.length ≤ rc) ∧ Below w.heap.size w w' := by
  have hu := Tryd.underlying55
  have hu2 := Tryd.underlying58
  have hu3 := Tryd.underlying157
  obtain ⟨iT, hiT, -, hsT, -⟩ := info_parts infoT
  obtain ⟨iR, hiR, -, hsR, -⟩ := info_parts infoR
  have HIT := Lib.hid hiT
  have HIR := Lib.hid hiR
  have HST := Lib.hid hsT
  have HSR := Lib.hid hsR
  have HR := Lib.hid hr
  have HF := Lib.hid hfin
  have HNE := Lib.hid hne
  clear hr hfin hne hiT hiR hsT hsR
  go_enter Tryd.func29, Tryd.ntmps29
  go_wp2_with fail
  have hI0 : InBd w [] none 0 none 0 ((w.alloc (.cells #[.int .i64 0, .int .i64 0, .slice none 0 0] 55)).alloc (.cells #[.int .i64 0, .int .i64 0, .slice none 0 0] 58)) := by
    have h3 := blk_new (w.alloc (.cells #[.int .i64 0, .int .i64 0, .slice none 0 0] 55)) (.cells #[.int .i64 0, .int .i64 0, .slice none 0 0] 58)
    rw [show (w.alloc (.cells #[.int .i64 0, .int .i64 0, .slice none 0 0] 55)).heap.size = w.heap.size + 1 by simp] at h3
    exact ⟨((Below.refl _ w).alloc (Nat.le_refl _) _).alloc (by simp) _, blk_alloc (blk_new w _) _, h3, ⟨Kd.F_nil _ _ _, Nat.le_refl _⟩, ⟨Kd.F_nil _ _ _, Nat.le_refl _⟩⟩
  have HI0 := Lib.hid hI0
  clear hI0
  go_loopw [4, 5, 13] (fun a b i wr => ∃ (j : Nat) (st : List TTree) (A : Option Addr) (ca : Nat) (B : Option Addr) (cb : Nat), a = .slice A st.length ca ∧ b = .slice B st.length cb ∧ i = .int .i64 j ∧ j ≤ l.length ∧ Hid (bAll (l.drop j) st = fin) ∧ Hid (st.length ≤ j) ∧ Hid (InBd w st A ca B cb wr)) (fun _ _ i _ => l.length - (intOf i).toNat)
  case atStart => exact ⟨0, [], none, 0, none, 0, rfl, rfl, rfl, Nat.zero_le _, HF, Lib.hid (Nat.le_refl _), HI0⟩
  case round =>
    clear HI0 HF
    obtain ⟨j, st, A, ca, B, cb, rfl, rfl, rfl, hj, HO, HSJ, HI⟩ := hrel
    by_cases hjl : j < l.length
    · obtain ⟨pad, e1, hp0, hp1, hp2⟩ := at_T157 HR.out (j : Int) (by omega) (by omega)
      subst e1
      obtain ⟨p, hp⟩ : ∃ p, p = l[j] := ⟨_, rfl⟩
      have hrdp : rd_T157 l (j : Int) = p := by rw [hp, rd_T157, Int.toNat_natCast, List.getD_eq_getElem?_getD, List.getElem?_eq_getElem hjl]; rfl
      rw [hrdp, Int.toNat_natCast] at hp0 hp1 hp2
      replace hp0 := (HI.out.bel.cell (World.block_lt_of_cell? _ _ hp0)).trans hp0
      replace hp1 := (HI.out.bel.cell (World.block_lt_of_cell? _ _ hp1)).trans hp1
      replace hp2 := (HI.out.bel.cell (World.block_lt_of_cell? _ _ hp2)).trans hp2
      have HO2 : Hid (bAll (l.drop (j + 1)) (bStep st p) = fin) := Lib.hid (by have := HO.out; rwa [List.drop_eq_getElem_cons hjl, ← hp, bAll] at this)
      have HJ := Lib.hid hjl
      have hj0 : 0 ≤ (j : Int) := Int.natCast_nonneg _
      have hj1 : (j : Int) < (l.length : Int) := by omega
      have hn : st.length ≤ 1000 := by have := HSJ.out; omega
      obtain ⟨k, hk⟩ : ∃ k, k = bkN st.length p := ⟨_, rfl⟩
      have hkn : k ≤ st.length := by rw [hk]; exact bkN_le _ _
      have HKB := Lib.hid hk
      have hpb := blk_new wr (.cells #[.int .i64 p.f0, .int .i64 p.f1, .int .i64 p.f2] 157)
      have HPB := Lib.hid hpb
      have HI1 := Lib.hid (HI.out.step (W' := wr.alloc (.cells #[.int .i64 p.f0, .int .i64 p.f1, .int .i64 p.f2] 157)) ((Below.refl _ _).alloc (Nat.le_refl _) _))
      have q2 : (wr.alloc (.cells #[.int .i64 p.f0, .int .i64 p.f1, .int .i64 p.f2] 157)).cell? ⟨wr.heap.size, 2, none⟩ = some (.int .i64 p.f2) := (blk_cell hpb 2).trans rfl
      clear hp hrdp hk hpb
      go_upto_if 19 with fail
      go_cut [8] (fun s8 wx => s8 = .int .i64 (k : Int) ∧ wx = wr.alloc (.cells #[.int .i64 p.f0, .int .i64 p.f1, .int .i64 p.f2] 157))
      case first =>
        by_cases h0 : 0 < p.f2
        · have h0b : decide (p.f2 > 0) = true := decide_eq_true h0
          have hmin : (if (st.length : Int) < p.f2 then (st.length : Int) else p.f2) = (k : Int) := by
            have := HKB.out
            unfold bkN at this
            rw [if_pos h0] at this
            split at this <;> (rename_i h; (first | rw [if_pos h] | rw [if_neg h])); all_goals omega
          go_wp2
          go_meet
          exact ⟨rfl, rfl⟩
        · have h0b : decide (p.f2 > 0) = false := decide_eq_false h0
          have hk0 : Hid ((k : Int) = 0) := Lib.hid (by have := HKB.out; unfold bkN at this; rw [if_neg h0] at this; omega)
          go_wp2
          go_meet
          exact ⟨by rw [hk0.out], rfl⟩
      case rest =>
      obtain ⟨rfl, rfl⟩ := hcut
      clear hp0 hp1 hp2 q2
      generalize hws : wr.alloc (.cells #[.int .i64 p.f0, .int .i64 p.f1, .int .i64 p.f2] 157) = ws at *
      generalize hpbg : wr.heap.size = pb at *
      have hsz : ws.heap.size = pb + 1 := by rw [← hws, ← hpbg]; simp
      have HWS : Hid (pb < ws.heap.size) := Lib.hid (by omega)
      have HBW : Hid (okB w ws.heap.size) := Lib.hid (by have h1 := blk_lt HI.out.z3; unfold okB; omega)
      clear hws hpbg hsz
      obtain ⟨A2, c2, hcut, hcutC⟩ := cut_tail (AppC.elder (feet k55 (okB w)) ws) 53 55 Tryd.underlying53 HIT.out HST.out A st.length ca k hkn HI1.out.a.2
      replace hcutC := fun (W : World) (hb : Below ws.heap.size ws W) => hcutC W st (AppC.C_elder (Kd.F_rows HI1.out.a.1) hb)
      go_wp2_with fail
      refine RegT.regionT (F := ?FT) (fun W => W.heap[pb]? = some (.cells #[.int .i64 p.f0, .int .i64 p.f1, .int .i64 p.f2] 157 (0, 0)) ∧ Below ws.heap.size ws W) [fun v _ => v = .pointer (some ⟨pb, 0, none⟩), fun v _ => v = .int .i64 p.f0, fun v _ => v = .pointer (some ⟨pb, 1, none⟩), fun v _ => v = .int .i64 p.f1, fun v _ => ∃ b, v = .slice (some ⟨b, 0, none⟩) 0 0, fun v _ => v = .slice A st.length ca, fun v _ => v = .slice A st.length ca, fun v _ => v = .int .i64 (st.length : Int), fun v _ => v = .int .i64 (k : Int), fun v _ => v = .int .i64 ((st.length : Int) - (k : Int)), fun v _ => v = .slice A2 k c2, fun v W => ∃ A' c', v = .slice A' k c' ∧ k ≤ c' ∧ Kd.C (AppC.elder (feet k55 (okB w)) ws) W A' k (st.drop (st.length - k)) ∧ farA w A' k, fun v W => ∃ A' c', v = .agg #[.int .i64 p.f0, .int .i64 p.f1, .slice A' k c'] ∧ k ≤ c' ∧ Kd.C (AppC.elder (feet k55 (okB w)) ws) W A' k (st.drop (st.length - k)) ∧ farA w A' k, fun v W => ∃ b, v = .pointer (some ⟨b, 0, none⟩) ∧ ws.heap.size ≤ b ∧ W.heap[b]? = some (.cells #[.int .i64 0, .int .i64 0, .slice none 0 0] 55 (0, 0))] (fun i v => match i with | 11 => RegT.blS v | 12 => RegT.blL 2 v | 13 => RegT.blP v | _ => none) (fun i => match i with | 13 => true | _ => false) 14 ?hFT (by kernel_rfl) (by kernel_rfl) (by kernel_rfl) (by kernel_rfl) (by kernel_rfl) (by simp) ⟨fun _ _ _ h _ => h, fun _ _ _ h _ => h, fun _ _ _ h _ => h, fun _ _ _ h _ => h, fun _ _ _ h _ => h, fun _ _ _ h _ => h, fun _ _ _ h _ => h, fun _ _ _ h _ => h, fun _ _ _ h _ => h, fun _ _ _ h _ => h, fun _ _ _ h _ => h, fun _ _ _ ⟨A', c', h1, h2, h3, h4⟩ hb => ⟨A', c', h1, h2, Kd.C_below h3 hb, h4⟩, fun _ _ _ ⟨A', c', h1, h2, h3, h4⟩ hb => ⟨A', c', h1, h2, Kd.C_below h3 hb, h4⟩, fun _ _ _ ⟨b, h1, h2, h3⟩ hb => ⟨b, h1, h2, blk_below h3 hb⟩, trivial⟩ ?hST ⟨?o0T, ?o1T, ?o2T, ?o3T, ?o4T, ?o5T, ?o6T, ?o7T, ?o8T, ?o9T, ?o10T, ?o11T, ?o12T, ?o13T, trivial⟩ ?hendT
      case hFT => intro f; (try simp only [List.take_succ_cons, List.take_zero, RegT.fillIn, RegT.fv, Act.put, List.setIfInBounds_toArray, List.set_cons_zero, List.set_cons_succ]); exact rfl
      case hST => exact ⟨blk_drew HPB.out, below_drew (Below.refl _ _)⟩
      case o0T =>
        intro f W1 hS hd K hK
        clear hd
        (go_simp; exact hK.out (.pointer (some ⟨pb, 0, none⟩)) _ hS (Below.refl _ _) rfl (fun _ (h : (none : Option Nat) = some _) => by cases h) _ (by rfl))
      case o1T =>
        intro f W1 hS hd K hK
        obtain ⟨e25, -⟩ := hd
        replace e25 : f 25 = .pointer (some ⟨pb, 0, none⟩) := e25
        have q0 : W1.cell? ⟨pb, 0, none⟩ = some (.int .i64 p.f0) := (blk_cell hS.1 0).trans rfl
        have q1 : W1.cell? ⟨pb, 1, none⟩ = some (.int .i64 p.f1) := (blk_cell hS.1 1).trans rfl
        (go_simp; exact hK.out (.int .i64 p.f0) _ hS (Below.refl _ _) rfl (fun _ (h : (none : Option Nat) = some _) => by cases h) _ (by first | (simp only [e25]; done) | (simp only [e25]; rfl) | rfl))
      case o2T =>
        intro f W1 hS hd K hK
        clear hd
        (go_simp; exact hK.out (.pointer (some ⟨pb, 1, none⟩)) _ hS (Below.refl _ _) rfl (fun _ (h : (none : Option Nat) = some _) => by cases h) _ (by rfl))
      case o3T =>
        intro f W1 hS hd K hK
        obtain ⟨e27, -⟩ := hd
        replace e27 : f 27 = .pointer (some ⟨pb, 1, none⟩) := e27
        have q0 : W1.cell? ⟨pb, 0, none⟩ = some (.int .i64 p.f0) := (blk_cell hS.1 0).trans rfl
        have q1 : W1.cell? ⟨pb, 1, none⟩ = some (.int .i64 p.f1) := (blk_cell hS.1 1).trans rfl
        (go_simp; exact hK.out (.int .i64 p.f1) _ hS (Below.refl _ _) rfl (fun _ (h : (none : Option Nat) = some _) => by cases h) _ (by first | (simp only [e27]; done) | (simp only [e27]; rfl) | rfl))
      case o4T =>
        intro f W1 hS hd K hK
        clear hd
        go_simp
        exact hK.out (.slice (some ⟨W1.heap.size, 0, none⟩) 0 0) _ (stepP hS ((Below.refl _ _).alloc (Nat.le_refl _) _)) ((Below.refl _ _).alloc (Nat.le_refl _) _) ⟨_, rfl⟩ (fun _ (h : (none : Option Nat) = some _) => by cases h) _ (by rfl)
      case o5T =>
        intro f W1 hS hd K hK
        clear hd
        (go_simp; exact hK.out (.slice A st.length ca) _ hS (Below.refl _ _) rfl (fun _ (h : (none : Option Nat) = some _) => by cases h) _ (by rfl))
      case o6T =>
        intro f W1 hS hd K hK
        clear hd
        (go_simp; exact hK.out (.slice A st.length ca) _ hS (Below.refl _ _) rfl (fun _ (h : (none : Option Nat) = some _) => by cases h) _ (by rfl))
      case o7T =>
        intro f W1 hS hd K hK
        obtain ⟨e31, -⟩ := hd
        replace e31 : f 31 = .slice A st.length ca := e31
        (go_simp; exact hK.out (.int .i64 (st.length : Int)) _ hS (Below.refl _ _) rfl (fun _ (h : (none : Option Nat) = some _) => by cases h) _ (by first | (simp only [e31]; done) | (simp only [e31]; rfl) | rfl))
      case o8T =>
        intro f W1 hS hd K hK
        clear hd
        (go_simp; exact hK.out (.int .i64 (k : Int)) _ hS (Below.refl _ _) rfl (fun _ (h : (none : Option Nat) = some _) => by cases h) _ (by rfl))
      case o9T =>
        intro f W1 hS hd K hK
        obtain ⟨e32, e33, -⟩ := hd
        replace e32 : f 32 = .int .i64 (st.length : Int) := e32
        replace e33 : f 33 = .int .i64 (k : Int) := e33
        have hw := sub_wrap st.length k hkn (by omega)
        (go_simp; exact hK.out (.int .i64 ((st.length : Int) - (k : Int))) _ hS (Below.refl _ _) rfl (fun _ (h : (none : Option Nat) = some _) => by cases h) _ (by first | (simp only [e32, e33, hw]; done) | (simp only [e32, e33, hw]; rfl) | rfl))
      case o10T =>
        intro f W1 hS hd K hK
        obtain ⟨e30, e34, -⟩ := hd
        replace e30 : f 30 = .slice A st.length ca := e30
        replace e34 : f 34 = .int .i64 ((st.length : Int) - (k : Int)) := e34
        (go_simp; exact hK.out (.slice A2 k c2) _ hS (Below.refl _ _) rfl (fun _ (h : (none : Option Nat) = some _) => by cases h) _ (by first | (simp only [e30, e34]; done) | (simp only [e30, e34]; rfl) | rfl))
      case o11T =>
        intro f W1 hS hd K hK
        obtain ⟨e29, e35, -⟩ := hd
        obtain ⟨b29, e29⟩ := e29
        replace e35 : f 35 = .slice A2 k c2 := e35
        refine AppC.step_full (AppC.elder (feet k55 (okB w)) ws) (by rfl) (.tmp 29) (.tmp 35) 53 55 (.agg #[.int .i64 0, .int .i64 0, .slice none 0 0]) 40 (by rfl) Tryd.underlying53 infoT rfl (by omega) (some ⟨b29, 0, none⟩) 0 [] A2 k c2 (st.drop (st.length - k)) e29 e35 (AppC.C_empty _ _ _) (hcutC _ hS.2) (by omega) ?_
        intro A1 c1 w1 hc hC hb hnew
        rw [List.nil_append] at hC
        simp only [Nat.zero_add] at hc hC ⊢
        exact hK.out (.slice A1 k c1) _ (stepP hS hb) hb ⟨A1, c1, rfl, hc, hC, far_new hnew (fun h => by omega) (by have := HBW.out; have := hS.2.size; unfold okB at *; omega)⟩ (fun q hq => Or.inl (fresh_of hnew hq)) _ (by first | (simp only [e29, e35]; done) | (simp only [e29, e35]; rfl) | rfl)
      case o12T =>
        intro f W1 hS hd K hK
        obtain ⟨e26, e28, e36, -⟩ := hd
        replace e26 : f 26 = .int .i64 p.f0 := e26
        replace e28 : f 28 = .int .i64 p.f1 := e28
        obtain ⟨A36, c36, e36, hc36, hC36, hF36⟩ := e36
        have hil := inh_of (f := f) (x := .int .i64 p.f0) (y := .int .i64 p.f1) (i := 11) (d := 36) (A := A36) (k := k) (c := c36) e36
        go_simp
        exact hK.out (.agg #[.int .i64 p.f0, .int .i64 p.f1, .slice A36 k c36]) _ hS (Below.refl _ _) ⟨_, _, rfl, hc36, hC36, hF36⟩ (fun q hq => Or.inr ⟨rfl, (11, 36), by simp [RegT.deps, Region.binds], rfl, hil q hq⟩) _ (by first | (simp only [e26, e28, e36]; done) | (simp only [e26, e28, e36]; rfl) | rfl)
      case o13T =>
        intro f W1 hS hd K hK
        clear hd
        have hsz := hS.2.size
        have hnz := blk_new W1 (.cells #[.int .i64 0, .int .i64 0, .slice none 0 0] 55)
        go_simp
        exact hK.out (.pointer (some ⟨W1.heap.size, 0, none⟩)) _ (stepP hS ((Below.refl _ _).alloc (Nat.le_refl _) _)) ((Below.refl _ _).alloc (Nat.le_refl _) _) ⟨_, rfl, hsz, hnz⟩ (fun q hq => Or.inl (by have hq : some W1.heap.size = some q := hq; injection hq with hq; subst hq; exact ⟨Nat.le_refl _, by simp⟩)) _ (by rfl)
      case hendT =>
        intro f W1 hS hr hbl
        have e37 := hr 12 _ _ (by omega) rfl rfl
        obtain ⟨A37, c37, e37, hc37, hC37, hF37⟩ := e37
        have e9 := hr 13 _ _ (by omega) rfl rfl
        obtain ⟨b9, e9, hg9, hz9⟩ := e9
        have hap := fun q => hbl 12 13 _ _ 37 9 q (by decide) rfl (by omega) (by omega) rfl rfl rfl rfl
        simp only [e37, e9] at hap
        (try dsimp only)
        generalize f 37 = x37 at *
        subst e37
        generalize f 9 = x9 at *
        subst e9
        try simp only [List.drop_succ_cons, List.drop_zero]
        clear hcut hcutC
        have hfz := fun i => blk_frozen hz9 i
        have hf0 := hfz 0
        have hf1 := hfz 1
        have hf2 := hfz 2
        have hy0 : W1.cell? ⟨b9, 0, none⟩ = some (.int .i64 0) := (blk_cell hz9 0).trans rfl
        have hy1 : W1.cell? ⟨b9, 1, none⟩ = some (.int .i64 0) := (blk_cell hz9 1).trans rfl
        have hy2 : W1.cell? ⟨b9, 2, none⟩ = some (.slice none 0 0) := (blk_cell hz9 2).trans rfl
        obtain ⟨hb2, hx2, hc2⟩ := boxed (x0 := .int .i64 p.f0) (x1 := .int .i64 p.f1) (x2 := .slice A37 k c37) hS.2 hg9 hz9 hC37 (ap_of hap)
        have HB2 := Lib.hid hb2
        have HX2 := Lib.hid hx2
        have HC2 := Lib.hid (F_of hc2 hF37)
        clear hfz hb2 hx2 hc2 hap hbl hr hC37 hF37
        have HBW2 : Hid (okB w ((((W1.setCell ⟨b9, 0, none⟩ (.int .i64 p.f0)).setCell ⟨b9, 1, none⟩ (.int .i64 p.f1)).setCell ⟨b9, 2, none⟩ (.slice A37 k c37)).heap.size)) := Lib.hid (by have := HBW.out; have := HB2.out.size; unfold okB at *; omega)
        have HPB2 := Lib.hid (blk_below HPB.out HB2.out)
        generalize hw2 : ((W1.setCell ⟨b9, 0, none⟩ (.int .i64 p.f0)).setCell ⟨b9, 1, none⟩ (.int .i64 p.f1)).setCell ⟨b9, 2, none⟩ (.slice A37 k c37) = w2 at HB2 HX2 HC2 HPB2 HBW2
        obtain ⟨rs, hrs⟩ : ∃ rs, rs = toRs st := ⟨_, rfl⟩
        have HRS := Lib.hid hrs
        obtain ⟨B2, d2, hcut, hcutRC⟩ := cut_tail (AppC.elder (feet k58 (okB w)) w2) 56 58 Tryd.underlying56 HIR.out HSR.out B st.length cb k hkn HI1.out.b.2
        replace hcutRC := fun (W : World) (hb : Below w2.heap.size w2 W) => hcutRC W rs (AppC.C_elder (Kd.F_rows (by rw [hrs]; exact Kd.F_below HI1.out.b.1 HB2.out)) hb)
        clear hrs
        have hw2' := hw2
        go_wp2_with fail
        (try rw [hw2])
        clear hw2 hw2' hS hz9 hf0 hf1 hf2 hy0 hy1 hy2
        clear W1
        refine RegT.regionT (F := ?FR) (fun W => W.heap[pb]? = some (.cells #[.int .i64 p.f0, .int .i64 p.f1, .int .i64 p.f2] 157 (0, 0)) ∧ Below w2.heap.size w2 W) [fun v _ => v = .pointer (some ⟨pb, 0, none⟩), fun v _ => v = .int .i64 p.f0, fun v _ => v = .pointer (some ⟨pb, 1, none⟩), fun v _ => v = .int .i64 p.f1, fun v _ => ∃ b, v = .slice (some ⟨b, 0, none⟩) 0 0, fun v _ => v = .slice B st.length cb, fun v _ => v = .slice B st.length cb, fun v _ => v = .int .i64 (st.length : Int), fun v _ => v = .int .i64 (k : Int), fun v _ => v = .int .i64 ((st.length : Int) - (k : Int)), fun v _ => v = .slice B2 k d2, fun v W => ∃ A' c', v = .slice A' k c' ∧ k ≤ c' ∧ Kd.C (AppC.elder (feet k58 (okB w)) w2) W A' k (rs.drop (st.length - k)) ∧ farA w A' k, fun v W => ∃ A' c', v = .agg #[.int .i64 p.f0, .int .i64 p.f1, .slice A' k c'] ∧ k ≤ c' ∧ Kd.C (AppC.elder (feet k58 (okB w)) w2) W A' k (rs.drop (st.length - k)) ∧ farA w A' k, fun v W => ∃ b, v = .pointer (some ⟨b, 0, none⟩) ∧ w2.heap.size ≤ b ∧ W.heap[b]? = some (.cells #[.int .i64 0, .int .i64 0, .slice none 0 0] 58 (0, 0))] (fun i v => match i with | 11 => RegT.blS v | 12 => RegT.blL 2 v | 13 => RegT.blP v | _ => none) (fun i => match i with | 13 => true | _ => false) 14 ?hFR (by kernel_rfl) (by kernel_rfl) (by kernel_rfl) (by kernel_rfl) (by kernel_rfl) (by simp) ⟨fun _ _ _ h _ => h, fun _ _ _ h _ => h, fun _ _ _ h _ => h, fun _ _ _ h _ => h, fun _ _ _ h _ => h, fun _ _ _ h _ => h, fun _ _ _ h _ => h, fun _ _ _ h _ => h, fun _ _ _ h _ => h, fun _ _ _ h _ => h, fun _ _ _ h _ => h, fun _ _ _ ⟨A', c', h1, h2, h3, h4⟩ hb => ⟨A', c', h1, h2, Kd.C_below h3 hb, h4⟩, fun _ _ _ ⟨A', c', h1, h2, h3, h4⟩ hb => ⟨A', c', h1, h2, Kd.C_below h3 hb, h4⟩, fun _ _ _ ⟨b, h1, h2, h3⟩ hb => ⟨b, h1, h2, blk_below h3 hb⟩, trivial⟩ ?hSR ⟨?o0R, ?o1R, ?o2R, ?o3R, ?o4R, ?o5R, ?o6R, ?o7R, ?o8R, ?o9R, ?o10R, ?o11R, ?o12R, ?o13R, trivial⟩ ?hendR
        case hFR => intro f; (try simp only [List.take_succ_cons, List.take_zero, RegT.fillIn, RegT.fv, Act.put, List.setIfInBounds_toArray, List.set_cons_zero, List.set_cons_succ]); exact rfl
        case hSR => exact ⟨blk_drew HPB2.out, below_drew (Below.refl _ _)⟩
        case o0R =>
          intro f W1 hS hd K hK
          clear hd
          (go_simp; exact hK.out (.pointer (some ⟨pb, 0, none⟩)) _ hS (Below.refl _ _) rfl (fun _ (h : (none : Option Nat) = some _) => by cases h) _ (by rfl))
        case o1R =>
          intro f W1 hS hd K hK
          obtain ⟨e38, -⟩ := hd
          replace e38 : f 38 = .pointer (some ⟨pb, 0, none⟩) := e38
          have q0 : W1.cell? ⟨pb, 0, none⟩ = some (.int .i64 p.f0) := (blk_cell hS.1 0).trans rfl
          have q1 : W1.cell? ⟨pb, 1, none⟩ = some (.int .i64 p.f1) := (blk_cell hS.1 1).trans rfl
          (go_simp; exact hK.out (.int .i64 p.f0) _ hS (Below.refl _ _) rfl (fun _ (h : (none : Option Nat) = some _) => by cases h) _ (by first | (simp only [e38]; done) | (simp only [e38]; rfl) | rfl))
        case o2R =>
          intro f W1 hS hd K hK
          clear hd
          (go_simp; exact hK.out (.pointer (some ⟨pb, 1, none⟩)) _ hS (Below.refl _ _) rfl (fun _ (h : (none : Option Nat) = some _) => by cases h) _ (by rfl))
        case o3R =>
          intro f W1 hS hd K hK
          obtain ⟨e40, -⟩ := hd
          replace e40 : f 40 = .pointer (some ⟨pb, 1, none⟩) := e40
          have q0 : W1.cell? ⟨pb, 0, none⟩ = some (.int .i64 p.f0) := (blk_cell hS.1 0).trans rfl
          have q1 : W1.cell? ⟨pb, 1, none⟩ = some (.int .i64 p.f1) := (blk_cell hS.1 1).trans rfl
          (go_simp; exact hK.out (.int .i64 p.f1) _ hS (Below.refl _ _) rfl (fun _ (h : (none : Option Nat) = some _) => by cases h) _ (by first | (simp only [e40]; done) | (simp only [e40]; rfl) | rfl))
        case o4R =>
          intro f W1 hS hd K hK
          clear hd
          go_simp
          exact hK.out (.slice (some ⟨W1.heap.size, 0, none⟩) 0 0) _ (stepP hS ((Below.refl _ _).alloc (Nat.le_refl _) _)) ((Below.refl _ _).alloc (Nat.le_refl _) _) ⟨_, rfl⟩ (fun _ (h : (none : Option Nat) = some _) => by cases h) _ (by rfl)
        case o5R =>
          intro f W1 hS hd K hK
          clear hd
          (go_simp; exact hK.out (.slice B st.length cb) _ hS (Below.refl _ _) rfl (fun _ (h : (none : Option Nat) = some _) => by cases h) _ (by rfl))
        case o6R =>
          intro f W1 hS hd K hK
          clear hd
          (go_simp; exact hK.out (.slice B st.length cb) _ hS (Below.refl _ _) rfl (fun _ (h : (none : Option Nat) = some _) => by cases h) _ (by rfl))
        case o7R =>
          intro f W1 hS hd K hK
          obtain ⟨e44, -⟩ := hd
          replace e44 : f 44 = .slice B st.length cb := e44
          (go_simp; exact hK.out (.int .i64 (st.length : Int)) _ hS (Below.refl _ _) rfl (fun _ (h : (none : Option Nat) = some _) => by cases h) _ (by first | (simp only [e44]; done) | (simp only [e44]; rfl) | rfl))
        case o8R =>
          intro f W1 hS hd K hK
          clear hd
          (go_simp; exact hK.out (.int .i64 (k : Int)) _ hS (Below.refl _ _) rfl (fun _ (h : (none : Option Nat) = some _) => by cases h) _ (by rfl))
        case o9R =>
          intro f W1 hS hd K hK
          obtain ⟨e45, e46, -⟩ := hd
          replace e45 : f 45 = .int .i64 (st.length : Int) := e45
          replace e46 : f 46 = .int .i64 (k : Int) := e46
          have hw := sub_wrap st.length k hkn (by omega)
          (go_simp; exact hK.out (.int .i64 ((st.length : Int) - (k : Int))) _ hS (Below.refl _ _) rfl (fun _ (h : (none : Option Nat) = some _) => by cases h) _ (by first | (simp only [e45, e46, hw]; done) | (simp only [e45, e46, hw]; rfl) | rfl))
        case o10R =>
          intro f W1 hS hd K hK
          obtain ⟨e43, e47, -⟩ := hd
          replace e43 : f 43 = .slice B st.length cb := e43
          replace e47 : f 47 = .int .i64 ((st.length : Int) - (k : Int)) := e47
          (go_simp; exact hK.out (.slice B2 k d2) _ hS (Below.refl _ _) rfl (fun _ (h : (none : Option Nat) = some _) => by cases h) _ (by first | (simp only [e43, e47]; done) | (simp only [e43, e47]; rfl) | rfl))
        case o11R =>
          intro f W1 hS hd K hK
          obtain ⟨e42, e48, -⟩ := hd
          obtain ⟨b42, e42⟩ := e42
          replace e48 : f 48 = .slice B2 k d2 := e48
          refine AppC.step_full (AppC.elder (feet k58 (okB w)) w2) (by rfl) (.tmp 42) (.tmp 48) 56 58 (.agg #[.int .i64 0, .int .i64 0, .slice none 0 0]) 40 (by rfl) Tryd.underlying56 infoR rfl (by omega) (some ⟨b42, 0, none⟩) 0 [] B2 k d2 (rs.drop (st.length - k)) e42 e48 (AppC.C_empty _ _ _) (hcutRC _ hS.2) (by omega) ?_
          intro A1 c1 w1 hc hC hb hnew
          rw [List.nil_append] at hC
          simp only [Nat.zero_add] at hc hC ⊢
          exact hK.out (.slice A1 k c1) _ (stepP hS hb) hb ⟨A1, c1, rfl, hc, hC, far_new hnew (fun h => by omega) (by have := HBW2.out; have := hS.2.size; unfold okB at *; omega)⟩ (fun q hq => Or.inl (fresh_of hnew hq)) _ (by first | (simp only [e42, e48]; done) | (simp only [e42, e48]; rfl) | rfl)
        case o12R =>
          intro f W1 hS hd K hK
          obtain ⟨e39, e41, e49, -⟩ := hd
          replace e39 : f 39 = .int .i64 p.f0 := e39
          replace e41 : f 41 = .int .i64 p.f1 := e41
          obtain ⟨A49, c49, e49, hc49, hC49, hF49⟩ := e49
          have hil := inh_of (f := f) (x := .int .i64 p.f0) (y := .int .i64 p.f1) (i := 11) (d := 49) (A := A49) (k := k) (c := c49) e49
          go_simp
          exact hK.out (.agg #[.int .i64 p.f0, .int .i64 p.f1, .slice A49 k c49]) _ hS (Below.refl _ _) ⟨_, _, rfl, hc49, hC49, hF49⟩ (fun q hq => Or.inr ⟨rfl, (11, 49), by simp [RegT.deps, Region.binds], rfl, hil q hq⟩) _ (by first | (simp only [e39, e41, e49]; done) | (simp only [e39, e41, e49]; rfl) | rfl)
        case o13R =>
          intro f W1 hS hd K hK
          clear hd
          have hsz := hS.2.size
          have hnz := blk_new W1 (.cells #[.int .i64 0, .int .i64 0, .slice none 0 0] 58)
          go_simp
          exact hK.out (.pointer (some ⟨W1.heap.size, 0, none⟩)) _ (stepP hS ((Below.refl _ _).alloc (Nat.le_refl _) _)) ((Below.refl _ _).alloc (Nat.le_refl _) _) ⟨_, rfl, hsz, hnz⟩ (fun q hq => Or.inl (by have hq : some W1.heap.size = some q := hq; injection hq with hq; subst hq; exact ⟨Nat.le_refl _, by simp⟩)) _ (by rfl)
        case hendR =>
          intro f W1 hS hr hbl
          have e50 := hr 12 _ _ (by omega) rfl rfl
          obtain ⟨A50, c50, e50, hc50, hC50, hF50⟩ := e50
          have e10 := hr 13 _ _ (by omega) rfl rfl
          obtain ⟨b10, e10, hg10, hz10⟩ := e10
          have hap := fun q => hbl 12 13 _ _ 50 10 q (by decide) rfl (by omega) (by omega) rfl rfl rfl rfl
          simp only [e50, e10] at hap
          (try dsimp only)
          generalize f 50 = x50 at *
          subst e50
          generalize f 10 = x10 at *
          subst e10
          try simp only [List.drop_succ_cons, List.drop_zero]
          clear hcut hcutRC
          have hfz := fun i => blk_frozen hz10 i
          have hf0 := hfz 0
          have hf1 := hfz 1
          have hf2 := hfz 2
          have hy0 : W1.cell? ⟨b10, 0, none⟩ = some (.int .i64 0) := (blk_cell hz10 0).trans rfl
          have hy1 : W1.cell? ⟨b10, 1, none⟩ = some (.int .i64 0) := (blk_cell hz10 1).trans rfl
          have hy2 : W1.cell? ⟨b10, 2, none⟩ = some (.slice none 0 0) := (blk_cell hz10 2).trans rfl
          obtain ⟨hb3, hx3, hc3⟩ := boxed (x0 := .int .i64 p.f0) (x1 := .int .i64 p.f1) (x2 := .slice A50 k c50) hS.2 hg10 hz10 hC50 (ap_of hap)
          generalize hw3 : ((W1.setCell ⟨b10, 0, none⟩ (.int .i64 p.f0)).setCell ⟨b10, 1, none⟩ (.int .i64 p.f1)).setCell ⟨b10, 2, none⟩ (.slice A50 k c50) = w3 at hb3 hx3 hc3
          have hb23 := HB2.out.trans (hb3.mono HB2.out.size)
          have HI3 := Lib.hid (HI1.out.step hb23)
          have HX := Lib.hid (InX11.mk (w := w) (ws := w3) (p := p) (k := k) (st := st) (rs := rs) (A := A) (B := B) (x := ⟨p.f0, p.f1, st.drop (st.length - k)⟩) (y := ⟨p.f0, p.f1, rs.drop (st.length - k)⟩) (bx := b9) (by_ := b10) (Tx := A37) (tcx := c37) (Ty := A50) (tcy := c50) (W := w3) (Below.refl _ _) ⟨by have := HBW2.out; have := hb3.size; unfold okB at *; omega, Nat.le_refl _⟩ HI3.out.a.1 (by rw [HRS.out]; exact HI3.out.b.1) (blk_below HX2.out hb3) hx3 ⟨Kd.F_below HC2.out hb3, hc37, rfl, rfl⟩ ⟨F_of hc3 hF50, hc50, rfl, rfl⟩)
          clear hfz hb3 hx3 hc3 hap hbl hr hC50 hF50 hb23
          have hw3' := hw3
          go_wp2_with fail
          (try rw [hw3])
          clear hw3 hw3' hS hz10 hf0 hf1 hf2 hy0 hy1 hy2
          clear W1
          obtain ⟨x, hx⟩ : ∃ x : TTree, x = ⟨p.f0, p.f1, st.drop (st.length - k)⟩ := ⟨_, rfl⟩
          obtain ⟨y, hy⟩ : ∃ y : RTree, y = ⟨p.f0, p.f1, rs.drop (st.length - k)⟩ := ⟨_, rfl⟩
          rw [← hx, ← hy] at HX
          have HXE := Lib.hid hx
          have HYE := Lib.hid hy
          clear hx hy
          generalize hbx : b9 = bx at *
          generalize hby : b10 = by_ at *
          generalize hTx : A37 = Tx at *
          generalize hcx : c37 = tcx at *
          generalize hTy : A50 = Ty at *
          generalize hcy : c50 = tcy at *
          clear hbx hby hTx hcx hTy hcy
          have hcut := fun W => cut_head 53 55 Tryd.underlying53 HIT.out A st.length ca k hkn HI1.out.a.2 W
          have hcutR := fun W => cut_head 56 58 Tryd.underlying56 HIR.out B st.length cb k hkn HI1.out.b.2 W
          clear HI1 HI HB2 HX2 HC2 HPB HPB2 HWS HBW HBW2
          refine RegT.regionT (F := ?FZ) (InX11 w w3 p k st rs A B x y bx by_ Tx tcx Ty tcy) [fun v _ => v = .slice A st.length ca, fun v _ => v = .slice A st.length ca, fun v _ => v = .int .i64 (st.length : Int), fun v _ => v = .int .i64 (k : Int), fun v _ => v = .int .i64 ((st.length : Int) - (k : Int)), fun v _ => v = .slice A st.length ca, fun v _ => v = .int .i64 (st.length : Int), fun v _ => v = .int .i64 (k : Int), fun v _ => v = .int .i64 ((st.length : Int) - (k : Int)), fun v _ => v = .slice A (st.length - k) (st.length - k), fun v _ => v = .agg #[.int .i64 p.f0, .int .i64 p.f1, .slice Tx k tcx], fun v W => ∃ b, v = .slice (some ⟨b, 0, none⟩) 1 1 ∧ Kd.C (feet k55 (okB w)) W (some ⟨b, 0, none⟩) 1 [x], fun v W => ∃ A' c', v = .slice A' ((st.length - k) + 1) c' ∧ (st.length - k) + 1 ≤ c' ∧ Kd.C (feet k55 (okB w)) W A' ((st.length - k) + 1) (st.take (st.length - k) ++ [x]) ∧ farA w A' ((st.length - k) + 1), fun v _ => v = .slice B st.length cb, fun v _ => v = .slice B st.length cb, fun v _ => v = .int .i64 (st.length : Int), fun v _ => v = .int .i64 (k : Int), fun v _ => v = .int .i64 ((st.length : Int) - (k : Int)), fun v _ => v = .slice B st.length cb, fun v _ => v = .int .i64 (st.length : Int), fun v _ => v = .int .i64 (k : Int), fun v _ => v = .int .i64 ((st.length : Int) - (k : Int)), fun v _ => v = .slice B (st.length - k) (st.length - k), fun v _ => v = .agg #[.int .i64 p.f0, .int .i64 p.f1, .slice Ty k tcy], fun v W => ∃ b, v = .slice (some ⟨b, 0, none⟩) 1 1 ∧ Kd.C (feet k58 (okB w)) W (some ⟨b, 0, none⟩) 1 [y], fun v W => ∃ A' c', v = .slice A' ((st.length - k) + 1) c' ∧ (st.length - k) + 1 ≤ c' ∧ Kd.C (feet k58 (okB w)) W A' ((st.length - k) + 1) (rs.take (st.length - k) ++ [y]) ∧ farA w A' ((st.length - k) + 1)] (fun i v => match i with  | _ => none) (fun i => match i with  | _ => false) 26 ?hFZ (by kernel_rfl) (by kernel_rfl) (by kernel_rfl) (by kernel_rfl) (by kernel_rfl) (by simp) ⟨fun _ _ _ h _ => h, fun _ _ _ h _ => h, fun _ _ _ h _ => h, fun _ _ _ h _ => h, fun _ _ _ h _ => h, fun _ _ _ h _ => h, fun _ _ _ h _ => h, fun _ _ _ h _ => h, fun _ _ _ h _ => h, fun _ _ _ h _ => h, fun _ _ _ h _ => h, fun _ _ _ ⟨b, h1, h2⟩ hb => ⟨b, h1, Kd.C_below h2 hb⟩, fun _ _ _ ⟨A', c', h1, h2, h3, h4⟩ hb => ⟨A', c', h1, h2, Kd.C_below h3 hb, h4⟩, fun _ _ _ h _ => h, fun _ _ _ h _ => h, fun _ _ _ h _ => h, fun _ _ _ h _ => h, fun _ _ _ h _ => h, fun _ _ _ h _ => h, fun _ _ _ h _ => h, fun _ _ _ h _ => h, fun _ _ _ h _ => h, fun _ _ _ h _ => h, fun _ _ _ h _ => h, fun _ _ _ ⟨b, h1, h2⟩ hb => ⟨b, h1, Kd.C_below h2 hb⟩, fun _ _ _ ⟨A', c', h1, h2, h3, h4⟩ hb => ⟨A', c', h1, h2, Kd.C_below h3 hb, h4⟩, trivial⟩ ?hSZ ⟨?o0Z, ?o1Z, ?o2Z, ?o3Z, ?o4Z, ?o5Z, ?o6Z, ?o7Z, ?o8Z, ?o9Z, ?o10Z, ?o11Z, ?o12Z, ?o13Z, ?o14Z, ?o15Z, ?o16Z, ?o17Z, ?o18Z, ?o19Z, ?o20Z, ?o21Z, ?o22Z, ?o23Z, ?o24Z, ?o25Z, trivial⟩ ?hendZ
          case hFZ => intro f; (try simp only [List.take_succ_cons, List.take_zero, RegT.fillIn, RegT.fv, Act.put, List.setIfInBounds_toArray, List.set_cons_zero, List.set_cons_succ]); exact rfl
          case hSZ => exact HX.out.step (below_drew (Below.refl _ _))
          case o0Z =>
            intro f W1 hS hd K hK
            clear hd
            (go_simp; exact hK.out (.slice A st.length ca) _ hS (Below.refl _ _) rfl (fun _ (h : (none : Option Nat) = some _) => by cases h) _ (by rfl))
          case o1Z =>
            intro f W1 hS hd K hK
            clear hd
            (go_simp; exact hK.out (.slice A st.length ca) _ hS (Below.refl _ _) rfl (fun _ (h : (none : Option Nat) = some _) => by cases h) _ (by rfl))
          case o2Z =>
            intro f W1 hS hd K hK
            obtain ⟨e52, -⟩ := hd
            replace e52 : f 52 = .slice A st.length ca := e52
            (go_simp; exact hK.out (.int .i64 (st.length : Int)) _ hS (Below.refl _ _) rfl (fun _ (h : (none : Option Nat) = some _) => by cases h) _ (by first | (simp only [e52]; done) | (simp only [e52]; rfl) | rfl))
          case o3Z =>
            intro f W1 hS hd K hK
            clear hd
            (go_simp; exact hK.out (.int .i64 (k : Int)) _ hS (Below.refl _ _) rfl (fun _ (h : (none : Option Nat) = some _) => by cases h) _ (by rfl))
          case o4Z =>
            intro f W1 hS hd K hK
            obtain ⟨e53, e54, -⟩ := hd
            replace e53 : f 53 = .int .i64 (st.length : Int) := e53
            replace e54 : f 54 = .int .i64 (k : Int) := e54
            have hw := sub_wrap st.length k hkn (by omega)
            (go_simp; exact hK.out (.int .i64 ((st.length : Int) - (k : Int))) _ hS (Below.refl _ _) rfl (fun _ (h : (none : Option Nat) = some _) => by cases h) _ (by first | (simp only [e53, e54, hw]; done) | (simp only [e53, e54, hw]; rfl) | rfl))
          case o5Z =>
            intro f W1 hS hd K hK
            clear hd
            (go_simp; exact hK.out (.slice A st.length ca) _ hS (Below.refl _ _) rfl (fun _ (h : (none : Option Nat) = some _) => by cases h) _ (by rfl))
          case o6Z =>
            intro f W1 hS hd K hK
            obtain ⟨e56, -⟩ := hd
            replace e56 : f 56 = .slice A st.length ca := e56
            (go_simp; exact hK.out (.int .i64 (st.length : Int)) _ hS (Below.refl _ _) rfl (fun _ (h : (none : Option Nat) = some _) => by cases h) _ (by first | (simp only [e56]; done) | (simp only [e56]; rfl) | rfl))
          case o7Z =>
            intro f W1 hS hd K hK
            clear hd
            (go_simp; exact hK.out (.int .i64 (k : Int)) _ hS (Below.refl _ _) rfl (fun _ (h : (none : Option Nat) = some _) => by cases h) _ (by rfl))
          case o8Z =>
            intro f W1 hS hd K hK
            obtain ⟨e57, e58, -⟩ := hd
            replace e57 : f 57 = .int .i64 (st.length : Int) := e57
            replace e58 : f 58 = .int .i64 (k : Int) := e58
            have hw := sub_wrap st.length k hkn (by omega)
            (go_simp; exact hK.out (.int .i64 ((st.length : Int) - (k : Int))) _ hS (Below.refl _ _) rfl (fun _ (h : (none : Option Nat) = some _) => by cases h) _ (by first | (simp only [e57, e58, hw]; done) | (simp only [e57, e58, hw]; rfl) | rfl))
          case o9Z =>
            intro f W1 hS hd K hK
            obtain ⟨e51, e55, e59, -⟩ := hd
            replace e51 : f 51 = .slice A st.length ca := e51
            replace e55 : f 55 = .int .i64 ((st.length : Int) - (k : Int)) := e55
            replace e59 : f 59 = .int .i64 ((st.length : Int) - (k : Int)) := e59
            (go_simp; exact hK.out (.slice A (st.length - k) (st.length - k)) _ hS (Below.refl _ _) rfl (fun _ (h : (none : Option Nat) = some _) => by cases h) _ (by first | (simp only [e51, e55, e59]; done) | (simp only [e51, e55, e59]; rfl) | rfl))
          case o10Z =>
            intro f W1 hS hd K hK
            clear hd
            have q0 := hS.x0
            have q1 := hS.x1
            have q2 := hS.x2
            have q3 := hS.y0
            have q4 := hS.y1
            have q5 := hS.y2
            (go_simp; exact hK.out (.agg #[.int .i64 p.f0, .int .i64 p.f1, .slice Tx k tcx]) _ hS (Below.refl _ _) rfl (fun _ (h : (none : Option Nat) = some _) => by cases h) _ (by rfl))
          case o11Z =>
            intro f W1 hS hd K hK
            obtain ⟨e61, -⟩ := hd
            replace e61 : f 61 = .agg #[.int .i64 p.f0, .int .i64 p.f1, .slice Tx k tcx] := e61
            have h1 := AppC.one_C (feet k55 (okB w)) W1 55 x [.int .i64 p.f0, .int .i64 p.f1, .slice Tx k tcx] hS.xk
            go_simp
            exact hK.out (.slice (some ⟨W1.heap.size, 0, none⟩) 1 1) _ (InX11.step hS ((Below.refl _ _).alloc (Nat.le_refl _) _)) ((Below.refl _ _).alloc (Nat.le_refl _) _) ⟨_, rfl, h1⟩ (fun _ (h : (none : Option Nat) = some _) => by cases h) _ (by first | (simp only [e61]; done) | (simp only [e61]; rfl) | rfl)
          case o12Z =>
            intro f W1 hS hd K hK
            obtain ⟨e60, e62, -⟩ := hd
            replace e60 : f 60 = .slice A (st.length - k) (st.length - k) := e60
            obtain ⟨b62, e62, hC62⟩ := e62
            refine AppC.step_full (feet k55 (okB w)) (by rfl) (.tmp 60) (.tmp 62) 53 55 (.agg #[.int .i64 0, .int .i64 0, .slice none 0 0]) 40 (by rfl) Tryd.underlying53 infoT rfl (by omega) A (st.length - k) (st.take (st.length - k)) (some ⟨b62, 0, none⟩) 1 1 [x] e60 e62 (hS.sk k) hC62 (by omega) ?_
            intro A1 c1 w1 hc hC hb hnew
            exact hK.out (.slice A1 ((st.length - k) + 1) c1) _ (InX11.step hS hb) hb ⟨A1, c1, rfl, hc, hC, far_new hnew (fun _ => by omega) (by have := hS.big; unfold okB at *; omega)⟩ (fun _ (h : (none : Option Nat) = some _) => by cases h) _ (by first | (simp only [e60, e62]; done) | (simp only [e60, e62]; rfl) | rfl)
          case o13Z =>
            intro f W1 hS hd K hK
            clear hd
            (go_simp; exact hK.out (.slice B st.length cb) _ hS (Below.refl _ _) rfl (fun _ (h : (none : Option Nat) = some _) => by cases h) _ (by rfl))
          case o14Z =>
            intro f W1 hS hd K hK
            clear hd
            (go_simp; exact hK.out (.slice B st.length cb) _ hS (Below.refl _ _) rfl (fun _ (h : (none : Option Nat) = some _) => by cases h) _ (by rfl))
          case o15Z =>
            intro f W1 hS hd K hK
            obtain ⟨e65, -⟩ := hd
            replace e65 : f 65 = .slice B st.length cb := e65
            (go_simp; exact hK.out (.int .i64 (st.length : Int)) _ hS (Below.refl _ _) rfl (fun _ (h : (none : Option Nat) = some _) => by cases h) _ (by first | (simp only [e65]; done) | (simp only [e65]; rfl) | rfl))
          case o16Z =>
            intro f W1 hS hd K hK
            clear hd
            (go_simp; exact hK.out (.int .i64 (k : Int)) _ hS (Below.refl _ _) rfl (fun _ (h : (none : Option Nat) = some _) => by cases h) _ (by rfl))
          case o17Z =>
            intro f W1 hS hd K hK
            obtain ⟨e66, e67, -⟩ := hd
            replace e66 : f 66 = .int .i64 (st.length : Int) := e66
            replace e67 : f 67 = .int .i64 (k : Int) := e67
            have hw := sub_wrap st.length k hkn (by omega)
            (go_simp; exact hK.out (.int .i64 ((st.length : Int) - (k : Int))) _ hS (Below.refl _ _) rfl (fun _ (h : (none : Option Nat) = some _) => by cases h) _ (by first | (simp only [e66, e67, hw]; done) | (simp only [e66, e67, hw]; rfl) | rfl))
          case o18Z =>
            intro f W1 hS hd K hK
            clear hd
            (go_simp; exact hK.out (.slice B st.length cb) _ hS (Below.refl _ _) rfl (fun _ (h : (none : Option Nat) = some _) => by cases h) _ (by rfl))
          case o19Z =>
            intro f W1 hS hd K hK
            obtain ⟨e69, -⟩ := hd
            replace e69 : f 69 = .slice B st.length cb := e69
            (go_simp; exact hK.out (.int .i64 (st.length : Int)) _ hS (Below.refl _ _) rfl (fun _ (h : (none : Option Nat) = some _) => by cases h) _ (by first | (simp only [e69]; done) | (simp only [e69]; rfl) | rfl))
          case o20Z =>
            intro f W1 hS hd K hK
            clear hd
            (go_simp; exact hK.out (.int .i64 (k : Int)) _ hS (Below.refl _ _) rfl (fun _ (h : (none : Option Nat) = some _) => by cases h) _ (by rfl))
          case o21Z =>
            intro f W1 hS hd K hK
            obtain ⟨e70, e71, -⟩ := hd
            replace e70 : f 70 = .int .i64 (st.length : Int) := e70
            replace e71 : f 71 = .int .i64 (k : Int) := e71
            have hw := sub_wrap st.length k hkn (by omega)
            (go_simp; exact hK.out (.int .i64 ((st.length : Int) - (k : Int))) _ hS (Below.refl _ _) rfl (fun _ (h : (none : Option Nat) = some _) => by cases h) _ (by first | (simp only [e70, e71, hw]; done) | (simp only [e70, e71, hw]; rfl) | rfl))
          case o22Z =>
            intro f W1 hS hd K hK
            obtain ⟨e64, e68, e72, -⟩ := hd
            replace e64 : f 64 = .slice B st.length cb := e64
            replace e68 : f 68 = .int .i64 ((st.length : Int) - (k : Int)) := e68
            replace e72 : f 72 = .int .i64 ((st.length : Int) - (k : Int)) := e72
            (go_simp; exact hK.out (.slice B (st.length - k) (st.length - k)) _ hS (Below.refl _ _) rfl (fun _ (h : (none : Option Nat) = some _) => by cases h) _ (by first | (simp only [e64, e68, e72]; done) | (simp only [e64, e68, e72]; rfl) | rfl))
          case o23Z =>
            intro f W1 hS hd K hK
            clear hd
            have q0 := hS.x0
            have q1 := hS.x1
            have q2 := hS.x2
            have q3 := hS.y0
            have q4 := hS.y1
            have q5 := hS.y2
            (go_simp; exact hK.out (.agg #[.int .i64 p.f0, .int .i64 p.f1, .slice Ty k tcy]) _ hS (Below.refl _ _) rfl (fun _ (h : (none : Option Nat) = some _) => by cases h) _ (by rfl))
          case o24Z =>
            intro f W1 hS hd K hK
            obtain ⟨e74, -⟩ := hd
            replace e74 : f 74 = .agg #[.int .i64 p.f0, .int .i64 p.f1, .slice Ty k tcy] := e74
            have h1 := AppC.one_C (feet k58 (okB w)) W1 58 y [.int .i64 p.f0, .int .i64 p.f1, .slice Ty k tcy] hS.yk
            go_simp
            exact hK.out (.slice (some ⟨W1.heap.size, 0, none⟩) 1 1) _ (InX11.step hS ((Below.refl _ _).alloc (Nat.le_refl _) _)) ((Below.refl _ _).alloc (Nat.le_refl _) _) ⟨_, rfl, h1⟩ (fun _ (h : (none : Option Nat) = some _) => by cases h) _ (by first | (simp only [e74]; done) | (simp only [e74]; rfl) | rfl)
          case o25Z =>
            intro f W1 hS hd K hK
            obtain ⟨e73, e75, -, -⟩ := hd
            replace e73 : f 73 = .slice B (st.length - k) (st.length - k) := e73
            obtain ⟨b75, e75, hC75⟩ := e75
            refine AppC.step_full (feet k58 (okB w)) (by rfl) (.tmp 73) (.tmp 75) 56 58 (.agg #[.int .i64 0, .int .i64 0, .slice none 0 0]) 40 (by rfl) Tryd.underlying56 infoR rfl (by omega) B (st.length - k) (rs.take (st.length - k)) (some ⟨b75, 0, none⟩) 1 1 [y] e73 e75 (hS.rk k) hC75 (by omega) ?_
            intro A1 c1 w1 hc hC hb hnew
            exact hK.out (.slice A1 ((st.length - k) + 1) c1) _ (InX11.step hS hb) hb ⟨A1, c1, rfl, hc, hC, far_new hnew (fun _ => by omega) (by have := hS.big; unfold okB at *; omega)⟩ (fun _ (h : (none : Option Nat) = some _) => by cases h) _ (by first | (simp only [e73, e75]; done) | (simp only [e73, e75]; rfl) | rfl)
          case hendZ =>
            intro f W1 hS hr hbl
            have e63 := hr 12 _ _ (by omega) rfl rfl
            obtain ⟨A63, c63, e63, hc63, hC63, hF63⟩ := e63
            have e76 := hr 25 _ _ (by omega) rfl rfl
            obtain ⟨B76, c76, e76, hc76, hC76, hF76⟩ := e76
            (try dsimp only)
            generalize f 63 = x63 at *
            subst e63
            generalize f 76 = x76 at *
            subst e76
            try simp only [List.drop_succ_cons, List.drop_zero]
            clear hcut hcutR
            have HI4 : Hid (InBd w (bStep st p) A63 c63 B76 c76 W1) := Lib.hid (by
              have hl : (bStep st p).length = st.length - k + 1 := by simp only [bStep, ← HKB.out, List.length_append, List.length_take, List.length_singleton]; omega
              have ht : toRs (bStep st p) = rs.take (st.length - k) ++ [y] := by rw [toRs_map, bStep, ← HKB.out, List.map_append, HYE.out, HRS.out, toRs_map, List.map_take]; simp [toR, toRs_map, List.map_drop]
              refine ⟨HI3.out.bel.trans (hS.bel.mono HI3.out.bel.size), ?_, ?_, ?_, ?_⟩
              · exact blk_below HI3.out.z2 hS.bel
              · exact blk_below HI3.out.z3 hS.bel
              · rw [hl]
                refine ⟨?_, hc63⟩
                have := F_of hC63 hF63
                rw [HXE.out] at this
                unfold bStep
                rw [← HKB.out]
                exact this
              · rw [hl, ht]
                exact ⟨F_of hC76 hF76, hc76⟩)
            have HL4 : Hid ((bStep st p).length = st.length - k + 1) := Lib.hid (by simp only [bStep, ← HKB.out, List.length_append, List.length_take, List.length_singleton]; omega)
            rw [← HL4.out]
            have hjr : (j : Int) + 1 ≤ 1000000 := by omega
            clear hS hr hbl hC63 hC76 hF63 hF76 HX HXE HYE HRS HI3 HKB
            go_wp2
            case roundEnd =>
              refine ⟨⟨j + 1, bStep st p, A63, c63, B76, c76, rfl, rfl, by go_num, HJ.out, HO2, Lib.hid (by have := HL4.out; have := HSJ.out; omega), HI4⟩, ?_⟩
              have := HJ.out
              simp [intOf]
              omega
    · obtain rfl : j = l.length := by omega
      have HF2 : Hid (st = fin) := Lib.hid (by have := HO.out; rwa [List.drop_length, bAll] at this)
      have hst0 : st.length ≠ 0 := by rw [HF2.out]; exact fun h => HNE.out (List.eq_nil_of_length_eq_zero h)
      obtain ⟨m, hm⟩ : ∃ m, st.length = m + 1 := ⟨st.length - 1, by omega⟩
      have hn : st.length ≤ 1000 := by have := HSJ.out; omega
      have hst1 : ((st.length : Int) == 0) = false := by simp only [beq_eq_false_iff_ne, ne_eq]; omega
      have HM := Lib.hid hm
      obtain ⟨ad, T, tc, eA, x0, x1, x2, htc, hTt, hfa⟩ := at_farT HI.out.a.1 m (by omega)
      obtain ⟨bd, R, rc, eB, y0, y1, y2, hrc, hRr, hfb⟩ := at_farR HI.out.b.1 m (by omega)
      obtain ⟨t, ht⟩ : ∃ t, t = st.getD m z55 := ⟨_, rfl⟩
      have hur : (toRs st).getD m z58 = toR t := by
        have h1 : m < st.length := by omega
        rw [ht, toRs_map, List.getD_eq_getElem?_getD, List.getD_eq_getElem?_getD, List.getElem?_map, List.getElem?_eq_getElem h1]; rfl
      have HLA : Hid (fin.getLast? = some t) := Lib.hid (by
        have h1 : m < st.length := by omega
        rw [← HF2.out, List.getLast?_eq_getElem?, ht, List.getD_eq_getElem?_getD, show st.length - 1 = m by omega, List.getElem?_eq_getElem h1]; rfl)
      rw [← ht] at x0 x1 x2 htc hTt
      rw [hur] at y0 y1 y2 hrc hRr
      subst eA
      subst eB
      have HE := Lib.hid (InEnd.mk (w := w) (t := t) (u := toR t) HI.out.bel ⟨_, _, _, HI.out.z2⟩ HI.out.z3 x0 x1 x2 y0 y1 y2 ⟨hfa, hfb⟩ ⟨hTt, htc⟩ ⟨hRr, hrc⟩)
      have hj0 : 0 ≤ (m : Int) := Int.natCast_nonneg _
      have hj1 : (m : Int) < (st.length : Int) := by omega
      clear x0 x1 x2 y0 y1 y2 hfa hfb hTt htc hRr hrc HO HI ht hur hm hst0 hj hjl
      go_wp2_with fail
      clear hst1
      (try generalize ((st.length : Int) == 0) = bb0)
      refine RegT.regionE (E := (fun W W' => W.heap.size ≤ W'.heap.size ∧ (W.heap[w.heap.size]? = some (.cells #[.int .i64 t.f0, .int .i64 t.f1, .slice T t.f2.length tc] 55 (0, 0)) → W'.heap[w.heap.size]? = some (.cells #[.int .i64 t.f0, .int .i64 t.f1, .slice T t.f2.length tc] 55 (0, 0))))) (fun _ _ h => h.1) (F := ?FE) (InEnd w t (toR t) (ad.add (m * 3)) (bd.add (m * 3)) T tc R rc) [fun v _ => v = .slice (some ad) st.length ca, fun v _ => v = .slice (some ad) st.length ca, fun v _ => v = .int .i64 (st.length : Int), fun v _ => v = .int .i64 (m : Int), fun v _ => v = .pointer (some (ad.add (m * 3))), fun v _ => v = .agg #[.int .i64 t.f0, .int .i64 t.f1, .slice T t.f2.length tc], fun v _ => v = .slice (some bd) st.length cb, fun v _ => v = .slice (some bd) st.length cb, fun v _ => v = .int .i64 (st.length : Int), fun v _ => v = .int .i64 (m : Int), fun v _ => v = .pointer (some (bd.add (m * 3))), fun v _ => v = .agg #[.int .i64 (toR t).f0, .int .i64 (toR t).f1, .slice R (toR t).f2.length rc], fun _ W => W.heap[w.heap.size]? = some (.cells #[.int .i64 t.f0, .int .i64 t.f1, .slice T t.f2.length tc] 55 (0, 0))] (fun i v => match i with  | _ => none) (fun i => match i with  | _ => false) 13 ?hFE (by kernel_rfl) (by kernel_rfl) (by kernel_rfl) (by kernel_rfl) (by kernel_rfl) (by simp) ⟨fun _ _ _ h _ => h, fun _ _ _ h _ => h, fun _ _ _ h _ => h, fun _ _ _ h _ => h, fun _ _ _ h _ => h, fun _ _ _ h _ => h, fun _ _ _ h _ => h, fun _ _ _ h _ => h, fun _ _ _ h _ => h, fun _ _ _ h _ => h, fun _ _ _ h _ => h, fun _ _ _ h _ => h, fun _ _ _ h hb => hb.2 h, trivial⟩ ?hSE ⟨?o0E, ?o1E, ?o2E, ?o3E, ?o4E, ?o5E, ?o6E, ?o7E, ?o8E, ?o9E, ?o10E, ?o11E, ?o12E, trivial⟩ ?hendE
      case hFE => intro f; (try simp only [List.take_succ_cons, List.take_zero, RegT.fillIn, RegT.fv, Act.put, List.setIfInBounds_toArray, List.set_cons_zero, List.set_cons_succ]); exact rfl
      case hSE => exact HE.out.drew
      case o0E =>
        intro f W1 hS hd K hK
        clear hd
        (go_simp; exact hK.out (.slice (some ad) st.length ca) _ hS ⟨Nat.le_refl _, fun h => h⟩ rfl (fun _ (h : (none : Option Nat) = some _) => by cases h) _ (by rfl))
      case o1E =>
        intro f W1 hS hd K hK
        clear hd
        (go_simp; exact hK.out (.slice (some ad) st.length ca) _ hS ⟨Nat.le_refl _, fun h => h⟩ rfl (fun _ (h : (none : Option Nat) = some _) => by cases h) _ (by rfl))
      case o2E =>
        intro f W1 hS hd K hK
        obtain ⟨e84, -⟩ := hd
        replace e84 : f 84 = .slice (some ad) st.length ca := e84
        (go_simp; exact hK.out (.int .i64 (st.length : Int)) _ hS ⟨Nat.le_refl _, fun h => h⟩ rfl (fun _ (h : (none : Option Nat) = some _) => by cases h) _ (by first | (simp only [e84]; done) | (simp only [e84]; rfl) | rfl))
      case o3E =>
        intro f W1 hS hd K hK
        obtain ⟨e85, -⟩ := hd
        replace e85 : f 85 = .int .i64 (st.length : Int) := e85
        have hw : IntKind.i64.wrap ((st.length : Int) - 1) = (m : Int) := by rw [HM.out, IntWalk.i64_in _ (by omega)]; omega
        (go_simp; exact hK.out (.int .i64 (m : Int)) _ hS ⟨Nat.le_refl _, fun h => h⟩ rfl (fun _ (h : (none : Option Nat) = some _) => by cases h) _ (by first | (simp only [e85, hw]; done) | (simp only [e85, hw]; rfl) | rfl))
      case o4E =>
        intro f W1 hS hd K hK
        obtain ⟨e83, e86, -⟩ := hd
        replace e83 : f 83 = .slice (some ad) st.length ca := e83
        replace e86 : f 86 = .int .i64 (m : Int) := e86
        (go_simp; exact hK.out (.pointer (some (ad.add (m * 3)))) _ hS ⟨Nat.le_refl _, fun h => h⟩ rfl (fun _ (h : (none : Option Nat) = some _) => by cases h) _ (by first | (simp only [e83, e86]; done) | (simp only [e83, e86]; rfl) | rfl))
      case o5E =>
        intro f W1 hS hd K hK
        obtain ⟨e87, -⟩ := hd
        replace e87 : f 87 = .pointer (some (ad.add (m * 3))) := e87
        have q0 := hS.x0
        have q1 := hS.x1
        have q2 := hS.x2
        have q3 := hS.y0
        have q4 := hS.y1
        have q5 := hS.y2
        (go_simp; exact hK.out (.agg #[.int .i64 t.f0, .int .i64 t.f1, .slice T t.f2.length tc]) _ hS ⟨Nat.le_refl _, fun h => h⟩ rfl (fun _ (h : (none : Option Nat) = some _) => by cases h) _ (by first | (simp only [e87]; done) | (simp only [e87]; rfl) | rfl))
      case o6E =>
        intro f W1 hS hd K hK
        clear hd
        (go_simp; exact hK.out (.slice (some bd) st.length cb) _ hS ⟨Nat.le_refl _, fun h => h⟩ rfl (fun _ (h : (none : Option Nat) = some _) => by cases h) _ (by rfl))
      case o7E =>
        intro f W1 hS hd K hK
        clear hd
        (go_simp; exact hK.out (.slice (some bd) st.length cb) _ hS ⟨Nat.le_refl _, fun h => h⟩ rfl (fun _ (h : (none : Option Nat) = some _) => by cases h) _ (by rfl))
      case o8E =>
        intro f W1 hS hd K hK
        obtain ⟨e90, -⟩ := hd
        replace e90 : f 90 = .slice (some bd) st.length cb := e90
        (go_simp; exact hK.out (.int .i64 (st.length : Int)) _ hS ⟨Nat.le_refl _, fun h => h⟩ rfl (fun _ (h : (none : Option Nat) = some _) => by cases h) _ (by first | (simp only [e90]; done) | (simp only [e90]; rfl) | rfl))
      case o9E =>
        intro f W1 hS hd K hK
        obtain ⟨e91, -⟩ := hd
        replace e91 : f 91 = .int .i64 (st.length : Int) := e91
        have hw : IntKind.i64.wrap ((st.length : Int) - 1) = (m : Int) := by rw [HM.out, IntWalk.i64_in _ (by omega)]; omega
        (go_simp; exact hK.out (.int .i64 (m : Int)) _ hS ⟨Nat.le_refl _, fun h => h⟩ rfl (fun _ (h : (none : Option Nat) = some _) => by cases h) _ (by first | (simp only [e91, hw]; done) | (simp only [e91, hw]; rfl) | rfl))
      case o10E =>
        intro f W1 hS hd K hK
        obtain ⟨e89, e92, -⟩ := hd
        replace e89 : f 89 = .slice (some bd) st.length cb := e89
        replace e92 : f 92 = .int .i64 (m : Int) := e92
        (go_simp; exact hK.out (.pointer (some (bd.add (m * 3)))) _ hS ⟨Nat.le_refl _, fun h => h⟩ rfl (fun _ (h : (none : Option Nat) = some _) => by cases h) _ (by first | (simp only [e89, e92]; done) | (simp only [e89, e92]; rfl) | rfl))
      case o11E =>
        intro f W1 hS hd K hK
        obtain ⟨e93, -⟩ := hd
        replace e93 : f 93 = .pointer (some (bd.add (m * 3))) := e93
        have q0 := hS.x0
        have q1 := hS.x1
        have q2 := hS.x2
        have q3 := hS.y0
        have q4 := hS.y1
        have q5 := hS.y2
        (go_simp; exact hK.out (.agg #[.int .i64 (toR t).f0, .int .i64 (toR t).f1, .slice R (toR t).f2.length rc]) _ hS ⟨Nat.le_refl _, fun h => h⟩ rfl (fun _ (h : (none : Option Nat) = some _) => by cases h) _ (by first | (simp only [e93]; done) | (simp only [e93]; rfl) | rfl))
      case o12E =>
        intro f W1 hS hd K hK
        obtain ⟨e88, -, -, -, -, -, -, -⟩ := hd
        replace e88 : f 88 = .agg #[.int .i64 t.f0, .int .i64 t.f1, .slice T t.f2.length tc] := e88
        obtain ⟨z0, z1, z2, hz⟩ := hS.z2
        have hfz := fun i => blk_frozen hz i
        have hf0 := hfz 0
        have hf1 := hfz 1
        have hf2 := hfz 2
        have hy0 : W1.cell? ⟨w.heap.size, 0, none⟩ = some z0 := (blk_cell hz 0).trans rfl
        have hy1 : W1.cell? ⟨w.heap.size, 1, none⟩ = some z1 := (blk_cell hz 1).trans rfl
        have hy2 : W1.cell? ⟨w.heap.size, 2, none⟩ = some z2 := (blk_cell hz 2).trans rfl
        have hh := blk_set (blk_set (blk_set hz 0 (.int .i64 t.f0)) 1 (.int .i64 t.f1)) 2 (.slice T t.f2.length tc)
        have hS3 := ((hS.set 0 (.int .i64 t.f0) (by decide)).set 1 (.int .i64 t.f1) (by decide)).set 2 (.slice T t.f2.length tc) (by decide)
        clear hfz
        go_simp
        exact hK.out undef _ hS3 ⟨by simp, fun _ => hh⟩ hh (fun _ (h : (none : Option Nat) = some _) => by cases h) _ (by first | (simp only [e88]; done) | (simp only [e88]; rfl) | rfl)
      case hendE =>
        intro f W1 hS hr hrn hbl
        have e94 := hr 11 _ _ (by omega) rfl rfl
        replace e94 : f 94 = .agg #[.int .i64 (toR t).f0, .int .i64 (toR t).f1, .slice R (toR t).f2.length rc] := e94
        (try dsimp only)
        generalize f 94 = x94 at *
        subst e94
        try simp only [List.drop_succ_cons, List.drop_zero]
        obtain ⟨_, hz2⟩ := hrn 12 _ (by omega) rfl rfl
        replace hz2 : W1.heap[w.heap.size]? = some (.cells #[.int .i64 t.f0, .int .i64 t.f1, .slice T t.f2.length tc] 55 (0, 0)) := hz2
        have hz := hS.z3
        have hfz := fun i => blk_frozen hz i
        have hf0 := hfz 0
        have hf1 := hfz 1
        have hf2 := hfz 2
        have hy0 : W1.cell? ⟨w.heap.size + 1, 0, none⟩ = some (.int .i64 0) := (blk_cell hz 0).trans rfl
        have hy1 : W1.cell? ⟨w.heap.size + 1, 1, none⟩ = some (.int .i64 0) := (blk_cell hz 1).trans rfl
        have hy2 : W1.cell? ⟨w.heap.size + 1, 2, none⟩ = some (.slice none 0 0) := (blk_cell hz 2).trans rfl
        have hh := blk_set (blk_set (blk_set hz 0 (.int .i64 (toR t).f0)) 1 (.int .i64 (toR t).f1)) 2 (.slice R (toR t).f2.length rc)
        have hh2 := blk_far (blk_far (blk_far hz2 (p := ⟨w.heap.size + 1, 0, none⟩) (by simp) (.int .i64 (toR t).f0)) (p := ⟨w.heap.size + 1, 1, none⟩) (by simp) (.int .i64 (toR t).f1)) (p := ⟨w.heap.size + 1, 2, none⟩) (by simp) (.slice R (toR t).f2.length rc)
        have hfar : ∀ (i k : Nat), okB w k → k ≠ (⟨w.heap.size + 1, i, none⟩ : Addr).block := fun i k hk e => by unfold okB at hk; simp only at e; omega
        have hT3 := Kd.F_now (Kd.F_far (Kd.F_far (Kd.F_far hS.c.1 (p := ⟨w.heap.size + 1, 0, none⟩) (hfar 0) (.int .i64 (toR t).f0)) (p := ⟨w.heap.size + 1, 1, none⟩) (hfar 1) (.int .i64 (toR t).f1)) (p := ⟨w.heap.size + 1, 2, none⟩) (hfar 2) (.slice R (toR t).f2.length rc))
        have hR3 := Kd.F_now (Kd.F_far (Kd.F_far (Kd.F_far hS.r.1 (p := ⟨w.heap.size + 1, 0, none⟩) (hfar 0) (.int .i64 (toR t).f0)) (p := ⟨w.heap.size + 1, 1, none⟩) (hfar 1) (.int .i64 (toR t).f1)) (p := ⟨w.heap.size + 1, 2, none⟩) (hfar 2) (.slice R (toR t).f2.length rc))
        have hb3 : Below w.heap.size w (((W1.setCell ⟨w.heap.size + 1, 0, none⟩ (.int .i64 (toR t).f0)).setCell ⟨w.heap.size + 1, 1, none⟩ (.int .i64 (toR t).f1)).setCell ⟨w.heap.size + 1, 2, none⟩ (.slice R (toR t).f2.length rc)) := ((hS.bel.setCell (by simp) _).setCell (by simp) _).setCell (by simp) _
        have HH := Lib.hid hh
        have HH2 := Lib.hid hh2
        have HT3 := Lib.hid hT3
        have HR3 := Lib.hid hR3
        have HB3 := Lib.hid hb3
        have HTC := Lib.hid hS.c.2
        have HRC := Lib.hid hS.r.2
        clear hh hh2 hT3 hR3 hb3 hfar hfz hz2 hr hrn hbl hS
        go_wp2
        refine bodyPost_ret (results_two rfl _ _ w.heap.size (w.heap.size + 1) 55 58 _ _ _ _ rfl HH2.out Tryd.underlying55 rfl (by kernel_rfl) rfl HH.out Tryd.underlying58 rfl (by kernel_rfl)) rfl ?_
        exact ⟨t, T, tc, R, rc, HLA.out, rfl, ⟨HT3.out, HTC.out⟩, ⟨HR3.out, HRC.out⟩, HB3.out⟩
end Go.Proofs.YtmdjmbdeeodehaaDoor.G
end
section
set_option linter.unusedVariables false
set_option linter.unusedSimpArgs false
namespace Go.Proofs.YtmdjmbdeeodehaaDoor.G
open Go Go.Proofs Go.Proofs.YtmdjmbdeeodehaaDoor Go.RowKit Go.Proofs.YtmdjmbdeeodehaaDoorW.PrintWords Go.Proofs.YtmdjmbdeeodehaaDoorW.PrintLast Go.Proofs.YtmdjmbdeeodehaaDoorW.PrintMore Go.Proofs.YtmdjmbdeeodehaaDoor.Pure
set_option maxHeartbeats 2000000 in
set_option maxRecDepth 100000 in
theorem leaf_calls (s : Int) (w : World) : Calls Tryd.prog 99 #[.int .i64 s] w fun e w' => e = .returned (.agg #[.int .i64 (-1), .int .i64 s, .slice none 0 0]) ∧ Below w.heap.size w w' := by
  have hu := Tryd.underlying55
  go_enter Tryd.func99, Tryd.ntmps99
  go_wp2
  refine bodyPost_ret (results_cell_row rfl _ _ w.heap.size 55 #[.int .i64 (-1), .int .i64 s, .slice none 0 0] (0, 0) _ rfl (blk_new w _) Tryd.underlying55 rfl (by kernel_rfl)) rfl ?_
  exact ⟨rfl, (Below.refl _ w).alloc (Nat.le_refl _) _⟩
set_option maxHeartbeats 2000000 in
set_option maxRecDepth 100000 in
theorem tclone_calls {α : Type} (d : Kd α) (hsz : d.sz = 3) (A : Option Addr) (c : Nat) (l : List α) (n : Nat) (hl : n ≤ 1000000) (hc : n ≤ c) (w : World) (hr : Kd.C d w A n l) :
    Calls Tryd.prog 145 #[.slice A n c] w fun e w' => ∃ (A1 : Option Addr) (c1 : Nat), e = .returned (.slice A1 n c1) ∧ n ≤ c1 ∧ Kd.C d w' A1 n l ∧ Below w.heap.size w w' ∧ ∀ ad, A1 = some ad → n ≠ 0 → w.heap.size ≤ ad.block := by
  have HR := Lib.hid hr
  have hi : (Tryd.prog.info? 55).map (fun i => (i.zero, i.size, i.bytes)) = some (some (.agg #[.int .i64 0, .int .i64 0, .slice none 0 0]), d.sz, 40) := by rw [hsz]; exact infoT
  have HIN := Lib.hid hi
  have HZ : Hid ((Value.agg #[.int .i64 0, .int .i64 0, .slice none 0 0]).cells.size = d.sz) := Lib.hid (by rw [hsz]; rfl)
  clear hr hi hsz
  cases A with
  | none =>
    have hz : n = 0 := by
      rcases Nat.eq_zero_or_pos n with h | h
      · exact h
      · obtain ⟨ad, h, _⟩ := HR.out.2.2 h; cases h
    subst hz
    obtain rfl : l = [] := List.length_eq_zero_iff.1 HR.out.1
    have hnil := fun W : World => Lib.run_eql_slice_nil (P := Tryd.prog) W 53 55 none 0 c 0 0 Tryd.underlying53
    clear hc hl HIN HZ
    go_enter Tryd.func145, Tryd.ntmps145
    go_wp2
    refine bodyPost_ret (v := .slice none 0 0) (by simp [results, Tryd.results145, go_sem]) rfl ⟨_, _, rfl, Nat.le_refl _, AppC.C_empty _ _ _, Below.refl _ _, fun _ h => by cases h⟩
  | some ad =>
    have hnil := fun W : World => Lib.run_eql_slice_nil (P := Tryd.prog) W 53 55 (some ad) n c 0 0 Tryd.underlying53
    have hB0 : Below w.heap.size w (w.alloc (.cells #[] 55)) := (Below.refl _ _).alloc (Nat.le_refl _) _
    have HB0 := Lib.hid hB0
    have HRR := Lib.hid (Kd.C_below HR.out hB0)
    clear hB0
    go_enter Tryd.func145, Tryd.ntmps145
    go_wp2_with ((with_reducible refine gate_dst (N := 7) rfl ?_); refine AppC.row_full d rfl (.tmp 5) (.tmp 6) 53 55 (.agg #[.int .i64 0, .int .i64 0, .slice none 0 0]) 40 rfl Tryd.underlying53 HIN.out HZ.out (by decide) (some ⟨w.heap.size, 0, none⟩) 0 [] (some ad) n c l rfl rfl (AppC.C_empty _ _ _) HRR.out (by omega) ?_; intro A1 c1 w1 hc1 hC hb hnew)
    rw [List.nil_append] at hC
    simp only [Nat.zero_add] at hc1 hC ⊢
    have HC := Lib.hid hC
    have HB := Lib.hid (HB0.out.trans (hb.mono HB0.out.size))
    have HN : Hid (∀ ad, A1 = some ad → n ≠ 0 → w.heap.size ≤ ad.block) := Lib.hid (fun ad e hn => by
      obtain ⟨h1, _⟩ := hnew (by omega)
      rw [h1] at e
      injection e with e
      rw [← e]
      simp)
    clear hnil hC hb hnew HRR HIN HZ HB0
    go_wp2
    refine bodyPost_ret (v := .slice A1 n c1) (by simp [results, Tryd.results145, go_sem]) rfl ⟨_, _, rfl, hc1, HC.out, HB.out, HN.out⟩
set_option maxHeartbeats 2000000 in
set_option maxRecDepth 100000 in
theorem node_calls (r : Int) (A : Option Addr) (c : Nat) (l : List TTree) (hl : l.length ≤ 1000000) (hc : l.length ≤ c) (w : World) (hr : Kd.C k55 w A l.length l) :
    Calls Tryd.prog 98 #[.int .i64 r, .slice A l.length c] w fun e w' => ∃ (A1 : Option Addr) (c1 : Nat), e = .returned (.agg #[.int .i64 r, .int .i64 0, .slice A1 l.length c1]) ∧ l.length ≤ c1 ∧ Kd.C k55 w' A1 l.length l ∧ Below w.heap.size w w' := by
  have hu := Tryd.underlying55
  have hB0 : Below w.heap.size w (w.alloc (.cells #[.int .i64 0, .int .i64 0, .slice none 0 0] 55)) := (Below.refl _ _).alloc (Nat.le_refl _) _
  have HE := Lib.hid (AppC.C_elder (d := k55) hr hB0)
  have HZ := Lib.hid (blk_new w (.cells #[.int .i64 0, .int .i64 0, .slice none 0 0] 55))
  have HB0 := Lib.hid hB0
  clear hr hB0
  go_enter Tryd.func98, Tryd.ntmps98
  go_wp2_with fail
  refine (tclone_calls (AppC.elder k55 w) rfl A c l l.length hl hc _ HE.out).mono ?_
  rintro e w2 ⟨A1, c1, rfl, hc1, hC, hb, hfar⟩
  have hz := blk_below HZ.out hb
  have hfz := fun i => blk_frozen hz i
  have hf0 := hfz 0
  have hf1 := hfz 1
  have hf2 := hfz 2
  have hy0 : w2.cell? ⟨w.heap.size, 0, none⟩ = some (.int .i64 0) := (blk_cell hz 0).trans rfl
  have hy1 : w2.cell? ⟨w.heap.size, 1, none⟩ = some (.int .i64 0) := (blk_cell hz 1).trans rfl
  have hy2 : w2.cell? ⟨w.heap.size, 2, none⟩ = some (.slice none 0 0) := (blk_cell hz 2).trans rfl
  have HH := Lib.hid (blk_set (blk_set (blk_set hz 0 (.int .i64 r)) 1 (.int .i64 0)) 2 (.slice A1 l.length c1))
  have hne : ∀ ad, A1 = some ad → l.length ≠ 0 → ad.block ≠ w.heap.size := fun ad e hn => by have := hfar ad e hn; simp at this; omega
  have hb3 : Below w.heap.size w (((w2.setCell ⟨w.heap.size, 0, none⟩ (.int .i64 r)).setCell ⟨w.heap.size, 1, none⟩ (.int .i64 0)).setCell ⟨w.heap.size, 2, none⟩ (.slice A1 l.length c1)) := (((HB0.out.trans (hb.mono HB0.out.size)).setCell (Nat.le_refl _) _).setCell (Nat.le_refl _) _).setCell (Nat.le_refl _) _
  have HC := Lib.hid (AppC.elder_C (AppC.elder_far (AppC.elder_far (AppC.elder_far hC hne 0 (.int .i64 r)) hne 1 (.int .i64 0)) hne 2 (.slice A1 l.length c1)) hb3)
  have HB := Lib.hid hb3
  clear hfz hz hb hC hfar hne hb3 HB0 HE HZ
  go_wp2
  refine bodyPost_ret (results_cell_row rfl _ _ w.heap.size 55 #[.int .i64 r, .int .i64 0, .slice A1 l.length c1] (0, 0) _ rfl HH.out Tryd.underlying55 rfl (by kernel_rfl)) rfl ?_
  exact ⟨_, _, rfl, hc1, HC.out, HB.out⟩
theorem bAll_nil : ∀ (l : List SPart) (st : List TTree), bAll l st = [] → l = [] ∧ st = []
  | [], st, h => ⟨rfl, h⟩
  | p :: l, st, h => by
    have h1 := (bAll_nil l (bStep st p) h).2
    exact absurd h1 (by simp [bStep])
set_option maxHeartbeats 4000000 in
set_option maxRecDepth 100000 in
theorem build_none (Pp : Option Addr) (pc : Nat) (w : World) :
    Calls Tryd.prog 29 #[.slice Pp 0 pc] w fun e w' => e = .returned (.tuple #[.agg #[.int .i64 (-1), .int .i64 (-1), .slice none 0 0], .agg #[.int .i64 (-1), .int .i64 (-1), .slice none 0 0]]) ∧ Below w.heap.size w w' := by
  have hu := Tryd.underlying55
  have hu2 := Tryd.underlying58
  have hB0 : Below w.heap.size w ((w.alloc (.cells #[.int .i64 0, .int .i64 0, .slice none 0 0] 55)).alloc (.cells #[.int .i64 0, .int .i64 0, .slice none 0 0] 58)) := ((Below.refl _ w).alloc (Nat.le_refl _) _).alloc (by simp) _
  have hz2 := blk_alloc (blk_new w (.cells #[.int .i64 0, .int .i64 0, .slice none 0 0] 55)) (.cells #[.int .i64 0, .int .i64 0, .slice none 0 0] 58)
  have hz3 := blk_new (w.alloc (.cells #[.int .i64 0, .int .i64 0, .slice none 0 0] 55)) (.cells #[.int .i64 0, .int .i64 0, .slice none 0 0] 58)
  rw [show (w.alloc (.cells #[.int .i64 0, .int .i64 0, .slice none 0 0] 55)).heap.size = w.heap.size + 1 by simp] at hz3
  have HZ2 := Lib.hid hz2
  have HZ3 := Lib.hid hz3
  have HB0 := Lib.hid hB0
  clear hz2 hz3 hB0
  go_enter Tryd.func29, Tryd.ntmps29
  go_wp2_with fail
  go_loopw [4, 5, 13] (fun a b i wr => a = .slice none 0 0 ∧ b = .slice none 0 0 ∧ i = .int .i64 0 ∧ wr = ((w.alloc (.cells #[.int .i64 0, .int .i64 0, .slice none 0 0] 55)).alloc (.cells #[.int .i64 0, .int .i64 0, .slice none 0 0] 58))) (fun _ _ i _ => 0)
  case atStart => exact ⟨rfl, rfl, rfl, rfl⟩
  case round =>
    obtain ⟨rfl, rfl, rfl, rfl⟩ := hrel
    generalize hws : (w.alloc (.cells #[.int .i64 0, .int .i64 0, .slice none 0 0] 55)).alloc (.cells #[.int .i64 0, .int .i64 0, .slice none 0 0] 58) = ws at *
    clear hws
    go_wp2_with fail
    refine (leaf_calls (-1) _).mono ?_
    rintro e w2 ⟨rfl, hb⟩
    have hz2 := blk_below HZ2.out hb
    have hz3 := blk_below HZ3.out hb
    have hfz := fun i => blk_frozen hz2 i
    have hf0 := hfz 0
    have hf1 := hfz 1
    have hf2 := hfz 2
    have hgz := fun i => blk_frozen hz3 i
    have hg0 := hgz 0
    have hg1 := hgz 1
    have hg2 := hgz 2
    have hx0 : w2.cell? ⟨w.heap.size, 0, none⟩ = some (.int .i64 0) := (blk_cell hz2 0).trans rfl
    have hx1 : w2.cell? ⟨w.heap.size, 1, none⟩ = some (.int .i64 0) := (blk_cell hz2 1).trans rfl
    have hx2 : w2.cell? ⟨w.heap.size, 2, none⟩ = some (.slice none 0 0) := (blk_cell hz2 2).trans rfl
    have hy0 : w2.cell? ⟨w.heap.size + 1, 0, none⟩ = some (.int .i64 0) := (blk_cell hz3 0).trans rfl
    have hy1 : w2.cell? ⟨w.heap.size + 1, 1, none⟩ = some (.int .i64 0) := (blk_cell hz3 1).trans rfl
    have hy2 : w2.cell? ⟨w.heap.size + 1, 2, none⟩ = some (.slice none 0 0) := (blk_cell hz3 2).trans rfl
    have h2 := blk_set (blk_set (blk_set hz2 0 (.int .i64 (-1))) 1 (.int .i64 (-1))) 2 (.slice none 0 0)
    have h3 := blk_far (blk_far (blk_far hz3 (p := ⟨w.heap.size, 0, none⟩) (by simp) (.int .i64 (-1))) (p := ⟨w.heap.size, 1, none⟩) (by simp) (.int .i64 (-1))) (p := ⟨w.heap.size, 2, none⟩) (by simp) (.slice none 0 0)
    have H2 := Lib.hid (blk_far (blk_far (blk_far h2 (p := ⟨w.heap.size + 1, 0, none⟩) (by simp) (.int .i64 (-1))) (p := ⟨w.heap.size + 1, 1, none⟩) (by simp) (.int .i64 (-1))) (p := ⟨w.heap.size + 1, 2, none⟩) (by simp) (.slice none 0 0))
    have H3 := Lib.hid (blk_set (blk_set (blk_set h3 0 (.int .i64 (-1))) 1 (.int .i64 (-1))) 2 (.slice none 0 0))
    have hbb : Below w.heap.size w ((((((w2.setCell ⟨w.heap.size, 0, none⟩ (.int .i64 (-1))).setCell ⟨w.heap.size, 1, none⟩ (.int .i64 (-1))).setCell ⟨w.heap.size, 2, none⟩ (.slice none 0 0)).setCell ⟨w.heap.size + 1, 0, none⟩ (.int .i64 (-1))).setCell ⟨w.heap.size + 1, 1, none⟩ (.int .i64 (-1))).setCell ⟨w.heap.size + 1, 2, none⟩ (.slice none 0 0)) := ((((((HB0.out.trans (hb.mono HB0.out.size)).setCell (Nat.le_refl _) _).setCell (Nat.le_refl _) _).setCell (Nat.le_refl _) _).setCell (by simp) _).setCell (by simp) _).setCell (by simp) _
    have HB := Lib.hid hbb
    clear hbb
    clear hfz hgz hz2 hz3 h2 h3 hb HB0 HZ2 HZ3
    go_wp2
    refine bodyPost_ret (results_two rfl _ _ w.heap.size (w.heap.size + 1) 55 58 #[.int .i64 (-1), .int .i64 (-1), .slice none 0 0] #[.int .i64 (-1), .int .i64 (-1), .slice none 0 0] _ _ rfl H2.out Tryd.underlying55 rfl (by kernel_rfl) rfl H3.out Tryd.underlying58 rfl (by kernel_rfl)) rfl ?_
    exact ⟨rfl, HB.out⟩
end Go.Proofs.YtmdjmbdeeodehaaDoor.G
end
section
set_option linter.unusedVariables false
set_option linter.unusedSimpArgs false
namespace Go.Proofs.YtmdjmbdeeodehaaDoor.G
open Go Go.Proofs Go.Proofs.YtmdjmbdeeodehaaDoor Go.RowKit Go.Proofs.YtmdjmbdeeodehaaDoorW.PrintWords Go.Proofs.YtmdjmbdeeodehaaDoorW.PrintLast Go.Proofs.YtmdjmbdeeodehaaDoorW.PrintMore Go.Proofs.YtmdjmbdeeodehaaDoor.Pure
abbrev ex0 : List ByteArray := [⟨#[83]⟩]
abbrev ex1 : List ByteArray := [⟨#[97]⟩]
abbrev ex3 : List GRule := [⟨0, [-1, 0]⟩, ⟨0, []⟩]
abbrev exK : List TTree := [⟨-1, -1, []⟩, ⟨1, 0, []⟩]
abbrev exT : TTree := ⟨0, 0, exK⟩
abbrev exS : ByteArray := ⟨#[40, 83, 32, 34, 97, 34, 32, 40, 83, 41, 41]⟩
theorem ex_ok : gramOk ex0 ex1 0 ex3 = true := by kernel_rfl
theorem ex_check : treeC ex0 ex1 0 ex3 exT = 0 := by kernel_rfl
theorem ex_root : rootC ex0 ex1 0 ex3 exT = 0 := by kernel_rfl
theorem ex_tx : txOk ex0 ex1 0 ex3 exT = true := by kernel_rfl
theorem ex_text : (⟨(txT ex0 ex1 0 ex3 exT).toArray⟩ : ByteArray) = exS := by kernel_rfl
theorem ex_yield : (yieldT exT).length = 1 := by kernel_rfl
theorem ex_len : (txT ex0 ex1 0 ex3 exT).length = 11 := by kernel_rfl
theorem ex2_law01 : wickerlaw01_Awake.f 30 = some true := by kernel_rfl
theorem ex2_check : gram_Grammar_Check.f ex0 ex1 0 ex3 = some 0 := by kernel_rfl
theorem ex2_size : gram_Grammar_Size.f 30 ex0 ex1 0 ex3 = some 4 := by kernel_rfl
theorem ex2_text : gram_Grammar_Text.f ex0 ex1 0 ex3 (-1) = some ⟨#[34, 97, 34]⟩ := by kernel_rfl
theorem ex2_text0 : gram_Grammar_Text.f ex0 ex1 0 ex3 0 = some ⟨#[60, 83, 62]⟩ := by kernel_rfl
structure InG2 (w : World) (g : Nat) (A0 : Option Addr) (c0 : Nat) (A1 : Option Addr) (c1 : Nat) (A3 : Option Addr) (c3 : Nat) (W : World) : Prop where
  bel : Below w.heap.size w W
  gb : W.heap[g]? = some (.cells #[.slice A0 1 c0, .slice A1 1 c1, .int .i64 0, .slice A3 2 c3] 25 (0, 0))
  r0 : Kd.C Kd.string W A0 1 ex0
  r1 : Kd.C Kd.string W A1 1 ex1
  r3 : Kd.C k32 W A3 2 ex3
theorem InG2.step {w : World} {g : Nat} {A0 : Option Addr} {c0 : Nat} {A1 : Option Addr} {c1 : Nat} {A3 : Option Addr} {c3 : Nat} {W W' : World} (h : InG2 w g A0 c0 A1 c1 A3 c3 W) (hb : Below W.heap.size W W') : InG2 w g A0 c0 A1 c1 A3 c3 W' :=
  ⟨h.bel.trans (hb.mono h.bel.size), blk_below h.gb hb, Kd.C_below h.r0 hb, Kd.C_below h.r1 hb, Kd.C_below h.r3 hb⟩
set_option maxHeartbeats 8000000 in
set_option maxRecDepth 100000 in
theorem awake2_calls (w : World) (hG : Laid w) : Calls Tryd.prog 86 #[] w fun e w' => e = .returned (.bool true) ∧ Below w.heap.size w w' := by
  have hu := Tryd.underlying25
  have HG := Lib.hid hG
  clear hG
  go_enter Tryd.func86, Tryd.ntmps86
  go_wp2_with fail
  refine (wickerlaw02_Example.calls ex0 ex1 0 ex3 _ rfl).mono ?_
  rintro e w1 ⟨v0, v1, v3, rfl, h0, h1, h3, hb1⟩
  obtain ⟨A0, c0, rfl, l0, r0⟩ := Kd.R_reads h0
  obtain ⟨A1, c1, rfl, l1, r1⟩ := Kd.R_reads h1
  obtain ⟨A3, c3, rfl, l3, r3⟩ := Kd.N_reads h3
  replace l0 : 1 ≤ c0 := l0
  replace l1 : 1 ≤ c1 := l1
  replace l3 : 2 ≤ c3 := l3
  replace r0 : Kd.C Kd.string w1 A0 1 ex0 := r0
  replace r1 : Kd.C Kd.string w1 A1 1 ex1 := r1
  replace r3 : Kd.C k32 w1 A3 2 ex3 := r3
  simp only [show List.length ex0 = 1 from rfl, show List.length ex1 = 1 from rfl, show List.length ex3 = 2 from rfl]
  have hbg : Below w1.heap.size w1 (w1.alloc (.cells #[.slice A0 1 c0, .slice A1 1 c1, .int .i64 0, .slice A3 2 c3] 25)) := (Below.refl _ _).alloc (Nat.le_refl _) _
  have HI := Lib.hid (InG2.mk (hb1.trans (hbg.mono hb1.size)) (blk_new w1 (.cells #[.slice A0 1 c0, .slice A1 1 c1, .int .i64 0, .slice A3 2 c3] 25)) (Kd.C_below r0 hbg) (Kd.C_below r1 hbg) (Kd.C_below r3 hbg))
  clear h0 h1 h3 r0 r1 r3 hb1 hbg
  go_wp2_with fail
  generalize hg : w1.heap.size = g at *
  generalize hw2 : w1.alloc (.cells #[.slice A0 1 c0, .slice A1 1 c1, .int .i64 0, .slice A3 2 c3] 25) = w2 at *
  clear hg hw2
  refine (wickerlaw01_Awake.calls 30 true _ (Laid.below HG.out HI.out.bel) ex2_law01).mono ?_
  rintro e w3 ⟨rfl, hb⟩
  replace HI := Lib.hid (HI.out.step hb)
  (try clear z0 z1 z2 z3)
  clear hb
  have z0 : w3.cell? ⟨g, 0, none⟩ = some (.slice A0 1 c0) := (blk_cell HI.out.gb 0).trans rfl
  have z1 : w3.cell? ⟨g, 1, none⟩ = some (.slice A1 1 c1) := (blk_cell HI.out.gb 1).trans rfl
  have z2 : w3.cell? ⟨g, 2, none⟩ = some (.int .i64 0) := (blk_cell HI.out.gb 2).trans rfl
  have z3 : w3.cell? ⟨g, 3, none⟩ = some (.slice A3 2 c3) := (blk_cell HI.out.gb 3).trans rfl
  go_wp2_with fail
  refine (gram_Grammar_Check.calls A0 c0 ex0 A1 c1 ex1 0 A3 c3 ex3 0 _ (Laid.below HG.out HI.out.bel) HI.out.r0 l0 HI.out.r1 l1 HI.out.r3 l3 ex2_check).mono ?_
  rintro e w4 ⟨rfl, hb⟩
  replace HI := Lib.hid (HI.out.step hb)
  (try clear z0 z1 z2 z3)
  clear hb
  have z0 : w4.cell? ⟨g, 0, none⟩ = some (.slice A0 1 c0) := (blk_cell HI.out.gb 0).trans rfl
  have z1 : w4.cell? ⟨g, 1, none⟩ = some (.slice A1 1 c1) := (blk_cell HI.out.gb 1).trans rfl
  have z2 : w4.cell? ⟨g, 2, none⟩ = some (.int .i64 0) := (blk_cell HI.out.gb 2).trans rfl
  have z3 : w4.cell? ⟨g, 3, none⟩ = some (.slice A3 2 c3) := (blk_cell HI.out.gb 3).trans rfl
  go_wp2_with fail
  refine (gram_Grammar_Size.calls 30 A0 c0 ex0 A1 c1 ex1 0 A3 c3 ex3 4 _ HI.out.r0 l0 HI.out.r1 l1 HI.out.r3 l3 ex2_size).mono ?_
  rintro e w5 ⟨rfl, hb⟩
  replace HI := Lib.hid (HI.out.step hb)
  (try clear z0 z1 z2 z3)
  clear hb
  have z0 : w5.cell? ⟨g, 0, none⟩ = some (.slice A0 1 c0) := (blk_cell HI.out.gb 0).trans rfl
  have z1 : w5.cell? ⟨g, 1, none⟩ = some (.slice A1 1 c1) := (blk_cell HI.out.gb 1).trans rfl
  have z2 : w5.cell? ⟨g, 2, none⟩ = some (.int .i64 0) := (blk_cell HI.out.gb 2).trans rfl
  have z3 : w5.cell? ⟨g, 3, none⟩ = some (.slice A3 2 c3) := (blk_cell HI.out.gb 3).trans rfl
  go_wp2_with fail
  refine (gram_Grammar_Text.calls A0 c0 ex0 A1 c1 ex1 0 A3 c3 ex3 (-1) _ _ HI.out.r0 l0 HI.out.r1 l1 HI.out.r3 l3 ex2_text).mono ?_
  rintro e w6 ⟨rfl, hb⟩
  replace HI := Lib.hid (HI.out.step hb)
  (try clear z0 z1 z2 z3)
  clear hb
  have z0 : w6.cell? ⟨g, 0, none⟩ = some (.slice A0 1 c0) := (blk_cell HI.out.gb 0).trans rfl
  have z1 : w6.cell? ⟨g, 1, none⟩ = some (.slice A1 1 c1) := (blk_cell HI.out.gb 1).trans rfl
  have z2 : w6.cell? ⟨g, 2, none⟩ = some (.int .i64 0) := (blk_cell HI.out.gb 2).trans rfl
  have z3 : w6.cell? ⟨g, 3, none⟩ = some (.slice A3 2 c3) := (blk_cell HI.out.gb 3).trans rfl
  go_wp2_with fail
  refine (gram_Grammar_Text.calls A0 c0 ex0 A1 c1 ex1 0 A3 c3 ex3 0 _ _ HI.out.r0 l0 HI.out.r1 l1 HI.out.r3 l3 ex2_text0).mono ?_
  rintro e w7 ⟨rfl, hb⟩
  have HB := Lib.hid (HI.out.step hb).bel
  clear hb HI z0 z1 z2 z3
  go_wp2
  go_ret
  exact ⟨rfl, HB.out⟩
structure InA (w : World) (g tb : Nat) (A0 : Option Addr) (c0 : Nat) (A1 : Option Addr) (c1 : Nat) (A3 : Option Addr) (c3 : Nat) (T : Option Addr) (tc : Nat) (W : World) : Prop where
  bel : Below w.heap.size w W
  gb : W.heap[g]? = some (.cells #[.slice A0 1 c0, .slice A1 1 c1, .int .i64 0, .slice A3 2 c3] 25 (0, 0))
  r0 : Kd.C Kd.string W A0 1 ex0
  r1 : Kd.C Kd.string W A1 1 ex1
  r3 : Kd.C k32 W A3 2 ex3
  tr : Kd.C k55 W T 2 exK
  tb_ : W.heap[tb]? = some (.cells #[.int .i64 0, .int .i64 0, .slice T 2 tc] 55 (0, 0))
theorem InA.step {w : World} {g tb : Nat} {A0 : Option Addr} {c0 : Nat} {A1 : Option Addr} {c1 : Nat} {A3 : Option Addr} {c3 : Nat} {T : Option Addr} {tc : Nat} {W W' : World} (h : InA w g tb A0 c0 A1 c1 A3 c3 T tc W) (hb : Below W.heap.size W W') : InA w g tb A0 c0 A1 c1 A3 c3 T tc W' :=
  ⟨h.bel.trans (hb.mono h.bel.size), blk_below h.gb hb, Kd.C_below h.r0 hb, Kd.C_below h.r1 hb, Kd.C_below h.r3 hb, Kd.C_below h.tr hb, blk_below h.tb_ hb⟩
set_option maxHeartbeats 8000000 in
set_option maxRecDepth 100000 in
theorem awake3_calls (w : World) (hG : Laid w) : Calls Tryd.prog 28 #[] w fun e w' => e = .returned (.bool true) ∧ Below w.heap.size w w' := by
  have hu := Tryd.underlying25
  have hu2 := Tryd.underlying55
  have HG := Lib.hid hG
  clear hG
  go_enter Tryd.func28, Tryd.ntmps28
  go_wp2_with fail
  refine (wickerlaw02_Example.calls ex0 ex1 0 ex3 _ rfl).mono ?_
  rintro e w1 ⟨v0, v1, v3, rfl, h0, h1, h3, hb1⟩
  obtain ⟨A0, c0, rfl, l0, r0⟩ := Kd.R_reads h0
  obtain ⟨A1, c1, rfl, l1, r1⟩ := Kd.R_reads h1
  obtain ⟨A3, c3, rfl, l3, r3⟩ := Kd.N_reads h3
  replace l0 : 1 ≤ c0 := l0
  replace l1 : 1 ≤ c1 := l1
  replace l3 : 2 ≤ c3 := l3
  replace r0 : Kd.C Kd.string w1 A0 1 ex0 := r0
  replace r1 : Kd.C Kd.string w1 A1 1 ex1 := r1
  replace r3 : Kd.C k32 w1 A3 2 ex3 := r3
  simp only [show List.length ex0 = 1 from rfl, show List.length ex1 = 1 from rfl, show List.length ex3 = 2 from rfl]
  clear h0 h1 h3
  have hbg : Below w1.heap.size w1 (w1.alloc (.cells #[.slice A0 1 c0, .slice A1 1 c1, .int .i64 0, .slice A3 2 c3] 25)) := (Below.refl _ _).alloc (Nat.le_refl _) _
  have HR0 := Lib.hid r0
  have HR1 := Lib.hid r1
  have HR3 := Lib.hid r3
  have HB1 := Lib.hid hb1
  have HBG := Lib.hid hbg
  have HL := Lib.hid (And.intro l0 (And.intro l1 l3))
  have HGB := Lib.hid (blk_new w1 (.cells #[.slice A0 1 c0, .slice A1 1 c1, .int .i64 0, .slice A3 2 c3] 25))
  clear r0 r1 r3 hb1 hbg l0 l1 l3
  go_wp2_with fail
  refine (leaf_calls (-1) _).mono ?_
  rintro e w2 ⟨rfl, hb2⟩
  have HB2 := Lib.hid hb2
  clear hb2
  go_wp2_with fail
  refine (node_calls 1 none 0 [] (by decide) (Nat.le_refl _) _ (AppC.C_empty _ _ _)).mono ?_
  rintro e w3 ⟨N1, d1, rfl, hd1, hN1, hb3⟩
  have HN1 := Lib.hid hN1
  have HB3 := Lib.hid hb3
  have HD1 := Lib.hid hd1
  clear hN1 hb3 hd1
  have HRW : Hid (Kd.C k55 (w3.alloc (.cells #[.int .i64 (-1), .int .i64 (-1), .slice none 0 0, .int .i64 1, .int .i64 0, .slice N1 0 d1] 55)) (some ⟨w3.heap.size, 0, none⟩) 2 exK) := Lib.hid (AppC.lit_C k55 w3 55 exK [.int .i64 (-1), .int .i64 (-1), .slice none 0 0, .int .i64 1, .int .i64 0, .slice N1 0 d1]
    (Reps.c3 (k55_mk w3 ⟨-1, -1, []⟩ (A2 := none) (c2 := 0) (Nat.le_refl _) (AppC.C_empty _ _ _)) (Reps.c3 (k55_mk w3 ⟨1, 0, []⟩ (A2 := N1) (c2 := d1) HD1.out HN1.out) (Reps.none _ _))) (by decide))
  clear HN1 HD1
  go_wp2_with fail
  refine (node_calls 0 (some ⟨w3.heap.size, 0, none⟩) 2 exK (by decide) (Nat.le_refl _) _ HRW.out).mono ?_
  rintro e w4 ⟨T, tc, rfl, htc, hT, hb4⟩
  simp only [show List.length exK = 2 from rfl]
  replace htc : 2 ≤ tc := htc
  have hbs : Below (w1.alloc (.cells #[.slice A0 1 c0, .slice A1 1 c1, .int .i64 0, .slice A3 2 c3] 25)).heap.size (w1.alloc (.cells #[.slice A0 1 c0, .slice A1 1 c1, .int .i64 0, .slice A3 2 c3] 25)) w4 := by
    have h2 := HB2.out
    have h3 := h2.trans (HB3.out.mono h2.size)
    have h4 := h3.alloc h3.size (.cells #[.int .i64 (-1), .int .i64 (-1), .slice none 0 0, .int .i64 1, .int .i64 0, .slice N1 0 d1] 55)
    exact h4.trans (hb4.mono h4.size)
  have hb5 : Below w4.heap.size w4 (w4.alloc (.cells #[.int .i64 0, .int .i64 0, .slice T 2 tc] 55)) := (Below.refl _ _).alloc (Nat.le_refl _) _
  have hba := hbs.trans (hb5.mono hbs.size)
  have hbb := HBG.out.trans (hba.mono HBG.out.size)
  have HI := Lib.hid (InA.mk (w := w) (g := w1.heap.size) (tb := w4.heap.size) (tc := tc) (HB1.out.trans (hbb.mono HB1.out.size)) (blk_below HGB.out hba) (Kd.C_below HR0.out hbb) (Kd.C_below HR1.out hbb) (Kd.C_below HR3.out hbb) (Kd.C_below hT hb5) (blk_new w4 _))
  obtain ⟨l0, l1, l3⟩ := HL.out
  clear hbs hb5 hba hbb hT hb4 HRW HB2 HB3 HB1 HBG HGB HR0 HR1 HR3 HL
  go_wp2_with fail
  generalize hg : w1.heap.size = g at *
  generalize ht : w4.heap.size = tb at *
  generalize hw5 : w4.alloc (.cells #[.int .i64 0, .int .i64 0, .slice T 2 tc] 55) = w5 at *
  clear hg ht hw5
  refine (awake2_calls _ (Laid.below HG.out HI.out.bel)).mono ?_
  rintro e w6 ⟨rfl, hb6⟩
  have hI6 := HI.out.step hb6
  have q0 : w6.cell? ⟨g, 0, none⟩ = some (.slice A0 1 c0) := (blk_cell hI6.gb 0).trans rfl
  have q1 : w6.cell? ⟨g, 1, none⟩ = some (.slice A1 1 c1) := (blk_cell hI6.gb 1).trans rfl
  have q2 : w6.cell? ⟨g, 2, none⟩ = some (.int .i64 0) := (blk_cell hI6.gb 2).trans rfl
  have q3 : w6.cell? ⟨g, 3, none⟩ = some (.slice A3 2 c3) := (blk_cell hI6.gb 3).trans rfl
  have x0 : w6.cell? ⟨tb, 0, none⟩ = some (.int .i64 0) := (blk_cell hI6.tb_ 0).trans rfl
  have x1 : w6.cell? ⟨tb, 1, none⟩ = some (.int .i64 0) := (blk_cell hI6.tb_ 1).trans rfl
  have x2 : w6.cell? ⟨tb, 2, none⟩ = some (.slice T 2 tc) := (blk_cell hI6.tb_ 2).trans rfl
  have HI6 := Lib.hid hI6
  clear hI6 hb6 HI
  go_wp2_with fail
  refine (treeRoot_calls A0 c0 ex0 A1 c1 ex1 0 A3 c3 ex3 ex_ok l0 l1 l3 exT T tc htc (by decide) (by decide) _ (Laid.below HG.out HI6.out.bel) HI6.out.r0 HI6.out.r1 HI6.out.r3 HI6.out.tr).mono ?_
  rintro e w7 ⟨rfl, hb7⟩
  rw [ex_root]
  have hI7 := HI6.out.step hb7
  clear q0 q1 q2 q3 x0 x1 x2
  have q0 : w7.cell? ⟨g, 0, none⟩ = some (.slice A0 1 c0) := (blk_cell hI7.gb 0).trans rfl
  have q1 : w7.cell? ⟨g, 1, none⟩ = some (.slice A1 1 c1) := (blk_cell hI7.gb 1).trans rfl
  have q2 : w7.cell? ⟨g, 2, none⟩ = some (.int .i64 0) := (blk_cell hI7.gb 2).trans rfl
  have q3 : w7.cell? ⟨g, 3, none⟩ = some (.slice A3 2 c3) := (blk_cell hI7.gb 3).trans rfl
  have x0 : w7.cell? ⟨tb, 0, none⟩ = some (.int .i64 0) := (blk_cell hI7.tb_ 0).trans rfl
  have x1 : w7.cell? ⟨tb, 1, none⟩ = some (.int .i64 0) := (blk_cell hI7.tb_ 1).trans rfl
  have x2 : w7.cell? ⟨tb, 2, none⟩ = some (.slice T 2 tc) := (blk_cell hI7.tb_ 2).trans rfl
  have HI7 := Lib.hid hI7
  clear hI7 hb7 HI6
  go_wp2_with fail
  refine (text_calls A0 c0 ex0 A1 c1 ex1 0 A3 c3 ex3 ex_ok l0 l1 l3 exT T tc htc (by decide) (by decide) (fun _ => ⟨ex_tx, by rw [ex_len]; decide⟩) _ (Laid.below HG.out HI7.out.bel) HI7.out.r0 HI7.out.r1 HI7.out.r3 HI7.out.tr).mono ?_
  rintro e w8 ⟨rfl, hb8⟩
  rw [if_pos ex_check, ex_text]
  have hI8 := HI7.out.step hb8
  clear q0 q1 q2 q3 x0 x1 x2
  have x0 : w8.cell? ⟨tb, 0, none⟩ = some (.int .i64 0) := (blk_cell hI8.tb_ 0).trans rfl
  have x1 : w8.cell? ⟨tb, 1, none⟩ = some (.int .i64 0) := (blk_cell hI8.tb_ 1).trans rfl
  have x2 : w8.cell? ⟨tb, 2, none⟩ = some (.slice T 2 tc) := (blk_cell hI8.tb_ 2).trans rfl
  have HI8 := Lib.hid hI8
  clear hI8 hb8 HI7
  go_wp2_with fail
  refine (yield_calls exT (by decide) T tc htc _ HI8.out.tr).mono ?_
  rintro e w9 ⟨v, rfl, hv, hb9⟩
  obtain ⟨Y, yc, rfl⟩ := Kd.R_slice hv
  rw [ex_yield]
  have HB9 := Lib.hid (HI8.out.step hb9).bel
  clear x0 x1 x2 hv hb9 HI8
  go_wp2
  go_ret
  exact ⟨rfl, HB9.out⟩
end Go.Proofs.YtmdjmbdeeodehaaDoor.G
end
section
set_option linter.unusedVariables false
set_option linter.unusedSimpArgs false
namespace Go.Proofs.YtmdjmbdeeodehaaDoor.G
open Go Go.Proofs Go.Proofs.YtmdjmbdeeodehaaDoor Go.RowKit Go.Proofs.YtmdjmbdeeodehaaDoorW.PrintWords Go.Proofs.YtmdjmbdeeodehaaDoorW.PrintLast Go.Proofs.YtmdjmbdeeodehaaDoorW.PrintMore Go.Proofs.YtmdjmbdeeodehaaDoor.Pure
theorem of_calls3 (A0 : Option Addr) (c0 : Nat) (l0 : List ByteArray) (A1 : Option Addr) (c1 : Nat) (l1 : List ByteArray) (a2 : Int) (A3 : Option Addr) (c3 : Nat) (l3 : List GRule) (hn : l3.length ≤ 1000000) (hok : l3.all ruleOk = true) (w : World) (hr3 : Kd.C k32 w A3 l3.length l3) :
    Calls Tryd.prog 30 #[.agg #[.slice A0 l0.length c0, .slice A1 l1.length c1, .int .i64 a2, .slice A3 l3.length c3]] w fun e w' => ∃ Ao co, e = .returned (.agg #[.slice A0 l0.length c0, .slice A1 l1.length c1, .int .i64 a2, .slice Ao l3.length co]) ∧ Kd.C k87 w' Ao l3.length (l3.map ofR) ∧ l3.length ≤ co ∧ Below w.heap.size w w' := by
  refine (of_calls A0 c0 l0 A1 c1 l1 a2 A3 c3 l3 hn hok w hr3).mono ?_
  rintro e w' ⟨v3, rfl, hrow, hb⟩
  obtain ⟨Ao, co, rfl, hco, hC⟩ := Kd.R_reads hrow
  rw [List.length_map] at hco hC ⊢
  exact ⟨Ao, co, rfl, hC, hco, hb⟩
theorem cntTs_app : ∀ a b : List TTree, cntTs (a ++ b) = cntTs a + cntTs b
  | [], b => by simp [cntTs]
  | x :: a, b => by simp only [List.cons_append, cntTs, cntTs_app a b]; omega
theorem bAll_cnt : ∀ (l : List SPart) (st : List TTree), cntTs (bAll l st) = cntTs st + l.length
  | [], st => by simp [bAll]
  | p :: l, st => by
    rw [bAll, bAll_cnt l, bStep, cntTs_app]
    have h := cntTs_app (st.take (st.length - bkN st.length p)) (st.drop (st.length - bkN st.length p))
    rw [List.take_append_drop] at h
    simp only [cntTs, cntT, List.length_cons]
    omega
theorem bAll_sym : ∀ (l : List SPart) (st : List TTree), (∀ p ∈ l, symOk p.f1 = true) → (∀ t ∈ st, symOk t.f1 = true) → ∀ t ∈ bAll l st, symOk t.f1 = true
  | [], st, _, h, t, ht => h t ht
  | p :: l, st, hp, h, t, ht => by
    refine bAll_sym l (bStep st p) (fun q hq => hp q (List.mem_cons_of_mem _ hq)) (fun u hu => ?_) t ht
    rcases List.mem_append.1 hu with h1 | h1
    · exact h u (List.mem_of_mem_take h1)
    · rw [List.mem_singleton] at h1
      rw [h1]
      exact hp p List.mem_cons_self
set_option maxHeartbeats 2000000 in
theorem build_any (Pp : Option Addr) (pc : Nat) (l : List SPart) (hl : l.length ≤ 1000) (hs : ∀ p ∈ l, symOk p.f1 = true) (w : World) (hr : Kd.C k157 w Pp l.length l) :
    Calls Tryd.prog 29 #[.slice Pp l.length pc] w fun e w' => ∃ (t : TTree) (T : Option Addr) (tc : Nat) (R : Option Addr) (rc : Nat), cntT t ≤ 1000 ∧ symOk t.f1 = true ∧ e = .returned (.tuple #[.agg #[.int .i64 t.f0, .int .i64 t.f1, .slice T t.f2.length tc], .agg #[.int .i64 (toR t).f0, .int .i64 (toR t).f1, .slice R (toR t).f2.length rc]]) ∧ (Kd.C k55 w' T t.f2.length t.f2 ∧ t.f2.length ≤ tc) ∧ (Kd.C k58 w' R (toR t).f2.length (toR t).f2 ∧ (toR t).f2.length ≤ rc) ∧ Below w.heap.size w w' := by
  by_cases hne : bAll l [] = []
  · obtain ⟨rfl, -⟩ := bAll_nil _ _ hne
    refine (build_none Pp pc w).mono ?_
    rintro e w' ⟨rfl, hb⟩
    exact ⟨⟨-1, -1, []⟩, none, 0, none, 0, by decide, by decide, by simp [toR, toRs], ⟨AppC.C_empty _ _ _, Nat.le_refl _⟩, ⟨AppC.C_empty _ _ _, Nat.le_refl _⟩, hb⟩
  · refine (build_calls Pp pc l hl w hr _ rfl hne).mono ?_
    rintro e w' ⟨t, T, tc, R, rc, ht, rfl, h1, h2, hb⟩
    have hm := List.mem_of_getLast? ht
    have hc := cntTs_mem hm
    rw [bAll_cnt] at hc
    exact ⟨t, T, tc, R, rc, by simp only [cntTs] at hc; omega, bAll_sym l [] hs (fun _ h => by cases h) t hm, rfl, h1, h2, hb⟩
theorem rtreeCheck_calls3 (A0 : Option Addr) (c0 : Nat) (l0 : List ByteArray) (A1 : Option Addr) (c1 : Nat) (l1 : List ByteArray) (a2 : Int) (Ao : Option Addr) (co : Nat) (l3 : List GRule) (hok : gramOk l0 l1 a2 l3 = true) (h0 : l0.length ≤ c0) (h1 : l1.length ≤ c1) (h3 : l3.length ≤ co) (t : TTree) (T : Option Addr) (tc : Nat) (htc : (toR t).f2.length ≤ tc) (hcnt : cntT t ≤ 1000000)
    (w : World) (hr0 : Kd.C Kd.string w A0 l0.length l0) (hr1 : Kd.C Kd.string w A1 l1.length l1) (hm : Kd.C k87 w Ao l3.length (l3.map ofR)) (ht : Kd.C k58 w T (toR t).f2.length (toR t).f2) :
    Calls Tryd.prog 32 #[.agg #[.slice A0 l0.length c0, .slice A1 l1.length c1, .int .i64 a2, .slice Ao l3.length co], .agg #[.int .i64 (toR t).f0, .int .i64 (toR t).f1, .slice T (toR t).f2.length tc]] w fun e w' => e = .returned (.int .i64 (treeC l0 l1 a2 l3 t)) ∧ Below w.heap.size w w' := by
  have h := rtreeCheck_calls A0 c0 l0 A1 c1 l1 a2 Ao co l3 hok h0 h1 (by rw [List.length_map]; exact h3) t (toR t) rfl T tc htc hcnt w hr0 hr1 (by rw [List.length_map]; exact hm) ht
  rwa [List.length_map] at h
structure InE (w : World) (A0 : Option Addr) (c0 : Nat) (l0 : List ByteArray) (A1 : Option Addr) (c1 : Nat) (l1 : List ByteArray) (a2 : Int) (A3 : Option Addr) (c3 : Nat) (l3 : List GRule) (Ao : Option Addr) (co : Nat) (tb rb hb_ : Nat) (t : TTree) (T : Option Addr) (tc : Nat) (R : Option Addr) (rc : Nat) (W : World) : Prop where
  bel : Below w.heap.size w W
  gb : W.heap[w.heap.size]? = some (.cells #[.slice A0 l0.length c0, .slice A1 l1.length c1, .int .i64 a2, .slice A3 l3.length c3] 25 (0, 0))
  tb' : W.heap[tb]? = some (.cells #[.int .i64 t.f0, .int .i64 t.f1, .slice T t.f2.length tc] 55 (0, 0))
  rb' : W.heap[rb]? = some (.cells #[.int .i64 (toR t).f0, .int .i64 (toR t).f1, .slice R (toR t).f2.length rc] 58 (0, 0))
  hb' : W.heap[hb_]? = some (.cells #[.slice A0 l0.length c0, .slice A1 l1.length c1, .int .i64 a2, .slice Ao l3.length co] 63 (0, 0))
  r0 : Kd.C Kd.string W A0 l0.length l0
  r1 : Kd.C Kd.string W A1 l1.length l1
  r3 : Kd.C k32 W A3 l3.length l3
  ro : Kd.C k87 W Ao l3.length (l3.map ofR)
  tr : Kd.C k55 W T t.f2.length t.f2
  rr : Kd.C k58 W R (toR t).f2.length (toR t).f2
section
variable {w : World} {A0 : Option Addr} {c0 : Nat} {l0 : List ByteArray} {A1 : Option Addr} {c1 : Nat} {l1 : List ByteArray} {a2 : Int} {A3 : Option Addr} {c3 : Nat} {l3 : List GRule} {Ao : Option Addr} {co : Nat} {tb rb hb_ : Nat} {t : TTree} {T : Option Addr} {tc : Nat} {R : Option Addr} {rc : Nat} {W W' : World}
theorem InE.step (h : InE w A0 c0 l0 A1 c1 l1 a2 A3 c3 l3 Ao co tb rb hb_ t T tc R rc W) (hb : Below W.heap.size W W') : InE w A0 c0 l0 A1 c1 l1 a2 A3 c3 l3 Ao co tb rb hb_ t T tc R rc W' := ⟨h.bel.trans (hb.mono h.bel.size), blk_below h.gb hb, blk_below h.tb' hb, blk_below h.rb' hb, blk_below h.hb' hb, Kd.C_below h.r0 hb, Kd.C_below h.r1 hb, Kd.C_below h.r3 hb, Kd.C_below h.ro hb, Kd.C_below h.tr hb, Kd.C_below h.rr hb⟩
theorem InE.drew (h : InE w A0 c0 l0 A1 c1 l1 a2 A3 c3 l3 Ao co tb rb hb_ t T tc R rc W) : InE w A0 c0 l0 A1 c1 l1 a2 A3 c3 l3 Ao co tb rb hb_ t T tc R rc W.drew := h.step (below_drew (Below.refl _ _))
theorem InE.g0 (h : InE w A0 c0 l0 A1 c1 l1 a2 A3 c3 l3 Ao co tb rb hb_ t T tc R rc W) : W.cell? ⟨w.heap.size, 0, none⟩ = some (.slice A0 l0.length c0) := (blk_cell h.gb 0).trans rfl
theorem InE.g1 (h : InE w A0 c0 l0 A1 c1 l1 a2 A3 c3 l3 Ao co tb rb hb_ t T tc R rc W) : W.cell? ⟨w.heap.size, 1, none⟩ = some (.slice A1 l1.length c1) := (blk_cell h.gb 1).trans rfl
theorem InE.g2 (h : InE w A0 c0 l0 A1 c1 l1 a2 A3 c3 l3 Ao co tb rb hb_ t T tc R rc W) : W.cell? ⟨w.heap.size, 2, none⟩ = some (.int .i64 a2) := (blk_cell h.gb 2).trans rfl
theorem InE.g3 (h : InE w A0 c0 l0 A1 c1 l1 a2 A3 c3 l3 Ao co tb rb hb_ t T tc R rc W) : W.cell? ⟨w.heap.size, 3, none⟩ = some (.slice A3 l3.length c3) := (blk_cell h.gb 3).trans rfl
theorem InE.t0 (h : InE w A0 c0 l0 A1 c1 l1 a2 A3 c3 l3 Ao co tb rb hb_ t T tc R rc W) : W.cell? ⟨tb, 0, none⟩ = some (.int .i64 t.f0) := (blk_cell h.tb' 0).trans rfl
theorem InE.t1 (h : InE w A0 c0 l0 A1 c1 l1 a2 A3 c3 l3 Ao co tb rb hb_ t T tc R rc W) : W.cell? ⟨tb, 1, none⟩ = some (.int .i64 t.f1) := (blk_cell h.tb' 1).trans rfl
theorem InE.t2 (h : InE w A0 c0 l0 A1 c1 l1 a2 A3 c3 l3 Ao co tb rb hb_ t T tc R rc W) : W.cell? ⟨tb, 2, none⟩ = some (.slice T t.f2.length tc) := (blk_cell h.tb' 2).trans rfl
theorem InE.s0 (h : InE w A0 c0 l0 A1 c1 l1 a2 A3 c3 l3 Ao co tb rb hb_ t T tc R rc W) : W.cell? ⟨rb, 0, none⟩ = some (.int .i64 (toR t).f0) := (blk_cell h.rb' 0).trans rfl
theorem InE.s1 (h : InE w A0 c0 l0 A1 c1 l1 a2 A3 c3 l3 Ao co tb rb hb_ t T tc R rc W) : W.cell? ⟨rb, 1, none⟩ = some (.int .i64 (toR t).f1) := (blk_cell h.rb' 1).trans rfl
theorem InE.s2 (h : InE w A0 c0 l0 A1 c1 l1 a2 A3 c3 l3 Ao co tb rb hb_ t T tc R rc W) : W.cell? ⟨rb, 2, none⟩ = some (.slice R (toR t).f2.length rc) := (blk_cell h.rb' 2).trans rfl
theorem InE.h0 (h : InE w A0 c0 l0 A1 c1 l1 a2 A3 c3 l3 Ao co tb rb hb_ t T tc R rc W) : W.cell? ⟨hb_, 0, none⟩ = some (.slice A0 l0.length c0) := (blk_cell h.hb' 0).trans rfl
theorem InE.h1 (h : InE w A0 c0 l0 A1 c1 l1 a2 A3 c3 l3 Ao co tb rb hb_ t T tc R rc W) : W.cell? ⟨hb_, 1, none⟩ = some (.slice A1 l1.length c1) := (blk_cell h.hb' 1).trans rfl
theorem InE.h2 (h : InE w A0 c0 l0 A1 c1 l1 a2 A3 c3 l3 Ao co tb rb hb_ t T tc R rc W) : W.cell? ⟨hb_, 2, none⟩ = some (.int .i64 a2) := (blk_cell h.hb' 2).trans rfl
theorem InE.h3 (h : InE w A0 c0 l0 A1 c1 l1 a2 A3 c3 l3 Ao co tb rb hb_ t T tc R rc W) : W.cell? ⟨hb_, 3, none⟩ = some (.slice Ao l3.length co) := (blk_cell h.hb' 3).trans rfl
end
end Go.Proofs.YtmdjmbdeeodehaaDoor.G
end
section
set_option linter.unusedVariables false
set_option linter.unusedSimpArgs false
namespace Go.Proofs.YtmdjmbdeeodehaaDoor.G
open Go Go.Proofs Go.Proofs.YtmdjmbdeeodehaaDoor Go.RowKit Go.Proofs.YtmdjmbdeeodehaaDoorW.PrintWords Go.Proofs.YtmdjmbdeeodehaaDoorW.PrintLast Go.Proofs.YtmdjmbdeeodehaaDoorW.PrintMore Go.Proofs.YtmdjmbdeeodehaaDoor.Pure
theorem treeC_ok {l0 l1 : List ByteArray} {a2 : Int} {l3 : List GRule} {t : TTree} (hok : gramOk l0 l1 a2 l3 = true) (hsy : symOk t.f1 = true) (h : treeC l0 l1 a2 l3 t = 0) : okT l3 t ∧ (∀ r ∈ l3, 0 ≤ r.f0 ∧ r.f0 < l0.length) ∧ ∀ r ∈ l3, ∀ s ∈ r.f1, symOk s = true := by
  have hc : checkC nmB mkB l0 l1 a2 l3 = 0 := by
    unfold treeC at h
    split at h
    · rename_i h1; exact absurd h h1
    · rename_i h1; simpa using h1
  have hz := check_zero2 hc
  refine ⟨?_, fun r hr => ⟨(hz.2.2.2.2.2.2.1 r hr).1, (hz.2.2.2.2.2.2.1 r hr).2.1⟩, fun r hr s hs => ?_⟩
  · by_cases h0 : t.f0 < 0
    · exact .inl ⟨h0, hsy⟩
    · exact .inr (treeC_at h h0)
  · have h1 : l3.all ruleOk = true := by simp only [gramOk, Bool.and_eq_true] at hok; exact hok.2
    have h2 := List.all_eq_true.1 h1 r hr
    simp only [ruleOk, Bool.and_eq_true] at h2
    exact List.all_eq_true.1 h2.2 s hs
set_option maxHeartbeats 4000000 in
set_option maxRecDepth 100000 in
theorem rText_calls (A0 : Option Addr) (c0 : Nat) (l0 : List ByteArray) (A1 : Option Addr) (c1 : Nat) (l1 : List ByteArray) (a2 : Int) (Ao : Option Addr) (co : Nat) (l3 : List GRule) (hok : gramOk l0 l1 a2 l3 = true) (hx0 : ∀ x ∈ l0, x.size ≤ 10000) (hx1 : ∀ x ∈ l1, x.size ≤ 10000) (h0 : l0.length ≤ c0) (h1 : l1.length ≤ c1) (h3 : l3.length ≤ co) (t : TTree) (T : Option Addr) (tc : Nat) (htc : (toR t).f2.length ≤ tc) (hcnt : cntT t ≤ 1000) (hsy : symOk t.f1 = true)
    (w : World) (hr0 : Kd.C Kd.string w A0 l0.length l0) (hr1 : Kd.C Kd.string w A1 l1.length l1) (hm : Kd.C k87 w Ao l3.length (l3.map ofR)) (ht : Kd.C k58 w T (toR t).f2.length (toR t).f2) :
    Calls Tryd.prog 61 #[.agg #[.slice A0 l0.length c0, .slice A1 l1.length c1, .int .i64 a2, .slice Ao l3.length co], .agg #[.int .i64 (toR t).f0, .int .i64 (toR t).f1, .slice T (toR t).f2.length tc]] w fun e w' => e = .returned (.string (if treeC l0 l1 a2 l3 t = 0 then ⟨(txT l0 l1 a2 l3 t).toArray⟩ else ByteArray.empty)) ∧ Below w.heap.size w w' := by
  have hu := Tryd.underlying63
  have hu2 := Tryd.underlying58
  have hb0 : Below w.heap.size w ((w.alloc (.cells #[.slice A0 l0.length c0, .slice A1 l1.length c1, .int .i64 a2, .slice Ao l3.length co] 63)).alloc (.cells #[.int .i64 (toR t).f0, .int .i64 (toR t).f1, .slice T (toR t).f2.length tc] 58)) := ((Below.refl _ w).alloc (Nat.le_refl _) _).alloc (by simp) _
  have hbg := blk_alloc (blk_new w (.cells #[.slice A0 l0.length c0, .slice A1 l1.length c1, .int .i64 a2, .slice Ao l3.length co] 63)) (.cells #[.int .i64 (toR t).f0, .int .i64 (toR t).f1, .slice T (toR t).f2.length tc] 58)
  have hbt := blk_new (w.alloc (.cells #[.slice A0 l0.length c0, .slice A1 l1.length c1, .int .i64 a2, .slice Ao l3.length co] 63)) (.cells #[.int .i64 (toR t).f0, .int .i64 (toR t).f1, .slice T (toR t).f2.length tc] 58)
  rw [show (w.alloc (.cells #[.slice A0 l0.length c0, .slice A1 l1.length c1, .int .i64 a2, .slice Ao l3.length co] 63)).heap.size = w.heap.size + 1 by simp] at hbt
  have g0 := Kd.C_below hr0 hb0
  have g1 := Kd.C_below hr1 hb0
  have g3 := Kd.C_below hm hb0
  have gt := Kd.C_below ht hb0
  generalize hW : (w.alloc (.cells #[.slice A0 l0.length c0, .slice A1 l1.length c1, .int .i64 a2, .slice Ao l3.length co] 63)).alloc (.cells #[.int .i64 (toR t).f0, .int .i64 (toR t).f1, .slice T (toR t).f2.length tc] 58) = W at hb0 hbg hbt g0 g1 g3 gt
  have y0 : W.cell? ⟨w.heap.size, 0, none⟩ = some (.slice A0 l0.length c0) := (blk_cell hbg 0).trans rfl
  have y1 : W.cell? ⟨w.heap.size, 1, none⟩ = some (.slice A1 l1.length c1) := (blk_cell hbg 1).trans rfl
  have y2 : W.cell? ⟨w.heap.size, 2, none⟩ = some (.int .i64 a2) := (blk_cell hbg 2).trans rfl
  have y3 : W.cell? ⟨w.heap.size, 3, none⟩ = some (.slice Ao l3.length co) := (blk_cell hbg 3).trans rfl
  have x0 : W.cell? ⟨w.heap.size + 1, 0, none⟩ = some (.int .i64 (toR t).f0) := (blk_cell hbt 0).trans rfl
  have x1 : W.cell? ⟨w.heap.size + 1, 1, none⟩ = some (.int .i64 (toR t).f1) := (blk_cell hbt 1).trans rfl
  have x2 : W.cell? ⟨w.heap.size + 1, 2, none⟩ = some (.slice T (toR t).f2.length tc) := (blk_cell hbt 2).trans rfl
  have HG0 := Lib.hid g0
  have HG1 := Lib.hid g1
  have HG3 := Lib.hid g3
  have HGT := Lib.hid gt
  have HB0 := Lib.hid hb0
  have HBG := Lib.hid hbg
  have HBT := Lib.hid hbt
  have HOK := Lib.hid hok
  have HSY := Lib.hid hsy
  have HX := Lib.hid (And.intro hx0 hx1)
  obtain ⟨cT, hcT⟩ : ∃ cT, treeC l0 l1 a2 l3 t = cT := ⟨_, rfl⟩
  have HCT := Lib.hid hcT
  rw [hcT]
  obtain ⟨tx, htx⟩ : ∃ tx : ByteArray, tx = (if cT = 0 then ⟨(txT l0 l1 a2 l3 t).toArray⟩ else ByteArray.empty) := ⟨_, rfl⟩
  have HTX := Lib.hid htx
  rw [← htx]
  clear htx
  have hlo := gram_bounds hok
  have HLN : Hid (l1.length ≤ 1000000 ∧ l3.length ≤ 1000000) := Lib.hid ⟨hlo.2.1, hlo.2.2.1⟩
  clear hb0 hbg hbt g0 g1 g3 gt hr0 hr1 hm ht hok hsy hcT hx0 hx1 hlo
  go_enter Tryd.func61, Tryd.ntmps61
  go_wp2_with fail
  (try simp only [hW])
  refine (rtreeCheck_calls3 A0 c0 l0 A1 c1 l1 a2 Ao co l3 HOK.out h0 h1 h3 t T tc htc (by omega) _ HG0.out HG1.out HG3.out HGT.out).mono ?_
  rintro e w2 ⟨rfl, hb⟩
  rw [HCT.out]
  clear y0 y1 y2 y3 x0 x1 x2 hW
  by_cases hc : cT = 0
  · subst hc
    have hbg := blk_below HBG.out hb
    have hbt := blk_below HBT.out hb
    have y0 : w2.cell? ⟨w.heap.size, 0, none⟩ = some (.slice A0 l0.length c0) := (blk_cell hbg 0).trans rfl
    have y1 : w2.cell? ⟨w.heap.size, 1, none⟩ = some (.slice A1 l1.length c1) := (blk_cell hbg 1).trans rfl
    have y2 : w2.cell? ⟨w.heap.size, 2, none⟩ = some (.int .i64 a2) := (blk_cell hbg 2).trans rfl
    have y3 : w2.cell? ⟨w.heap.size, 3, none⟩ = some (.slice Ao l3.length co) := (blk_cell hbg 3).trans rfl
    have x0 : w2.cell? ⟨w.heap.size + 1, 0, none⟩ = some (.int .i64 (toR t).f0) := (blk_cell hbt 0).trans rfl
    have x1 : w2.cell? ⟨w.heap.size + 1, 1, none⟩ = some (.int .i64 (toR t).f1) := (blk_cell hbt 1).trans rfl
    have x2 : w2.cell? ⟨w.heap.size + 1, 2, none⟩ = some (.slice T (toR t).f2.length tc) := (blk_cell hbt 2).trans rfl
    obtain ⟨hok2, hr, hs⟩ := treeC_ok HOK.out HSY.out HCT.out
    obtain ⟨K, hK⟩ := Pure.Ev.out (rtext_f (a2 := a2) HX.out.1 HX.out.2 hr hs HLN.out.1 HLN.out.2 _ t (Nat.le_refl _) hcnt hok2)
    have HK := Lib.hid (hK K (Nat.le_refl _))
    have G0 := Lib.hid (Kd.C_below HG0.out hb)
    have G1 := Lib.hid (Kd.C_below HG1.out hb)
    have G3 := Lib.hid (Kd.C_below HG3.out hb)
    have GT := Lib.hid (Kd.C_below HGT.out hb)
    have HB2 := Lib.hid (HB0.out.trans (hb.mono HB0.out.size))
    have HE : Hid (tx = ⟨(txT l0 l1 a2 l3 t).toArray⟩) := Lib.hid (by rw [HTX.out, if_pos rfl])
    clear HTX
    clear hbg hbt hok2 hr hs hK hb HG0 HG1 HG3 HGT HB0 HBG HBT
    go_wp2_with fail
    have hct := wickerref03_text.calls K A0 c0 l0 A1 c1 l1 a2 Ao co (l3.map ofR) (toR t).f0 (toR t).f1 T tc (toR t).f2 _ w2 G0.out h0 G1.out h1 (by rw [List.length_map]; exact G3.out) (by rw [List.length_map]; exact h3) GT.out htc HK.out
    rw [List.length_map] at hct
    refine hct.mono ?_
    rintro e w3 ⟨rfl, hb3⟩
    have HB3 := Lib.hid (HB2.out.trans (hb3.mono HB2.out.size))
    clear y0 y1 y2 y3 x0 x1 x2 hb3 hct
    go_wp2
    go_ret
    exact ⟨by rw [HE.out]; rfl, HB3.out⟩
  · have hcb : (cT != 0) = true := bne_iff_ne.2 hc
    have HB2 := Lib.hid (HB0.out.trans (hb.mono HB0.out.size))
    have HE : Hid (tx = ByteArray.empty) := Lib.hid (by rw [HTX.out, if_neg hc])
    clear HTX
    clear hb hc
    go_wp2
    go_ret
    exact ⟨by rw [HE.out]; rfl, HB2.out⟩
end Go.Proofs.YtmdjmbdeeodehaaDoor.G
end
section
set_option linter.unusedVariables false
set_option linter.unusedSimpArgs false
namespace Go.Proofs.YtmdjmbdeeodehaaDoor.G
open Go Go.Proofs Go.Proofs.YtmdjmbdeeodehaaDoor Go.RowKit Go.Proofs.YtmdjmbdeeodehaaDoorW.PrintWords Go.Proofs.YtmdjmbdeeodehaaDoorW.PrintLast Go.Proofs.YtmdjmbdeeodehaaDoorW.PrintMore Go.Proofs.YtmdjmbdeeodehaaDoor.Pure
structure InS (w : World) (A0 : Option Addr) (c0 : Nat) (l0 : List ByteArray) (A1 : Option Addr) (c1 : Nat) (l1 : List ByteArray) (a2 : Int) (A3 : Option Addr) (c3 : Nat) (l3 : List GRule) (tb rb ub qb : Nat) (t u : TTree) (T : Option Addr) (tc : Nat) (R : Option Addr) (rc : Nat) (U : Option Addr) (uc : Nat) (Q : Option Addr) (qc : Nat) (W : World) : Prop where
  bel : Below w.heap.size w W
  gb : W.heap[w.heap.size]? = some (.cells #[.slice A0 l0.length c0, .slice A1 l1.length c1, .int .i64 a2, .slice A3 l3.length c3] 25 (0, 0))
  tb' : W.heap[tb]? = some (.cells #[.int .i64 t.f0, .int .i64 t.f1, .slice T t.f2.length tc] 55 (0, 0))
  rb' : W.heap[rb]? = some (.cells #[.int .i64 (toR t).f0, .int .i64 (toR t).f1, .slice R (toR t).f2.length rc] 58 (0, 0))
  ub' : W.heap[ub]? = some (.cells #[.int .i64 u.f0, .int .i64 u.f1, .slice U u.f2.length uc] 55 (0, 0))
  qb' : W.heap[qb]? = some (.cells #[.int .i64 (toR u).f0, .int .i64 (toR u).f1, .slice Q (toR u).f2.length qc] 58 (0, 0))
  r0 : Kd.C Kd.string W A0 l0.length l0
  r1 : Kd.C Kd.string W A1 l1.length l1
  r3 : Kd.C k32 W A3 l3.length l3
  tr : Kd.C k55 W T t.f2.length t.f2
  rr : Kd.C k58 W R (toR t).f2.length (toR t).f2
  ur : Kd.C k55 W U u.f2.length u.f2
  qr : Kd.C k58 W Q (toR u).f2.length (toR u).f2
  htc : t.f2.length ≤ tc
  hrc : (toR t).f2.length ≤ rc
  huc : u.f2.length ≤ uc
  hqc : (toR u).f2.length ≤ qc
section
variable {w : World} {A0 : Option Addr} {c0 : Nat} {l0 : List ByteArray} {A1 : Option Addr} {c1 : Nat} {l1 : List ByteArray} {a2 : Int} {A3 : Option Addr} {c3 : Nat} {l3 : List GRule} {tb rb ub qb : Nat} {t u : TTree} {T : Option Addr} {tc : Nat} {R : Option Addr} {rc : Nat} {U : Option Addr} {uc : Nat} {Q : Option Addr} {qc : Nat} {W W' : World}
theorem InS.step (h : InS w A0 c0 l0 A1 c1 l1 a2 A3 c3 l3 tb rb ub qb t u T tc R rc U uc Q qc W) (hb : Below W.heap.size W W') : InS w A0 c0 l0 A1 c1 l1 a2 A3 c3 l3 tb rb ub qb t u T tc R rc U uc Q qc W' := ⟨h.bel.trans (hb.mono h.bel.size), blk_below h.gb hb, blk_below h.tb' hb, blk_below h.rb' hb, blk_below h.ub' hb, blk_below h.qb' hb, Kd.C_below h.r0 hb, Kd.C_below h.r1 hb, Kd.C_below h.r3 hb, Kd.C_below h.tr hb, Kd.C_below h.rr hb, Kd.C_below h.ur hb, Kd.C_below h.qr hb, h.htc, h.hrc, h.huc, h.hqc⟩
theorem InS.drew (h : InS w A0 c0 l0 A1 c1 l1 a2 A3 c3 l3 tb rb ub qb t u T tc R rc U uc Q qc W) : InS w A0 c0 l0 A1 c1 l1 a2 A3 c3 l3 tb rb ub qb t u T tc R rc U uc Q qc W.drew := h.step (below_drew (Below.refl _ _))
theorem InS.g0 (h : InS w A0 c0 l0 A1 c1 l1 a2 A3 c3 l3 tb rb ub qb t u T tc R rc U uc Q qc W) : W.cell? ⟨w.heap.size, 0, none⟩ = some (.slice A0 l0.length c0) := (blk_cell h.gb 0).trans rfl
theorem InS.g1 (h : InS w A0 c0 l0 A1 c1 l1 a2 A3 c3 l3 tb rb ub qb t u T tc R rc U uc Q qc W) : W.cell? ⟨w.heap.size, 1, none⟩ = some (.slice A1 l1.length c1) := (blk_cell h.gb 1).trans rfl
theorem InS.g2 (h : InS w A0 c0 l0 A1 c1 l1 a2 A3 c3 l3 tb rb ub qb t u T tc R rc U uc Q qc W) : W.cell? ⟨w.heap.size, 2, none⟩ = some (.int .i64 a2) := (blk_cell h.gb 2).trans rfl
theorem InS.g3 (h : InS w A0 c0 l0 A1 c1 l1 a2 A3 c3 l3 tb rb ub qb t u T tc R rc U uc Q qc W) : W.cell? ⟨w.heap.size, 3, none⟩ = some (.slice A3 l3.length c3) := (blk_cell h.gb 3).trans rfl
theorem InS.t0 (h : InS w A0 c0 l0 A1 c1 l1 a2 A3 c3 l3 tb rb ub qb t u T tc R rc U uc Q qc W) : W.cell? ⟨tb, 0, none⟩ = some (.int .i64 t.f0) := (blk_cell h.tb' 0).trans rfl
theorem InS.t1 (h : InS w A0 c0 l0 A1 c1 l1 a2 A3 c3 l3 tb rb ub qb t u T tc R rc U uc Q qc W) : W.cell? ⟨tb, 1, none⟩ = some (.int .i64 t.f1) := (blk_cell h.tb' 1).trans rfl
theorem InS.t2 (h : InS w A0 c0 l0 A1 c1 l1 a2 A3 c3 l3 tb rb ub qb t u T tc R rc U uc Q qc W) : W.cell? ⟨tb, 2, none⟩ = some (.slice T t.f2.length tc) := (blk_cell h.tb' 2).trans rfl
theorem InS.s0 (h : InS w A0 c0 l0 A1 c1 l1 a2 A3 c3 l3 tb rb ub qb t u T tc R rc U uc Q qc W) : W.cell? ⟨rb, 0, none⟩ = some (.int .i64 (toR t).f0) := (blk_cell h.rb' 0).trans rfl
theorem InS.s1 (h : InS w A0 c0 l0 A1 c1 l1 a2 A3 c3 l3 tb rb ub qb t u T tc R rc U uc Q qc W) : W.cell? ⟨rb, 1, none⟩ = some (.int .i64 (toR t).f1) := (blk_cell h.rb' 1).trans rfl
theorem InS.s2 (h : InS w A0 c0 l0 A1 c1 l1 a2 A3 c3 l3 tb rb ub qb t u T tc R rc U uc Q qc W) : W.cell? ⟨rb, 2, none⟩ = some (.slice R (toR t).f2.length rc) := (blk_cell h.rb' 2).trans rfl
theorem InS.u0 (h : InS w A0 c0 l0 A1 c1 l1 a2 A3 c3 l3 tb rb ub qb t u T tc R rc U uc Q qc W) : W.cell? ⟨ub, 0, none⟩ = some (.int .i64 u.f0) := (blk_cell h.ub' 0).trans rfl
theorem InS.u1 (h : InS w A0 c0 l0 A1 c1 l1 a2 A3 c3 l3 tb rb ub qb t u T tc R rc U uc Q qc W) : W.cell? ⟨ub, 1, none⟩ = some (.int .i64 u.f1) := (blk_cell h.ub' 1).trans rfl
theorem InS.u2 (h : InS w A0 c0 l0 A1 c1 l1 a2 A3 c3 l3 tb rb ub qb t u T tc R rc U uc Q qc W) : W.cell? ⟨ub, 2, none⟩ = some (.slice U u.f2.length uc) := (blk_cell h.ub' 2).trans rfl
theorem InS.q0 (h : InS w A0 c0 l0 A1 c1 l1 a2 A3 c3 l3 tb rb ub qb t u T tc R rc U uc Q qc W) : W.cell? ⟨qb, 0, none⟩ = some (.int .i64 (toR u).f0) := (blk_cell h.qb' 0).trans rfl
theorem InS.q1 (h : InS w A0 c0 l0 A1 c1 l1 a2 A3 c3 l3 tb rb ub qb t u T tc R rc U uc Q qc W) : W.cell? ⟨qb, 1, none⟩ = some (.int .i64 (toR u).f1) := (blk_cell h.qb' 1).trans rfl
theorem InS.q2 (h : InS w A0 c0 l0 A1 c1 l1 a2 A3 c3 l3 tb rb ub qb t u T tc R rc U uc Q qc W) : W.cell? ⟨qb, 2, none⟩ = some (.slice Q (toR u).f2.length qc) := (blk_cell h.qb' 2).trans rfl
end
set_option maxHeartbeats 32000000 in
set_option maxRecDepth 100000 in
theorem treeTells_calls (w : World) (hG : Laid w) (A0 : Option Addr) (c0 : Nat) (l0 : List ByteArray) (A1 : Option Addr) (c1 : Nat) (l1 : List ByteArray) (a2 : Int) (A3 : Option Addr) (c3 : Nat) (l3 : List GRule) (hg : GIn l0 l1 a2 l3) (h0 : l0.length ≤ c0) (h1 : l1.length ≤ c1) (h3 : l3.length ≤ c3)
    (hr0 : Kd.C Kd.string w A0 l0.length l0) (hr1 : Kd.C Kd.string w A1 l1.length l1) (hr3 : Kd.C k32 w A3 l3.length l3) (ps : List SPart) (Pp : Option Addr) (pc : Nat) (hps : ∀ p ∈ ps, symOk p.f0 = true ∧ symOk p.f1 = true ∧ symOk p.f2 = true) (hpc : ps.length ≤ pc) (hrp : Kd.C k157 w Pp ps.length ps)
    (qs : List SPart) (Pq : Option Addr) (qd : Nat) (hqs : ∀ p ∈ qs, symOk p.f0 = true ∧ symOk p.f1 = true ∧ symOk p.f2 = true) (hqd : qs.length ≤ qd) (hrq : Kd.C k157 w Pq qs.length qs) :
    Calls Tryd.prog 7 #[.agg #[.slice A0 l0.length c0, .slice A1 l1.length c1, .int .i64 a2, .slice A3 l3.length c3], .slice Pp ps.length pc, .slice Pq qs.length qd] w fun e w' => e = .returned (.bool true) ∧ Below w.heap.size w w' := by
  have hu := Tryd.underlying25
  have hu2 := Tryd.underlying55
  have hu3 := Tryd.underlying58
  have hu4 := Tryd.underlying63
  have HG := Lib.hid hG
  obtain ⟨KS, hKS⟩ := Pure.Ev.out (small_f l0 l1 a2 l3 hg)
  have HKS := Lib.hid (hKS KS (Nat.le_refl _))
  have HIB : Hid (InB w A0 c0 l0 A1 c1 l1 a2 A3 c3 l3 (w.alloc (.cells #[.slice A0 l0.length c0, .slice A1 l1.length c1, .int .i64 a2, .slice A3 l3.length c3] 25))) := Lib.hid ⟨⟨blk_new w _, Kd.C_alloc hr0 _, Kd.C_alloc hr1 _, Kd.C_alloc hr3 _⟩, (Below.refl _ _).alloc (Nat.le_refl _) _⟩
  have HRP := Lib.hid hrp
  have HRQ := Lib.hid hrq
  have HPS := Lib.hid hps
  have HQS := Lib.hid hqs
  have HH := Lib.hid hg
  clear hG hKS hr0 hr1 hr3 hg hrp hrq hps hqs
  go_enter Tryd.func7, Tryd.ntmps7
  go_wp2_with fail
  refine (wickerlaw02_Small.calls KS A0 c0 l0 A1 c1 l1 a2 A3 c3 l3 _ _ HIB.out.r0 h0 HIB.out.r1 h1 HIB.out.r3 h3 HKS.out).mono ?_
  rintro e w2 ⟨rfl, hb2⟩
  have hI2 := HIB.out.step hb2
  clear hb2 HIB
  have fin : ∀ (sb b1 b2 : Bool), sb = smallB l0 l1 l3 → decide ((ps.length : Int) > 80) = b1 → decide ((qs.length : Int) > 80) = b2 → (sb = false ∨ b1 = true ∨ b2 = true) ∨ (sb = true ∧ b1 = false ∧ b2 = false) := fun sb b1 b2 _ _ _ => by cases sb <;> cases b1 <;> cases b2 <;> simp
  rcases fin _ _ _ rfl rfl rfl with hway | ⟨hs, h80b, h81b⟩
  · cases hs : smallB l0 l1 l3 with
    | false =>
      have HI2 := Lib.hid hI2
      clear hI2 hs hway fin
      go_wp2_with fail
      refine (awake3_calls _ (Laid.below HG.out HI2.out.bel)).mono ?_
      rintro e w3 ⟨rfl, hb3⟩
      have hB3 := HI2.out.bel.trans (hb3.mono HI2.out.bel.size)
      clear hb3
      go_wp2
      go_ret
      exact ⟨rfl, hB3⟩
    | true =>
      cases h80b : decide ((ps.length : Int) > 80) with
      | true =>
        have HI2 := Lib.hid hI2
        clear hI2 hs hway fin
        go_wp2_with fail
        refine (awake3_calls _ (Laid.below HG.out HI2.out.bel)).mono ?_
        rintro e w3 ⟨rfl, hb3⟩
        have hB3 := HI2.out.bel.trans (hb3.mono HI2.out.bel.size)
        clear hb3
        go_wp2
        go_ret
        exact ⟨rfl, hB3⟩
      | false =>
        have h81b : decide ((qs.length : Int) > 80) = true := by
          rcases hway with h | h | h
          · rw [hs] at h; cases h
          · rw [h80b] at h; cases h
          · exact h
        have HI2 := Lib.hid hI2
        clear hI2 hs hway fin
        go_wp2_with fail
        refine (awake3_calls _ (Laid.below HG.out HI2.out.bel)).mono ?_
        rintro e w3 ⟨rfl, hb3⟩
        have hB3 := HI2.out.bel.trans (hb3.mono HI2.out.bel.size)
        clear hb3
        go_wp2
        go_ret
        exact ⟨rfl, hB3⟩
  · rw [hs]
    have h80 : ps.length ≤ 80 := by have := of_decide_eq_false h80b; omega
    have h81 : qs.length ≤ 80 := by have := of_decide_eq_false h81b; omega
    obtain ⟨hok, hn0, hn1, hn3, _, hx0, hx1, _⟩ := small_ok HH.out hs
    have HOK := Lib.hid hok
    have HX := Lib.hid (And.intro hx0 hx1)
    have HRO : Hid (l3.all ruleOk = true) := Lib.hid (by
      simp only [gramOk, Bool.and_eq_true] at hok
      exact hok.2)
    have HI2 := Lib.hid hI2
    clear hI2 hs hok hx0 hx1 fin
    go_wp2_with fail
    refine (build_any Pp pc ps (by omega) (fun p hp => (HPS.out p hp).2.1) _ (Kd.C_below HRP.out HI2.out.bel)).mono ?_
    rintro e w3 ⟨t, T, tc, R, rc, hcn1, hsy, rfl, ⟨hT, htc⟩, ⟨hR, hrc⟩, hb3⟩
    have hbx : Below w3.heap.size w3 ((w3.alloc (.cells #[.int .i64 t.f0, .int .i64 t.f1, .slice T t.f2.length tc] 55)).alloc (.cells #[.int .i64 (toR t).f0, .int .i64 (toR t).f1, .slice R (toR t).f2.length rc] 58)) := ((Below.refl _ w3).alloc (Nat.le_refl _) _).alloc (by simp) _
    have hbt := blk_alloc (blk_new w3 (.cells #[.int .i64 t.f0, .int .i64 t.f1, .slice T t.f2.length tc] 55)) (.cells #[.int .i64 (toR t).f0, .int .i64 (toR t).f1, .slice R (toR t).f2.length rc] 58)
    have hbr := blk_new (w3.alloc (.cells #[.int .i64 t.f0, .int .i64 t.f1, .slice T t.f2.length tc] 55)) (.cells #[.int .i64 (toR t).f0, .int .i64 (toR t).f1, .slice R (toR t).f2.length rc] 58)
    rw [show (w3.alloc (.cells #[.int .i64 t.f0, .int .i64 t.f1, .slice T t.f2.length tc] 55)).heap.size = w3.heap.size + 1 by simp] at hbr
    generalize hw4 : (w3.alloc (.cells #[.int .i64 t.f0, .int .i64 t.f1, .slice T t.f2.length tc] 55)).alloc (.cells #[.int .i64 (toR t).f0, .int .i64 (toR t).f1, .slice R (toR t).f2.length rc] 58) = w4 at hbx hbt hbr
    have HI4 := Lib.hid ((HI2.out.step hb3).step hbx)
    have HT := Lib.hid (Kd.C_below hT hbx)
    have HR := Lib.hid (Kd.C_below hR hbx)
    have HBT := Lib.hid hbt
    have HBR := Lib.hid hbr
    have HSY := Lib.hid hsy
    have HHC := Lib.hid (And.intro htc hrc)
    clear hT hR hb3 hbx hbt hbr hsy htc hrc HI2 HRP HPS
    have hw4' := hw4
    go_wp2_with fail
    (try simp only [hw4'])
    refine (build_any Pq qd qs (by omega) (fun p hp => (HQS.out p hp).2.1) _ (Kd.C_below HRQ.out HI4.out.bel)).mono ?_
    rintro e w5 ⟨u, U, uc, Q, qc, hcn2, hsu, rfl, ⟨hU, huc⟩, ⟨hQ, hqc⟩, hb5⟩
    have hbx : Below w5.heap.size w5 ((w5.alloc (.cells #[.int .i64 u.f0, .int .i64 u.f1, .slice U u.f2.length uc] 55)).alloc (.cells #[.int .i64 (toR u).f0, .int .i64 (toR u).f1, .slice Q (toR u).f2.length qc] 58)) := ((Below.refl _ w5).alloc (Nat.le_refl _) _).alloc (by simp) _
    have hbt := blk_alloc (blk_new w5 (.cells #[.int .i64 u.f0, .int .i64 u.f1, .slice U u.f2.length uc] 55)) (.cells #[.int .i64 (toR u).f0, .int .i64 (toR u).f1, .slice Q (toR u).f2.length qc] 58)
    have hbr := blk_new (w5.alloc (.cells #[.int .i64 u.f0, .int .i64 u.f1, .slice U u.f2.length uc] 55)) (.cells #[.int .i64 (toR u).f0, .int .i64 (toR u).f1, .slice Q (toR u).f2.length qc] 58)
    rw [show (w5.alloc (.cells #[.int .i64 u.f0, .int .i64 u.f1, .slice U u.f2.length uc] 55)).heap.size = w5.heap.size + 1 by simp] at hbr
    generalize hw6 : (w5.alloc (.cells #[.int .i64 u.f0, .int .i64 u.f1, .slice U u.f2.length uc] 55)).alloc (.cells #[.int .i64 (toR u).f0, .int .i64 (toR u).f1, .slice Q (toR u).f2.length qc] 58) = w6 at hbx hbt hbr
    have hb56 := hb5.trans (hbx.mono hb5.size)
    have hI6 := HI4.out.step hb56
    have HE := Lib.hid (InS.mk (w := w) (t := t) (u := u) (R := R) (rc := rc) (Q := Q) (qc := qc) (tb := w3.heap.size) (rb := w3.heap.size + 1) (ub := w5.heap.size) (qb := w5.heap.size + 1) hI6.bel hI6.box.1 (blk_below HBT.out hb56) (blk_below HBR.out hb56) hbt hbr hI6.r0 hI6.r1 hI6.r3 (Kd.C_below HT.out hb56) (Kd.C_below HR.out hb56) (Kd.C_below hU hbx) (Kd.C_below hQ hbx) HHC.out.1 HHC.out.2 huc hqc)
    obtain ⟨ys, hys⟩ : ∃ ys, yieldT t = ys := ⟨_, rfl⟩
    obtain ⟨sm, hsm⟩ : ∃ sm, sameT t u = sm := ⟨_, rfl⟩
    obtain ⟨tx, htx⟩ : ∃ tx : ByteArray, (if treeC l0 l1 a2 l3 t = 0 then (⟨(txT l0 l1 a2 l3 t).toArray⟩ : ByteArray) else ByteArray.empty) = tx := ⟨_, rfl⟩
    have hcnt : cntT t ≤ 1000000 := by omega
    have hcnu : cntT u ≤ 1000000 := by omega
    have hyl : ys.length ≤ 1000000 := by rw [← hys]; exact Nat.le_trans (yieldT_len t) hcnt
    obtain ⟨KY, hKY⟩ := Pure.Ev.out (ryield_f _ t (Nat.le_refl _) hcnt)
    obtain ⟨KG, hKG⟩ := Pure.Ev.out (signs_f ys hyl)
    obtain ⟨KC, hKC⟩ := Pure.Ev.out (count_f _ t (Nat.le_refl _) hcnt)
    obtain ⟨KD, hKD⟩ := Pure.Ev.out (rcount_f _ (toR t) (Nat.le_refl _) (by rw [cnt_toR]; exact hcnt))
    obtain ⟨KS2, hKS2⟩ := Pure.Ev.out (rsame_f _ t u (Nat.le_refl _) hcnt)
    rw [hys] at hKY
    rw [hsm] at hKS2
    rw [cnt_toR] at hKD
    have HKY := Lib.hid (hKY KY (Nat.le_refl _))
    have HKG := Lib.hid (hKG KG (Nat.le_refl _))
    have HKC := Lib.hid (hKC KC (Nat.le_refl _))
    have HKD := Lib.hid (hKD KD (Nat.le_refl _))
    have HKS2 := Lib.hid (hKS2 KS2 (Nat.le_refl _))
    have HYS := Lib.hid hys
    have HSM := Lib.hid hsm
    have HTX := Lib.hid htx
    have HTK : Hid (treeC l0 l1 a2 l3 t = 0 → txOk l0 l1 a2 l3 t = true ∧ (txT l0 l1 a2 l3 t).length ≤ 10000000000000) := Lib.hid (fun hc => by
      obtain ⟨ho, hr, hs⟩ := treeC_ok HOK.out HSY.out hc
      have := tx_len (a2 := a2) HX.out.1 HX.out.2 hr hs _ t (Nat.le_refl _) ho
      have h5 : cntT t * 60000 ≤ 1000 * 60000 := Nat.mul_le_mul_right _ hcn1
      exact ⟨tx_ok HX.out.1 HX.out.2 hr hs _ t (Nat.le_refl _) ho, by omega⟩)
    clear hbx hbt hbr hb56 hI6 hU hQ huc hqc hb5 HI4 HBT HBR HT HR hw4 hw4' HHC HRQ HQS hsu hys hsm htx hKY hKG hKC hKD hKS2 hcn2
    have hw6' := hw6
    go_wp2_with fail
    (try simp only [hw6'])
    generalize w3.heap.size + 1 = rb at *
    generalize w3.heap.size = tb at *
    generalize w5.heap.size + 1 = qb at *
    generalize w5.heap.size = ub at *
    clear hw6 hw6'
    refine RegT.regionT (F := ?FT) (InS w A0 c0 l0 A1 c1 l1 a2 A3 c3 l3 tb rb ub qb t u T tc R rc U uc Q qc) [fun v _ => v = .bool true, fun v _ => v = .bool true, fun v _ => v = .agg #[.int .i64 t.f0, .int .i64 t.f1, .slice T t.f2.length tc], fun v W => ∃ Y yc, v = .slice Y ys.length yc ∧ ys.length ≤ yc ∧ Kd.C (Kd.int .i64) W Y ys.length ys, fun v _ => v = .agg #[.int .i64 (toR t).f0, .int .i64 (toR t).f1, .slice R (toR t).f2.length rc], fun v W => ∃ Y yc, v = .slice Y ys.length yc ∧ ys.length ≤ yc ∧ Kd.C (Kd.int .i64) W Y ys.length ys, fun v _ => v = .bool true, fun v _ => v = .bool true, fun v _ => v = .bool true, fun v _ => v = .agg #[.int .i64 t.f0, .int .i64 t.f1, .slice T t.f2.length tc], fun v _ => v = .int .i64 (cntT t : Int), fun v _ => v = .agg #[.int .i64 (toR t).f0, .int .i64 (toR t).f1, .slice R (toR t).f2.length rc], fun v _ => v = .int .i64 (cntT t : Int), fun v _ => v = .bool true, fun v _ => v = .bool true, fun v _ => v = .bool true, fun v _ => v = .agg #[.int .i64 t.f0, .int .i64 t.f1, .slice T t.f2.length tc], fun v _ => v = .agg #[.int .i64 u.f0, .int .i64 u.f1, .slice U u.f2.length uc], fun v _ => v = .bool sm, fun v _ => v = .agg #[.int .i64 (toR t).f0, .int .i64 (toR t).f1, .slice R (toR t).f2.length rc], fun v _ => v = .agg #[.int .i64 (toR u).f0, .int .i64 (toR u).f1, .slice Q (toR u).f2.length qc], fun v _ => v = .bool sm, fun v _ => v = .bool true, fun v _ => v = .bool true, fun v _ => v = .bool true, fun v _ => v = .agg #[.int .i64 t.f0, .int .i64 t.f1, .slice T t.f2.length tc], fun v _ => v = .agg #[.int .i64 t.f0, .int .i64 t.f1, .slice T t.f2.length tc], fun v _ => v = .bool true, fun v _ => v = .bool true, fun v _ => v = .bool true, fun v _ => v = .agg #[.slice A0 l0.length c0, .slice A1 l1.length c1, .int .i64 a2, .slice A3 l3.length c3], fun v _ => v = .agg #[.int .i64 t.f0, .int .i64 t.f1, .slice T t.f2.length tc], fun v _ => v = .string tx, fun v _ => v = .agg #[.slice A0 l0.length c0, .slice A1 l1.length c1, .int .i64 a2, .slice A3 l3.length c3], fun v W => ∃ Ao co, v = .agg #[.slice A0 l0.length c0, .slice A1 l1.length c1, .int .i64 a2, .slice Ao l3.length co] ∧ l3.length ≤ co ∧ Kd.C k87 W Ao l3.length (l3.map ofR), fun v _ => v = .agg #[.int .i64 (toR t).f0, .int .i64 (toR t).f1, .slice R (toR t).f2.length rc], fun v _ => v = .string tx, fun v _ => v = .bool true, fun v _ => v = .bool true] (fun i v => match i with  | _ => none) (fun i => match i with  | _ => false) 39 ?hFT (by kernel_rfl) (by kernel_rfl) (by kernel_rfl) (by kernel_rfl) (by kernel_rfl) (by simp) ⟨fun _ _ _ h _ => h, fun _ _ _ h _ => h, fun _ _ _ h _ => h, fun _ _ _ ⟨Y, yc, h1, h2, h3⟩ hb => ⟨Y, yc, h1, h2, Kd.C_below h3 hb⟩, fun _ _ _ h _ => h, fun _ _ _ ⟨Y, yc, h1, h2, h3⟩ hb => ⟨Y, yc, h1, h2, Kd.C_below h3 hb⟩, fun _ _ _ h _ => h, fun _ _ _ h _ => h, fun _ _ _ h _ => h, fun _ _ _ h _ => h, fun _ _ _ h _ => h, fun _ _ _ h _ => h, fun _ _ _ h _ => h, fun _ _ _ h _ => h, fun _ _ _ h _ => h, fun _ _ _ h _ => h, fun _ _ _ h _ => h, fun _ _ _ h _ => h, fun _ _ _ h _ => h, fun _ _ _ h _ => h, fun _ _ _ h _ => h, fun _ _ _ h _ => h, fun _ _ _ h _ => h, fun _ _ _ h _ => h, fun _ _ _ h _ => h, fun _ _ _ h _ => h, fun _ _ _ h _ => h, fun _ _ _ h _ => h, fun _ _ _ h _ => h, fun _ _ _ h _ => h, fun _ _ _ h _ => h, fun _ _ _ h _ => h, fun _ _ _ h _ => h, fun _ _ _ h _ => h, fun _ _ _ ⟨Ao, co, h1, h2, h3⟩ hb => ⟨Ao, co, h1, h2, Kd.C_below h3 hb⟩, fun _ _ _ h _ => h, fun _ _ _ h _ => h, fun _ _ _ h _ => h, fun _ _ _ h _ => h, trivial⟩ ?hST ⟨?o0T, ?o1T, ?o2T, ?o3T, ?o4T, ?o5T, ?o6T, ?o7T, ?o8T, ?o9T, ?o10T, ?o11T, ?o12T, ?o13T, ?o14T, ?o15T, ?o16T, ?o17T, ?o18T, ?o19T, ?o20T, ?o21T, ?o22T, ?o23T, ?o24T, ?o25T, ?o26T, ?o27T, ?o28T, ?o29T, ?o30T, ?o31T, ?o32T, ?o33T, ?o34T, ?o35T, ?o36T, ?o37T, ?o38T, trivial⟩ ?hendT
    case hFT => intro f; (try simp only [List.take_succ_cons, List.take_zero, RegT.fillIn, RegT.fv, Act.put, List.setIfInBounds_toArray, List.set_cons_zero, List.set_cons_succ]); exact rfl
    case hST => exact HE.out.drew
    case o0T =>
      intro f W1 hS hd K hK
      clear hd
      go_simp
      go_at_call 28
      refine (awake3_calls _ (Laid.below HG.out hS.bel)).mono ?_
      rintro e w' ⟨rfl, hb⟩
      exact hK.out (.bool true) _ (hS.step hb) hb rfl (fun _ (h : (none : Option Nat) = some _) => by cases h) _ (by rfl)
    case o1T =>
      intro f W1 hS hd K hK
      obtain ⟨e35, -, -⟩ := hd
      replace e35 : f 35 = .bool true := e35
      (go_simp; exact hK.out (.bool true) _ hS (Below.refl _ _) rfl (fun _ (h : (none : Option Nat) = some _) => by cases h) _ (by first | (simp only [e35]; done) | (simp only [e35]; rfl) | rfl))
    case o2T =>
      intro f W1 hS hd K hK
      obtain ⟨e36, -⟩ := hd
      replace e36 : f 36 = .bool true := e36
      have z0 := hS.g0
      have z1 := hS.g1
      have z2 := hS.g2
      have z3 := hS.g3
      have x0 := hS.t0
      have x1 := hS.t1
      have x2 := hS.t2
      have y0 := hS.s0
      have y1 := hS.s1
      have y2 := hS.s2
      have u0 := hS.u0
      have u1 := hS.u1
      have u2 := hS.u2
      have q0 := hS.q0
      have q1 := hS.q1
      have q2 := hS.q2
      (go_simp; exact hK.out (.agg #[.int .i64 t.f0, .int .i64 t.f1, .slice T t.f2.length tc]) _ hS (Below.refl _ _) rfl (fun _ (h : (none : Option Nat) = some _) => by cases h) _ (by first | (simp only [e36]; done) | (simp only [e36]; rfl) | rfl))
    case o3T =>
      intro f W1 hS hd K hK
      obtain ⟨e37, e36, -, -⟩ := hd
      replace e37 : f 37 = .agg #[.int .i64 t.f0, .int .i64 t.f1, .slice T t.f2.length tc] := e37
      replace e36 : f 36 = .bool true := e36
      go_simp
      go_at_call 38
      refine (yield_calls t hcnt T tc hS.htc W1 hS.tr).mono ?_
      rintro e w' ⟨v, rfl, hv, hb⟩
      obtain ⟨Y, yc, rfl, hl, hC⟩ := Kd.R_reads hv
      rw [HYS.out] at hl hC ⊢
      exact hK.out (.slice Y ys.length yc) _ (hS.step hb) hb ⟨Y, yc, rfl, hl, hC⟩ (fun _ (h : (none : Option Nat) = some _) => by cases h) _ (by first | (simp only [e37, e36]; done) | (simp only [e37, e36]; rfl) | rfl)
    case o4T =>
      intro f W1 hS hd K hK
      obtain ⟨e36, -⟩ := hd
      replace e36 : f 36 = .bool true := e36
      have z0 := hS.g0
      have z1 := hS.g1
      have z2 := hS.g2
      have z3 := hS.g3
      have x0 := hS.t0
      have x1 := hS.t1
      have x2 := hS.t2
      have y0 := hS.s0
      have y1 := hS.s1
      have y2 := hS.s2
      have u0 := hS.u0
      have u1 := hS.u1
      have u2 := hS.u2
      have q0 := hS.q0
      have q1 := hS.q1
      have q2 := hS.q2
      (go_simp; exact hK.out (.agg #[.int .i64 (toR t).f0, .int .i64 (toR t).f1, .slice R (toR t).f2.length rc]) _ hS (Below.refl _ _) rfl (fun _ (h : (none : Option Nat) = some _) => by cases h) _ (by first | (simp only [e36]; done) | (simp only [e36]; rfl) | rfl))
    case o5T =>
      intro f W1 hS hd K hK
      obtain ⟨e39, -, e36, -⟩ := hd
      replace e39 : f 39 = .agg #[.int .i64 (toR t).f0, .int .i64 (toR t).f1, .slice R (toR t).f2.length rc] := e39
      replace e36 : f 36 = .bool true := e36
      go_simp
      go_at_call 55
      refine (wickerref03_Yield.calls KY (toR t).f0 (toR t).f1 R rc (toR t).f2 ys W1 hS.rr hS.hrc HKY.out).mono ?_
      rintro e w' ⟨v, rfl, hv, hb⟩
      obtain ⟨Y, yc, rfl, hl, hC⟩ := Kd.R_reads hv
      exact hK.out (.slice Y ys.length yc) _ (hS.step hb) hb ⟨Y, yc, rfl, hl, hC⟩ (fun _ (h : (none : Option Nat) = some _) => by cases h) _ (by first | (simp only [e39, e36]; done) | (simp only [e39, e36]; rfl) | rfl)
    case o6T =>
      intro f W1 hS hd K hK
      obtain ⟨e38, e40, -, e36, -⟩ := hd
      obtain ⟨Y38, yc38, e38, hl38, hC38⟩ := e38
      obtain ⟨Y40, yc40, e40, hl40, hC40⟩ := e40
      replace e36 : f 36 = .bool true := e36
      go_simp
      go_at_call 54
      refine (wickerlaw03_signs.calls KG Y38 yc38 ys Y40 yc40 ys true W1 hC38 hl38 hC40 hl40 HKG.out).mono ?_
      rintro e w' ⟨rfl, hd⟩
      have hb := hd.below
      exact hK.out (.bool true) _ (hS.step hb) hb rfl (fun _ (h : (none : Option Nat) = some _) => by cases h) _ (by first | (simp only [e38, e40, e36]; done) | (simp only [e38, e40, e36]; rfl) | rfl)
    case o7T =>
      intro f W1 hS hd K hK
      obtain ⟨e36, e41, -⟩ := hd
      replace e36 : f 36 = .bool true := e36
      replace e41 : f 41 = .bool true := e41
      (go_simp; exact hK.out (.bool true) _ hS (Below.refl _ _) rfl (fun _ (h : (none : Option Nat) = some _) => by cases h) _ (by first | (simp only [e36, e41]; done) | (simp only [e36, e41]; rfl) | rfl))
    case o8T =>
      intro f W1 hS hd K hK
      obtain ⟨e42, -, -⟩ := hd
      replace e42 : f 42 = .bool true := e42
      (go_simp; exact hK.out (.bool true) _ hS (Below.refl _ _) rfl (fun _ (h : (none : Option Nat) = some _) => by cases h) _ (by first | (simp only [e42]; done) | (simp only [e42]; rfl) | rfl))
    case o9T =>
      intro f W1 hS hd K hK
      obtain ⟨e43, -⟩ := hd
      replace e43 : f 43 = .bool true := e43
      have z0 := hS.g0
      have z1 := hS.g1
      have z2 := hS.g2
      have z3 := hS.g3
      have x0 := hS.t0
      have x1 := hS.t1
      have x2 := hS.t2
      have y0 := hS.s0
      have y1 := hS.s1
      have y2 := hS.s2
      have u0 := hS.u0
      have u1 := hS.u1
      have u2 := hS.u2
      have q0 := hS.q0
      have q1 := hS.q1
      have q2 := hS.q2
      (go_simp; exact hK.out (.agg #[.int .i64 t.f0, .int .i64 t.f1, .slice T t.f2.length tc]) _ hS (Below.refl _ _) rfl (fun _ (h : (none : Option Nat) = some _) => by cases h) _ (by first | (simp only [e43]; done) | (simp only [e43]; rfl) | rfl))
    case o10T =>
      intro f W1 hS hd K hK
      obtain ⟨e44, e43, -, -⟩ := hd
      replace e44 : f 44 = .agg #[.int .i64 t.f0, .int .i64 t.f1, .slice T t.f2.length tc] := e44
      replace e43 : f 43 = .bool true := e43
      go_simp
      go_at_call 56
      refine (tree_Count.calls KC t.f0 t.f1 T tc t.f2 _ W1 hS.tr hS.htc HKC.out).mono ?_
      rintro e w' ⟨rfl, hb⟩
      exact hK.out (.int .i64 (cntT t : Int)) _ (hS.step hb) hb rfl (fun _ (h : (none : Option Nat) = some _) => by cases h) _ (by first | (simp only [e44, e43]; done) | (simp only [e44, e43]; rfl) | rfl)
    case o11T =>
      intro f W1 hS hd K hK
      obtain ⟨e43, -⟩ := hd
      replace e43 : f 43 = .bool true := e43
      have z0 := hS.g0
      have z1 := hS.g1
      have z2 := hS.g2
      have z3 := hS.g3
      have x0 := hS.t0
      have x1 := hS.t1
      have x2 := hS.t2
      have y0 := hS.s0
      have y1 := hS.s1
      have y2 := hS.s2
      have u0 := hS.u0
      have u1 := hS.u1
      have u2 := hS.u2
      have q0 := hS.q0
      have q1 := hS.q1
      have q2 := hS.q2
      (go_simp; exact hK.out (.agg #[.int .i64 (toR t).f0, .int .i64 (toR t).f1, .slice R (toR t).f2.length rc]) _ hS (Below.refl _ _) rfl (fun _ (h : (none : Option Nat) = some _) => by cases h) _ (by first | (simp only [e43]; done) | (simp only [e43]; rfl) | rfl))
    case o12T =>
      intro f W1 hS hd K hK
      obtain ⟨e46, -, e43, -⟩ := hd
      replace e46 : f 46 = .agg #[.int .i64 (toR t).f0, .int .i64 (toR t).f1, .slice R (toR t).f2.length rc] := e46
      replace e43 : f 43 = .bool true := e43
      go_simp
      go_at_call 57
      refine (wickerref03_Count.calls KD (toR t).f0 (toR t).f1 R rc (toR t).f2 _ W1 hS.rr hS.hrc HKD.out).mono ?_
      rintro e w' ⟨rfl, hb⟩
      exact hK.out (.int .i64 (cntT t : Int)) _ (hS.step hb) hb rfl (fun _ (h : (none : Option Nat) = some _) => by cases h) _ (by first | (simp only [e46, e43]; done) | (simp only [e46, e43]; rfl) | rfl)
    case o13T =>
      intro f W1 hS hd K hK
      obtain ⟨e45, e47, e43, -⟩ := hd
      replace e45 : f 45 = .int .i64 (cntT t : Int) := e45
      replace e47 : f 47 = .int .i64 (cntT t : Int) := e47
      replace e43 : f 43 = .bool true := e43
      (go_simp; exact hK.out (.bool true) _ hS (Below.refl _ _) rfl (fun _ (h : (none : Option Nat) = some _) => by cases h) _ (by first | (simp only [e45, e47, e43]; done) | (simp only [e45, e47, e43]; rfl) | rfl))
    case o14T =>
      intro f W1 hS hd K hK
      obtain ⟨e43, e48, -⟩ := hd
      replace e43 : f 43 = .bool true := e43
      replace e48 : f 48 = .bool true := e48
      (go_simp; exact hK.out (.bool true) _ hS (Below.refl _ _) rfl (fun _ (h : (none : Option Nat) = some _) => by cases h) _ (by first | (simp only [e43, e48]; done) | (simp only [e43, e48]; rfl) | rfl))
    case o15T =>
      intro f W1 hS hd K hK
      obtain ⟨e49, -, -⟩ := hd
      replace e49 : f 49 = .bool true := e49
      (go_simp; exact hK.out (.bool true) _ hS (Below.refl _ _) rfl (fun _ (h : (none : Option Nat) = some _) => by cases h) _ (by first | (simp only [e49]; done) | (simp only [e49]; rfl) | rfl))
    case o16T =>
      intro f W1 hS hd K hK
      obtain ⟨e50, -⟩ := hd
      replace e50 : f 50 = .bool true := e50
      have z0 := hS.g0
      have z1 := hS.g1
      have z2 := hS.g2
      have z3 := hS.g3
      have x0 := hS.t0
      have x1 := hS.t1
      have x2 := hS.t2
      have y0 := hS.s0
      have y1 := hS.s1
      have y2 := hS.s2
      have u0 := hS.u0
      have u1 := hS.u1
      have u2 := hS.u2
      have q0 := hS.q0
      have q1 := hS.q1
      have q2 := hS.q2
      (go_simp; exact hK.out (.agg #[.int .i64 t.f0, .int .i64 t.f1, .slice T t.f2.length tc]) _ hS (Below.refl _ _) rfl (fun _ (h : (none : Option Nat) = some _) => by cases h) _ (by first | (simp only [e50]; done) | (simp only [e50]; rfl) | rfl))
    case o17T =>
      intro f W1 hS hd K hK
      obtain ⟨e50, -⟩ := hd
      replace e50 : f 50 = .bool true := e50
      have z0 := hS.g0
      have z1 := hS.g1
      have z2 := hS.g2
      have z3 := hS.g3
      have x0 := hS.t0
      have x1 := hS.t1
      have x2 := hS.t2
      have y0 := hS.s0
      have y1 := hS.s1
      have y2 := hS.s2
      have u0 := hS.u0
      have u1 := hS.u1
      have u2 := hS.u2
      have q0 := hS.q0
      have q1 := hS.q1
      have q2 := hS.q2
      (go_simp; exact hK.out (.agg #[.int .i64 u.f0, .int .i64 u.f1, .slice U u.f2.length uc]) _ hS (Below.refl _ _) rfl (fun _ (h : (none : Option Nat) = some _) => by cases h) _ (by first | (simp only [e50]; done) | (simp only [e50]; rfl) | rfl))
    case o18T =>
      intro f W1 hS hd K hK
      obtain ⟨e51, e52, e50, -, -⟩ := hd
      replace e51 : f 51 = .agg #[.int .i64 t.f0, .int .i64 t.f1, .slice T t.f2.length tc] := e51
      replace e52 : f 52 = .agg #[.int .i64 u.f0, .int .i64 u.f1, .slice U u.f2.length uc] := e52
      replace e50 : f 50 = .bool true := e50
      go_simp
      go_at_call 58
      refine (same_calls _ t u T tc U uc W1 (Nat.le_refl _) hcnt hcnu hS.htc hS.huc hS.tr hS.ur).mono ?_
      rintro e w' ⟨rfl, hb⟩
      rw [HSM.out]
      exact hK.out (.bool sm) _ (hS.step hb) hb rfl (fun _ (h : (none : Option Nat) = some _) => by cases h) _ (by first | (simp only [e51, e52, e50]; done) | (simp only [e51, e52, e50]; rfl) | rfl)
    case o19T =>
      intro f W1 hS hd K hK
      obtain ⟨e50, -⟩ := hd
      replace e50 : f 50 = .bool true := e50
      have z0 := hS.g0
      have z1 := hS.g1
      have z2 := hS.g2
      have z3 := hS.g3
      have x0 := hS.t0
      have x1 := hS.t1
      have x2 := hS.t2
      have y0 := hS.s0
      have y1 := hS.s1
      have y2 := hS.s2
      have u0 := hS.u0
      have u1 := hS.u1
      have u2 := hS.u2
      have q0 := hS.q0
      have q1 := hS.q1
      have q2 := hS.q2
      (go_simp; exact hK.out (.agg #[.int .i64 (toR t).f0, .int .i64 (toR t).f1, .slice R (toR t).f2.length rc]) _ hS (Below.refl _ _) rfl (fun _ (h : (none : Option Nat) = some _) => by cases h) _ (by first | (simp only [e50]; done) | (simp only [e50]; rfl) | rfl))
    case o20T =>
      intro f W1 hS hd K hK
      obtain ⟨e50, -⟩ := hd
      replace e50 : f 50 = .bool true := e50
      have z0 := hS.g0
      have z1 := hS.g1
      have z2 := hS.g2
      have z3 := hS.g3
      have x0 := hS.t0
      have x1 := hS.t1
      have x2 := hS.t2
      have y0 := hS.s0
      have y1 := hS.s1
      have y2 := hS.s2
      have u0 := hS.u0
      have u1 := hS.u1
      have u2 := hS.u2
      have q0 := hS.q0
      have q1 := hS.q1
      have q2 := hS.q2
      (go_simp; exact hK.out (.agg #[.int .i64 (toR u).f0, .int .i64 (toR u).f1, .slice Q (toR u).f2.length qc]) _ hS (Below.refl _ _) rfl (fun _ (h : (none : Option Nat) = some _) => by cases h) _ (by first | (simp only [e50]; done) | (simp only [e50]; rfl) | rfl))
    case o21T =>
      intro f W1 hS hd K hK
      obtain ⟨e54, e55, -, e50, -⟩ := hd
      replace e54 : f 54 = .agg #[.int .i64 (toR t).f0, .int .i64 (toR t).f1, .slice R (toR t).f2.length rc] := e54
      replace e55 : f 55 = .agg #[.int .i64 (toR u).f0, .int .i64 (toR u).f1, .slice Q (toR u).f2.length qc] := e55
      replace e50 : f 50 = .bool true := e50
      go_simp
      go_at_call 59
      refine (wickerref03_Same.calls KS2 (toR t).f0 (toR t).f1 R rc (toR t).f2 (toR u).f0 (toR u).f1 Q qc (toR u).f2 sm W1 hS.rr hS.hrc hS.qr hS.hqc HKS2.out).mono ?_
      rintro e w' ⟨rfl, hb⟩
      exact hK.out (.bool sm) _ (hS.step hb) hb rfl (fun _ (h : (none : Option Nat) = some _) => by cases h) _ (by first | (simp only [e54, e55, e50]; done) | (simp only [e54, e55, e50]; rfl) | rfl)
    case o22T =>
      intro f W1 hS hd K hK
      obtain ⟨e53, e56, e50, -⟩ := hd
      replace e53 : f 53 = .bool sm := e53
      replace e56 : f 56 = .bool sm := e56
      replace e50 : f 50 = .bool true := e50
      cases sm <;> (go_simp; exact hK.out (.bool true) _ hS (Below.refl _ _) rfl (fun _ (h : (none : Option Nat) = some _) => by cases h) _ (by first | (simp only [e53, e56, e50]; done) | (simp only [e53, e56, e50]; rfl) | rfl))
    case o23T =>
      intro f W1 hS hd K hK
      obtain ⟨e50, e57, -⟩ := hd
      replace e50 : f 50 = .bool true := e50
      replace e57 : f 57 = .bool true := e57
      (go_simp; exact hK.out (.bool true) _ hS (Below.refl _ _) rfl (fun _ (h : (none : Option Nat) = some _) => by cases h) _ (by first | (simp only [e50, e57]; done) | (simp only [e50, e57]; rfl) | rfl))
    case o24T =>
      intro f W1 hS hd K hK
      obtain ⟨e58, -, -⟩ := hd
      replace e58 : f 58 = .bool true := e58
      (go_simp; exact hK.out (.bool true) _ hS (Below.refl _ _) rfl (fun _ (h : (none : Option Nat) = some _) => by cases h) _ (by first | (simp only [e58]; done) | (simp only [e58]; rfl) | rfl))
    case o25T =>
      intro f W1 hS hd K hK
      obtain ⟨e59, -⟩ := hd
      replace e59 : f 59 = .bool true := e59
      have z0 := hS.g0
      have z1 := hS.g1
      have z2 := hS.g2
      have z3 := hS.g3
      have x0 := hS.t0
      have x1 := hS.t1
      have x2 := hS.t2
      have y0 := hS.s0
      have y1 := hS.s1
      have y2 := hS.s2
      have u0 := hS.u0
      have u1 := hS.u1
      have u2 := hS.u2
      have q0 := hS.q0
      have q1 := hS.q1
      have q2 := hS.q2
      (go_simp; exact hK.out (.agg #[.int .i64 t.f0, .int .i64 t.f1, .slice T t.f2.length tc]) _ hS (Below.refl _ _) rfl (fun _ (h : (none : Option Nat) = some _) => by cases h) _ (by first | (simp only [e59]; done) | (simp only [e59]; rfl) | rfl))
    case o26T =>
      intro f W1 hS hd K hK
      obtain ⟨e59, -⟩ := hd
      replace e59 : f 59 = .bool true := e59
      have z0 := hS.g0
      have z1 := hS.g1
      have z2 := hS.g2
      have z3 := hS.g3
      have x0 := hS.t0
      have x1 := hS.t1
      have x2 := hS.t2
      have y0 := hS.s0
      have y1 := hS.s1
      have y2 := hS.s2
      have u0 := hS.u0
      have u1 := hS.u1
      have u2 := hS.u2
      have q0 := hS.q0
      have q1 := hS.q1
      have q2 := hS.q2
      (go_simp; exact hK.out (.agg #[.int .i64 t.f0, .int .i64 t.f1, .slice T t.f2.length tc]) _ hS (Below.refl _ _) rfl (fun _ (h : (none : Option Nat) = some _) => by cases h) _ (by first | (simp only [e59]; done) | (simp only [e59]; rfl) | rfl))
    case o27T =>
      intro f W1 hS hd K hK
      obtain ⟨e60, e61, e59, -, -⟩ := hd
      replace e60 : f 60 = .agg #[.int .i64 t.f0, .int .i64 t.f1, .slice T t.f2.length tc] := e60
      replace e61 : f 61 = .agg #[.int .i64 t.f0, .int .i64 t.f1, .slice T t.f2.length tc] := e61
      replace e59 : f 59 = .bool true := e59
      go_simp
      go_at_call 58
      refine (same_calls _ t t T tc T tc W1 (Nat.le_refl _) hcnt hcnt hS.htc hS.htc hS.tr hS.tr).mono ?_
      rintro e w' ⟨rfl, hb⟩
      rw [sameT_self]
      exact hK.out (.bool true) _ (hS.step hb) hb rfl (fun _ (h : (none : Option Nat) = some _) => by cases h) _ (by first | (simp only [e60, e61, e59]; done) | (simp only [e60, e61, e59]; rfl) | rfl)
    case o28T =>
      intro f W1 hS hd K hK
      obtain ⟨e59, e62, -⟩ := hd
      replace e59 : f 59 = .bool true := e59
      replace e62 : f 62 = .bool true := e62
      (go_simp; exact hK.out (.bool true) _ hS (Below.refl _ _) rfl (fun _ (h : (none : Option Nat) = some _) => by cases h) _ (by first | (simp only [e59, e62]; done) | (simp only [e59, e62]; rfl) | rfl))
    case o29T =>
      intro f W1 hS hd K hK
      obtain ⟨e63, -, -⟩ := hd
      replace e63 : f 63 = .bool true := e63
      (go_simp; exact hK.out (.bool true) _ hS (Below.refl _ _) rfl (fun _ (h : (none : Option Nat) = some _) => by cases h) _ (by first | (simp only [e63]; done) | (simp only [e63]; rfl) | rfl))
    case o30T =>
      intro f W1 hS hd K hK
      obtain ⟨e64, -⟩ := hd
      replace e64 : f 64 = .bool true := e64
      have z0 := hS.g0
      have z1 := hS.g1
      have z2 := hS.g2
      have z3 := hS.g3
      have x0 := hS.t0
      have x1 := hS.t1
      have x2 := hS.t2
      have y0 := hS.s0
      have y1 := hS.s1
      have y2 := hS.s2
      have u0 := hS.u0
      have u1 := hS.u1
      have u2 := hS.u2
      have q0 := hS.q0
      have q1 := hS.q1
      have q2 := hS.q2
      (go_simp; exact hK.out (.agg #[.slice A0 l0.length c0, .slice A1 l1.length c1, .int .i64 a2, .slice A3 l3.length c3]) _ hS (Below.refl _ _) rfl (fun _ (h : (none : Option Nat) = some _) => by cases h) _ (by first | (simp only [e64]; done) | (simp only [e64]; rfl) | rfl))
    case o31T =>
      intro f W1 hS hd K hK
      obtain ⟨e64, -⟩ := hd
      replace e64 : f 64 = .bool true := e64
      have z0 := hS.g0
      have z1 := hS.g1
      have z2 := hS.g2
      have z3 := hS.g3
      have x0 := hS.t0
      have x1 := hS.t1
      have x2 := hS.t2
      have y0 := hS.s0
      have y1 := hS.s1
      have y2 := hS.s2
      have u0 := hS.u0
      have u1 := hS.u1
      have u2 := hS.u2
      have q0 := hS.q0
      have q1 := hS.q1
      have q2 := hS.q2
      (go_simp; exact hK.out (.agg #[.int .i64 t.f0, .int .i64 t.f1, .slice T t.f2.length tc]) _ hS (Below.refl _ _) rfl (fun _ (h : (none : Option Nat) = some _) => by cases h) _ (by first | (simp only [e64]; done) | (simp only [e64]; rfl) | rfl))
    case o32T =>
      intro f W1 hS hd K hK
      obtain ⟨e65, e66, e64, -, -⟩ := hd
      replace e65 : f 65 = .agg #[.slice A0 l0.length c0, .slice A1 l1.length c1, .int .i64 a2, .slice A3 l3.length c3] := e65
      replace e66 : f 66 = .agg #[.int .i64 t.f0, .int .i64 t.f1, .slice T t.f2.length tc] := e66
      replace e64 : f 64 = .bool true := e64
      go_simp
      go_at_call 60
      refine (text_calls A0 c0 l0 A1 c1 l1 a2 A3 c3 l3 HOK.out h0 h1 h3 t T tc hS.htc hcnt HSY.out HTK.out W1 (Laid.below HG.out hS.bel) hS.r0 hS.r1 hS.r3 hS.tr).mono ?_
      rintro e w' ⟨rfl, hb⟩
      rw [HTX.out]
      exact hK.out (.string tx) _ (hS.step hb) hb rfl (fun _ (h : (none : Option Nat) = some _) => by cases h) _ (by first | (simp only [e65, e66, e64]; done) | (simp only [e65, e66, e64]; rfl) | rfl)
    case o33T =>
      intro f W1 hS hd K hK
      obtain ⟨e64, -⟩ := hd
      replace e64 : f 64 = .bool true := e64
      have z0 := hS.g0
      have z1 := hS.g1
      have z2 := hS.g2
      have z3 := hS.g3
      have x0 := hS.t0
      have x1 := hS.t1
      have x2 := hS.t2
      have y0 := hS.s0
      have y1 := hS.s1
      have y2 := hS.s2
      have u0 := hS.u0
      have u1 := hS.u1
      have u2 := hS.u2
      have q0 := hS.q0
      have q1 := hS.q1
      have q2 := hS.q2
      (go_simp; exact hK.out (.agg #[.slice A0 l0.length c0, .slice A1 l1.length c1, .int .i64 a2, .slice A3 l3.length c3]) _ hS (Below.refl _ _) rfl (fun _ (h : (none : Option Nat) = some _) => by cases h) _ (by first | (simp only [e64]; done) | (simp only [e64]; rfl) | rfl))
    case o34T =>
      intro f W1 hS hd K hK
      obtain ⟨e68, -, e64, -⟩ := hd
      replace e68 : f 68 = .agg #[.slice A0 l0.length c0, .slice A1 l1.length c1, .int .i64 a2, .slice A3 l3.length c3] := e68
      replace e64 : f 64 = .bool true := e64
      go_simp
      go_at_call 30
      refine (of_calls3 A0 c0 l0 A1 c1 l1 a2 A3 c3 l3 (by omega) HRO.out W1 hS.r3).mono ?_
      rintro e w' ⟨Ao, co, rfl, hC, ho, hb⟩
      exact hK.out (.agg #[.slice A0 l0.length c0, .slice A1 l1.length c1, .int .i64 a2, .slice Ao l3.length co]) _ (hS.step hb) hb ⟨Ao, co, rfl, ho, hC⟩ (fun _ (h : (none : Option Nat) = some _) => by cases h) _ (by first | (simp only [e68, e64]; done) | (simp only [e68, e64]; rfl) | rfl)
    case o35T =>
      intro f W1 hS hd K hK
      obtain ⟨e64, -⟩ := hd
      replace e64 : f 64 = .bool true := e64
      have z0 := hS.g0
      have z1 := hS.g1
      have z2 := hS.g2
      have z3 := hS.g3
      have x0 := hS.t0
      have x1 := hS.t1
      have x2 := hS.t2
      have y0 := hS.s0
      have y1 := hS.s1
      have y2 := hS.s2
      have u0 := hS.u0
      have u1 := hS.u1
      have u2 := hS.u2
      have q0 := hS.q0
      have q1 := hS.q1
      have q2 := hS.q2
      (go_simp; exact hK.out (.agg #[.int .i64 (toR t).f0, .int .i64 (toR t).f1, .slice R (toR t).f2.length rc]) _ hS (Below.refl _ _) rfl (fun _ (h : (none : Option Nat) = some _) => by cases h) _ (by first | (simp only [e64]; done) | (simp only [e64]; rfl) | rfl))
    case o36T =>
      intro f W1 hS hd K hK
      obtain ⟨e69, e70, -, e64, -⟩ := hd
      obtain ⟨Ao, co, e69, ho69, hC69⟩ := e69
      replace e70 : f 70 = .agg #[.int .i64 (toR t).f0, .int .i64 (toR t).f1, .slice R (toR t).f2.length rc] := e70
      replace e64 : f 64 = .bool true := e64
      go_simp
      go_at_call 61
      refine (rText_calls A0 c0 l0 A1 c1 l1 a2 Ao co l3 HOK.out HX.out.1 HX.out.2 h0 h1 ho69 t R rc hS.hrc hcn1 HSY.out W1 hS.r0 hS.r1 hC69 hS.rr).mono ?_
      rintro e w' ⟨rfl, hb⟩
      rw [HTX.out]
      exact hK.out (.string tx) _ (hS.step hb) hb rfl (fun _ (h : (none : Option Nat) = some _) => by cases h) _ (by first | (simp only [e69, e70, e64]; done) | (simp only [e69, e70, e64]; rfl) | rfl)
    case o37T =>
      intro f W1 hS hd K hK
      obtain ⟨e67, e71, e64, -⟩ := hd
      replace e67 : f 67 = .string tx := e67
      replace e71 : f 71 = .string tx := e71
      replace e64 : f 64 = .bool true := e64
      (go_simp; exact hK.out (.bool true) _ hS (Below.refl _ _) rfl (fun _ (h : (none : Option Nat) = some _) => by cases h) _ (by first | (simp only [e67, e71, e64]; done) | (simp only [e67, e71, e64]; rfl) | rfl))
    case o38T =>
      intro f W1 hS hd K hK
      obtain ⟨e64, e72, -⟩ := hd
      replace e64 : f 64 = .bool true := e64
      replace e72 : f 72 = .bool true := e72
      (go_simp; exact hK.out (.bool true) _ hS (Below.refl _ _) rfl (fun _ (h : (none : Option Nat) = some _) => by cases h) _ (by first | (simp only [e64, e72]; done) | (simp only [e64, e72]; rfl) | rfl))
    case hendT =>
      intro f W1 hS hr hbl
      have e73 := hr 38 _ _ (by omega) rfl rfl
      replace e73 : f 73 = .bool true := e73
      (try dsimp only)
      generalize f 73 = x73 at *
      subst e73
      try simp only [List.drop_succ_cons, List.drop_zero]
      have HB := Lib.hid hS.bel
      clear hS hr hbl
      go_wp2
      go_ret
      exact ⟨rfl, HB.out⟩
end Go.Proofs.YtmdjmbdeeodehaaDoor.G
end
namespace Go.Proofs.YtmdjmbdeeodehaaDoor.treeTells
open Go Go.Proofs.YtmdjmbdeeodehaaDoorOpen Go.ChangeShapes Go.WideShapes Go.ChangeAt Go.RowKit
open Go.ChangeMaps (open_string shut_string)
set_option linter.unusedVariables false
theorem own : ownKnob Tryd.prog.godebug = none := by kernel_rfl
theorem laidOut : laidOutB Tryd.prog = true := by kernel_rfl
def laid : List (String × DataW Unit) := [("math/bits.deBruijn32tab", Rows.laid_math_bits_deBruijn32tab), ("math/bits.deBruijn64tab", Rows.laid_math_bits_deBruijn64tab), ("internal/strconv.uint64pow10", Rows.laid_internal_strconv_uint64pow10)]
theorem laid_in : (("internal/strconv.uint64pow10", Lib.tabData .u64 Lib.pow10Tab) : String × DataW Unit) ∈ laid := by
  rw [show (Lib.tabData .u64 Lib.pow10Tab : DataW Unit) = Rows.laid_internal_strconv_uint64pow10 by kernel_rfl]
  exact List.Mem.tail _ (List.Mem.tail _ (List.Mem.head _))
theorem laid_met (os : Os) (args : Array Value) : laidMetH Tryd.prog laid ((World.laidAll Tryd.prog os laid).forCall (fun _ _ => 0) ⟨#[], args, []⟩).memory := by
  rw [Go.MakeChecks.laidMetH_plain _ _ _ (by kernel_rfl)]
  exact laidMet_laidAll args (by kernel_rfl) (by kernel_rfl)
set_option maxRecDepth 100000 in
theorem lifted (os : Os) (started : os.Started) (H : Type) (enc : TypeId × Value → H) :
    ReturnsInHanded {} Tryd.checked os 7 .any (fun w args => (Rows.treeTellsSpec.pre enc Tryd.prog Tryd.f7 [] false w args ∧ laidMetH Tryd.prog laid w) ∧ sizedMet enc Tryd.prog Tryd.f7 (OpenSpec.ofChange Rows.treeTellsSpec) false w args) (Rows.treeTellsSpec.post enc Tryd.prog Tryd.f7 false true false false) := by
  refine returnsInHanded_of_change_and (C := Tryd.checked) (X := fun w _ => laidMetH Tryd.prog laid w) (fun _ _ _ hh h => h.of_heap hh) own started (by kernel_rfl) Tryd.func7
    (ChangeSpec.witness_at (enc := enc) (C := Tryd.checked) (os := os) (X := fun w _ => laidMetH Tryd.prog laid w) false (World.laidAll Tryd.prog os laid) #[.agg #[.slice none 0 0, .slice none 0 0, .int .i64 0, .slice none 0 0], .slice none 0 0, .slice none 0 0] 8 (World.laidAll_os _ _ _) (by kernel_rfl) (by kernel_rfl) (by kernel_rfl) (by kernel_rfl) (by kernel_rfl) (laid_met os _)) ?_
  intro W base args ds gs before hval0 hW hcnd hsz0 hL _
  have hsz : (DataW.weightsEach Tryd.prog (Tryd.f7.params.toList ++ Rows.treeTellsSpec.plain.varTypes Tryd.prog) (ds ++ gs)).all (· ≤ reachBytes) = true := hsz0
  have hval : ∀ (j : Nat) t v, Tryd.f7.params[j]? = some t → args[j]? = some v → Value.okWide Tryd.prog W .any base t v := hval0
  have hW' := hW
  obtain ⟨p, q, hA0, hV, rfl, hfz, hnd⟩ := hW
  have hA : DataW.TrodAll enc Tryd.prog W 0 (fun _ => true) true Tryd.f7.params.toList args.toList ds p := hA0
  rw [Tryd.params7] at hA hval hsz
  obtain ⟨v0, vs0, d0, ds0, p0, q0, hargs, rfl, rfl, h0, r0⟩ := trodAll_cons hA
  obtain ⟨v1, vs1, d1, ds1, p1, q1, rfl, rfl, rfl, h1, r1⟩ := trodAll_cons r0
  obtain ⟨v2, vs2, d2, ds2, p2, q2, rfl, rfl, rfl, h2, r2⟩ := trodAll_cons r1
  obtain ⟨rfl, rfl, rfl⟩ := trodAll_nil r2
  obtain rfl : args = #[v0, v1, v2] := by cases args; simp_all
  obtain ⟨rfl, rfl⟩ := trodVars_none hV
  have k0 := h0
  have lt0 : ∀ x ∈ p0, x.block < W.heap.size := by obtain ⟨m, hm⟩ := k0; exact DataW.trod_lt m _ _ _ hm
  obtain ⟨A0a, c0a, l0a, A0b, c0b, l0b, i0, A0d, c0d, l0d, rfl, ⟨hr0a, hc0a⟩, ⟨hr0b, hc0b⟩, ⟨hr0d, hc0d⟩, gin0⟩ := Go.Proofs.YtmdjmbdeeodehaaDoor.G.open_gram (hval 0 25 v0 rfl rfl) h0 (Go.Proofs.YtmdjmbdeeodehaaDoorOpen.weigh hsz (j := 0) rfl rfl)
  have k1 := h1
  have lt1 : ∀ x ∈ p1, x.block < W.heap.size := by obtain ⟨m, hm⟩ := k1; exact DataW.trod_lt m _ _ _ hm
  obtain ⟨l1, A1, c1, rfl, gp1, hc1, hr1⟩ := Go.Proofs.YtmdjmbdeeodehaaDoor.G.open_parts (hval 1 51 v1 rfl rfl) h1 (Go.Proofs.YtmdjmbdeeodehaaDoorOpen.weigh hsz (j := 1) rfl rfl)
  have k2 := h2
  have lt2 : ∀ x ∈ p2, x.block < W.heap.size := by obtain ⟨m, hm⟩ := k2; exact DataW.trod_lt m _ _ _ hm
  obtain ⟨l2, A2, c2, rfl, gp2, hc2, hr2⟩ := Go.Proofs.YtmdjmbdeeodehaaDoor.G.open_parts (hval 2 51 v2 rfl rfl) h2 (Go.Proofs.YtmdjmbdeeodehaaDoorOpen.weigh hsz (j := 2) rfl rfl)
  clear hA0 hval0 hsz0 hsz
  refine (Go.Proofs.YtmdjmbdeeodehaaDoor.G.treeTells_calls W (laid_of (by kernel_rfl) laid_in hL) _ _ l0a _ _ l0b i0 _ _ l0d gin0 hc0a hc0b hc0d hr0a hr0b hr0d l1 _ _ gp1 hc1 hr1 l2 _ _ gp2 hc2 hr2).mono fun e W' hpost => ?_
  obtain ⟨he, bel⟩ : e = .returned (.bool true) ∧ Below W.heap.size W W' := hpost
  subst he
  exact ⟨_, rfl, _, _, _, [], _, [], hW', trodAll_mk1 (shut_bool Tryd.underlying4 _), (trodAll_cons_mk (Below.trod laidOut (by kernel_rfl) (of_decide_eq_true (by kernel_rfl)) k0 bel lt0) (trodAll_cons_mk (Below.trod laidOut (by kernel_rfl) (of_decide_eq_true (by kernel_rfl)) k1 bel lt1) (trodAll_cons_mk (Below.trod laidOut (by kernel_rfl) (of_decide_eq_true (by kernel_rfl)) k2 bel lt2) trodAll_mk0))), rfl, bel.frame _, fun h => by cases h⟩
theorem over : Rows.TreeTellsSaid :=
  OpenClaim.holds_of_wide 7 Tryd.f7 rfl rfl rfl rfl rfl rfl rfl ⟨rfl, rfl, rfl, rfl, rfl⟩ rfl rfl rfl rfl rfl (by kernel_rfl) Tryd.func7 (by kernel_rfl)
    (of_decide_eq_true (by kernel_rfl)) (by unfold Func.isWrapper; first | (rw [if_pos (by decide +kernel)]; kernel_rfl) | (rw [if_neg (by decide +kernel)]; exact ⟨rfl, rfl⟩))
    (fun os started H enc _ => lifted os started H enc)
theorem carded : Rows.TreeTellsCardSaid :=
  Claim7.holds_tied_plain_at .later [] [.data, .data, .data] true (true, "0c877ec8b1f63600cbff811b53e1e164aa019ccd5cd30c3b202bac2b752e5ce1") true
    over (fun _ h => by cases h) (by kernel_rfl) (fun _ h => by cases h) treeTells_row_tie rfl ⟨rfl, rfl⟩ (by kernel_rfl) rfl
    (fun f fn hf hfn => by
      obtain rfl : f = 7 := Option.some.inj ((show Tryd.prog.funcNamed Rows.treeTellsRow.func = some 7 by kernel_rfl).symm.trans hf) |>.symm
      obtain rfl : fn = Tryd.f7 := (Option.some.inj (Tryd.func7.symm.trans hfn)).symm
      exact ⟨by kernel_rfl, fun j t ht => by
        rw [Tryd.params7] at ht
        rcases j with _ | j
        · obtain rfl : t = 25 := by simpa using ht.symm
          exact (show Tryd.prog.wantsStandIn 25 = false by kernel_rfl)
        rcases j with _ | j
        · obtain rfl : t = 51 := by simpa using ht.symm
          exact (show Tryd.prog.wantsStandIn 51 = false by kernel_rfl)
        rcases j with _ | j
        · obtain rfl : t = 51 := by simpa using ht.symm
          exact (show Tryd.prog.wantsStandIn 51 = false by kernel_rfl)
        simp at ht⟩)
    (by kernel_rfl)
#print axioms carded
end Go.Proofs.YtmdjmbdeeodehaaDoor.treeTells
namespace Go.Proofs.YtmdjmbdeeodehaaDoor
theorem treeTells_holds : Rows.TreeTellsCardSaid := treeTells.carded
end Go.Proofs.YtmdjmbdeeodehaaDoor
