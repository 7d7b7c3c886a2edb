/- TreeChecks of the law03 answers true for every grammar and every list of parts: the tree that the parts build is told alike by the program and by the document (Check and Root): part 4 of 6 of its proof, packed by a program of this session out of the texts RegT, AppC, TreeB, TreeN, TreeW, TreeF, GRef021. -/
import Derived.Test.YtmdjmbdeeodehaaDoorZTC2
import Derived.OrdersHeld
import Derived.Below
import Derived.KernelRfl
import Derived.Deep.RegionHeld
import Derived.Laws.Append
import Derived.Deep.DeepCutAuto
import Derived.Deep.LoopGhost
import Derived.WalkSpells
import Derived.Deep.RegionHeld3
import Derived.Deep.QuietTactic
import Derived.BigQuiet
section
set_option linter.unusedVariables false
set_option linter.unusedSimpArgs false
namespace Go.Proofs.YtmdjmbdeeodehaaDoor.RegT
open Go Go.RowKit
def fv (f : Tmp → Value) : Option Tmp → Value
  | some d => f d
  | none => undef
def fillIn (f : Tmp → Value) : List Oper → Act → Act
  | [], a => a
  | o :: l, a => fillIn f l (a.put o.dst (fv f o.dst))
theorem put_tmps_size (a : Act) (d : Option Tmp) (v : Value) : (a.put d v).tmps.size = a.tmps.size := by cases d <;> simp [Act.put]
theorem put_defers (a : Act) (d : Option Tmp) (v : Value) : (a.put d v).defers = a.defers := by cases d <;> rfl
theorem put_at (a : Act) (d : Option Tmp) (v : Value) (t : Tmp) (h : d ≠ some t) : (a.put d v).tmps[t]? = a.tmps[t]? := by
  cases d with
  | none => rfl
  | some d => simp only [Act.put]; rw [Array.getElem?_setIfInBounds_ne]; intro e; exact h (by rw [e])
theorem put_same (a : Act) (t : Tmp) (v : Value) (h : t < a.tmps.size) : (a.put (some t) v).tmps[t]? = some v := by
  simp only [Act.put]; rw [Array.getElem?_setIfInBounds_self_of_lt h]
theorem fillIn_size (f : Tmp → Value) : ∀ (l : List Oper) (a : Act), (fillIn f l a).tmps.size = a.tmps.size
  | [], a => rfl
  | o :: l, a => by rw [fillIn, fillIn_size f l, put_tmps_size]
theorem fillIn_defers (f : Tmp → Value) : ∀ (l : List Oper) (a : Act), (fillIn f l a).defers = a.defers
  | [], a => rfl
  | o :: l, a => by rw [fillIn, fillIn_defers f l, put_defers]
theorem fillIn_out (f : Tmp → Value) (t : Tmp) : ∀ (l : List Oper) (a : Act), (∀ o ∈ l, o.dst ≠ some t) → (fillIn f l a).tmps[t]? = a.tmps[t]?
  | [], a, _ => rfl
  | o :: l, a, h => by rw [fillIn, fillIn_out f t l _ (fun o ho => h o (List.mem_cons_of_mem _ ho)), put_at _ _ _ _ (h o List.mem_cons_self)]
theorem fillIn_in (f : Tmp → Value) (t : Tmp) : ∀ (l : List Oper) (a : Act), t < a.tmps.size → (a.tmps[t]? = some (f t) ∨ ∃ o ∈ l, o.dst = some t) → (fillIn f l a).tmps[t]? = some (f t)
  | [], a, _, h => by
    rcases h with h | ⟨o, ho, _⟩
    · exact h
    · cases ho
  | o :: l, a, hs, h => by
    rw [fillIn]
    apply fillIn_in f t l _ (by rw [put_tmps_size]; exact hs)
    by_cases hd : o.dst = some t
    · left; rw [hd]; exact put_same a t (f t) hs
    · rcases h with h | ⟨o', ho, he⟩
      · left; rw [put_at _ _ _ _ hd]; exact h
      · rcases List.mem_cons.1 ho with rfl | ho
        · exact absurd he hd
        · exact Or.inr ⟨o', ho, he⟩
structure Same (l : List Oper) (a0 a : Act) : Prop where
  n : a.tmps.size = a0.tmps.size
  d : a.defers = a0.defers
  t : ∀ t, (∀ o ∈ l, o.dst ≠ some t) → a.tmps[t]? = a0.tmps[t]?
theorem Same.fill {l : List Oper} {a0 a : Act} (h : Same l a0 a) : a = fillIn (fun d => a.tmps.getD d undef) l a0 := by
  have h1 : a.tmps = (fillIn (fun d => a.tmps.getD d undef) l a0).tmps := by
    apply Array.ext_getElem?
    intro t
    by_cases hlt : t < a0.tmps.size
    · by_cases hd : ∃ o ∈ l, o.dst = some t
      · rw [fillIn_in _ t l a0 hlt (Or.inr hd)]
        rw [Array.getElem?_eq_getElem (by rw [h.n]; exact hlt)]
        simp [Array.getD, h.n, hlt]
      · have hd2 : ∀ o ∈ l, o.dst ≠ some t := fun o ho he => hd ⟨o, ho, he⟩
        rw [fillIn_out _ t l a0 hd2, h.t t hd2]
    · rw [Array.getElem?_eq_none (by rw [h.n]; omega), Array.getElem?_eq_none (by rw [fillIn_size]; omega)]
  have h2 := fillIn_defers (fun d => a.tmps.getD d undef) l a0
  generalize fillIn (fun d => a.tmps.getD d undef) l a0 = b at *
  obtain ⟨at_, ad⟩ := a
  obtain ⟨bt, bd⟩ := b
  have h3 := h.d
  simp only at h1 h2 h3
  rw [h1, h3, h2]
def aheadB (ops : Array Oper) : Bool := (List.range ops.size).all fun i => match ops[i]? with
  | some o => o.after.all fun e => !Region.binds .any e || decide (e.on < i)
  | none => true
def dsts (ops : Array Oper) : List Tmp := ops.toList.filterMap (·.dst)
def apartB : List Tmp → Bool
  | [] => true
  | t :: l => !l.contains t && apartB l
section
variable {P : Program} {ops : Array Oper} {Q : Exit → Act → World → Prop}
def deps (ops : Array Oper) (o : Oper) : List (Nat × Tmp) := o.after.toList.filterMap fun e => if Region.binds .any e = true then ((ops[e.on]?).bind (·.dst)).map fun d => (e.on, d) else none
def DepAll (R : Nat → Value → World → Prop) (f : Tmp → Value) (w : World) : List (Nat × Tmp) → Prop
  | [] => True
  | p :: l => R p.1 (f p.2) w ∧ DepAll R f w l
theorem depAll_of {R : Nat → Value → World → Prop} {f : Tmp → Value} {w : World} : ∀ {l : List (Nat × Tmp)}, (∀ p ∈ l, R p.1 (f p.2) w) → DepAll R f w l
  | [], _ => trivial
  | p :: l, h => ⟨h p List.mem_cons_self, depAll_of (fun q hq => h q (List.mem_cons_of_mem _ hq))⟩
def Ob (P : Program) (ops : Array Oper) (Q : Exit → Act → World → Prop) (S : World → Prop) (R : Nat → Value → World → Prop) (F : (Tmp → Value) → Act) (i : Nat) (o : Oper) : Prop :=
  ∀ (f : Tmp → Value) (w : World), S w → DepAll R f w (deps ops o) →
    ∀ K : Act → World → Prop, Shut (∀ v w', S w' → Below w.heap.size w w' → R i v w' → ∀ a', a' = (F f).put o.dst v → K a' w') →
      if Region.wanted o (yielded ops (F f).tmps) = true then Oper.wp P o (F f) w K Q else K ((F f).put o.dst undef) w
theorem apart_nodup : ∀ {l : List Tmp}, apartB l = true → l.Nodup
  | [], _ => List.nodup_nil
  | t :: l, h => by
    simp only [apartB, Bool.and_eq_true, Bool.not_eq_true'] at h
    exact List.nodup_cons.2 ⟨fun hm => by have := List.contains_iff_mem.2 hm; rw [this] at h; exact absurd h.1 (by decide), apart_nodup h.2⟩
theorem dst_apart_aux : ∀ (l : List Oper) (i j : Nat) (x y : Oper) (d : Tmp), (l.filterMap (·.dst)).Nodup → l[i]? = some x → l[j]? = some y → x.dst = some d → y.dst = some d → i = j
  | [], i, j, x, y, d, _, hi, _, _, _ => by simp at hi
  | o :: l, 0, 0, x, y, d, _, _, _, _, _ => rfl
  | o :: l, 0, j + 1, x, y, d, hn, hi, hj, hx, hy => by
    simp only [List.getElem?_cons_zero, Option.some.injEq] at hi
    simp only [List.getElem?_cons_succ] at hj
    subst hi
    rw [List.filterMap_cons_some hx] at hn
    exact absurd (List.mem_filterMap.2 ⟨y, List.mem_of_getElem? hj, hy⟩) (List.nodup_cons.1 hn).1
  | o :: l, i + 1, 0, x, y, d, hn, hi, hj, hx, hy => by
    simp only [List.getElem?_cons_zero, Option.some.injEq] at hj
    simp only [List.getElem?_cons_succ] at hi
    subst hj
    rw [List.filterMap_cons_some hy] at hn
    exact absurd (List.mem_filterMap.2 ⟨x, List.mem_of_getElem? hi, hx⟩) (List.nodup_cons.1 hn).1
  | o :: l, i + 1, j + 1, x, y, d, hn, hi, hj, hx, hy => by
    simp only [List.getElem?_cons_succ] at hi hj
    have h2 : (l.filterMap (·.dst)).Nodup := by
      cases hd : o.dst with
      | none => rwa [List.filterMap_cons_none hd] at hn
      | some t => rw [List.filterMap_cons_some hd] at hn; exact (List.nodup_cons.1 hn).2
    rw [dst_apart_aux l i j x y d h2 hi hj hx hy]
theorem dst_apart (h : apartB (dsts ops) = true) {i j : Nat} {x y : Oper} {d : Tmp} (hi : ops[i]? = some x) (hj : ops[j]? = some y) (hx : x.dst = some d) (hy : y.dst = some d) : i = j :=
  dst_apart_aux ops.toList i j x y d (apart_nodup h) (by simpa using hi) (by simpa using hj) hx hy
structure J (pl : List Oper) (ops : Array Oper) (S : World → Prop) (R : Nat → Value → World → Prop) (a0 : Act) (listed : Array Bool) (a : Act) (w : World) : Prop where
  same : Same pl a0 a
  s : S w
  r : ∀ i o d, ops[i]? = some o → o.dst = some d → listed.getD i false = true → R i (a.tmps.getD d undef) w
theorem J.step {E : World → World → Prop} {pl : List Oper} {S : World → Prop} {R : Nat → Value → World → Prop} {a0 a : Act} {listed : Array Bool} {w w' : World} (hap : apartB (dsts ops) = true) (hin : (dsts ops).all (· < a0.tmps.size) = true)
    (hR : ∀ i v w w', R i v w → E w w' → R i v w') (h : J pl ops S R a0 listed a w) {i : Nat} {o : Oper} (hi : ops[i]? = some o) (hpl : o ∈ pl) (hlen : listed.size = ops.size) {v : Value} (hS : S w') (hb : E w w') (hv : R i v w') :
    J pl ops S R a0 (listed.setIfInBounds i true) (a.put o.dst v) w' := by
  refine ⟨⟨by rw [put_tmps_size]; exact h.same.n, by rw [put_defers]; exact h.same.d, fun t ht => ?_⟩, hS, fun j oj d hj hd hl => ?_⟩
  · rw [put_at _ _ _ _ (ht o hpl)]; exact h.same.t t ht
  · by_cases hij : i = j
    · subst hij
      rw [hi] at hj
      obtain rfl := Option.some.inj hj
      have hlt : d < a0.tmps.size := by
        have := List.all_eq_true.1 hin d (List.mem_filterMap.2 ⟨o, Array.mem_toList_iff.2 (Array.mem_of_getElem? hi), hd⟩)
        exact of_decide_eq_true this
      have h2 : (a.put o.dst v).tmps.getD d undef = v := by
        rw [hd, Array.getD_eq_getD_getElem?, put_same a d v (by rw [h.same.n]; exact hlt)]; rfl
      rw [h2]; exact hv
    · have hne : o.dst ≠ some d := fun he => hij (dst_apart hap hi hj he hd)
      have h2 : (a.put o.dst v).tmps.getD d undef = a.tmps.getD d undef := by
        rw [Array.getD_eq_getD_getElem?, put_at _ _ _ _ hne, Array.getD_eq_getD_getElem?]
      rw [h2]
      exact hR _ _ _ _ (h.r j oj d hj hd (by rw [getD_set_ne false hij] at hl; exact hl)) hb
theorem count_set_true (l : List Bool) (i : Nat) (h : l[i]? = some false) : (l.set i true).count false + 1 = l.count false := by
  induction l generalizing i with
  | nil => simp at h
  | cons b l ih =>
    cases i with
    | zero =>
      simp only [List.getElem?_cons_zero, Option.some.injEq] at h
      subst h
      simp
    | succ i =>
      simp only [List.getElem?_cons_succ] at h
      have := ih i h
      simp only [List.set_cons_succ, List.count_cons]
      omega
theorem any_of {S : World → Prop} {R : Nat → Value → World → Prop} {a0 : Act} {F : (Tmp → Value) → Act} (hF : ∀ f, fillIn f ops.toList a0 = F f) (hap : apartB (dsts ops) = true) (hin : (dsts ops).all (· < a0.tmps.size) = true) (hah : aheadB ops = true)
    (hR : ∀ i v w w', R i v w → Below w.heap.size w w' → R i v w')
    (hops : ∀ i o, ops[i]? = some o → Ob P ops Q S R F i o)
    (hend : ∀ (f : Tmp → Value) (w : World), S w → (∀ i o d, ops[i]? = some o → o.dst = some d → R i (f d) w) → Q .normal (F f) w) :
    ∀ (fuel : Nat) (listed : Array Bool) (a : Act) (w : World), listed.size = ops.size → listed.toList.count false = fuel → J ops.toList ops S R a0 listed a w → wpAny P .any ops Q fuel listed a w := by
  have hfin : ∀ (listed : Array Bool) (a : Act) (w : World), listed.size = ops.size → listed.toList.count false = 0 → J ops.toList ops S R a0 listed a w → Q .normal a w := by
    intro listed a w hl hc hJ
    have hall : ∀ i, i < ops.size → listed.getD i false = true := fun i hi => by
      have h1 : listed[i]'(by omega) ∈ listed.toList := by simp
      have h2 : listed[i]'(by omega) ≠ false := fun he => List.count_eq_zero.1 hc (he ▸ h1)
      rw [Array.getD_eq_getD_getElem?, Array.getElem?_eq_getElem (by omega)]
      simpa using h2
    rw [hJ.same.fill, hF]
    exact hend _ w hJ.s (fun i o d hi hd => hJ.r i o d hi hd (hall i (Array.getElem?_eq_some_iff.1 hi).1))
  intro fuel
  induction fuel with
  | zero =>
    intro listed a w hl hc hJ
    refine ⟨?_, hfin listed a w hl hc hJ⟩
    rw [List.eq_nil_iff_forall_not_mem]
    intro i hi
    obtain ⟨h1, o, ho, _⟩ := mem_ready.1 hi
    have hlt := (Array.getElem?_eq_some_iff.1 ho).1
    rw [Array.getD_eq_getD_getElem?, Array.getElem?_eq_getElem (by omega)] at h1
    have h2 : listed[i]'(by omega) ∈ listed.toList := by simp
    have h3 : listed[i]'(by omega) = false := by simpa using h1
    exact List.count_eq_zero.1 hc (h3 ▸ h2)
  | succ fuel ih =>
    intro listed a w hl hc hJ
    have hne : Region.ready .any ops listed ≠ [] := by
      intro he
      have hm : ∀ n i, i < n → i < ops.size → listed.getD i false = true := by
        intro n
        induction n with
        | zero => intro i hi; omega
        | succ n ihn =>
          intro i hi hio
          by_cases hlt : i < n
          · exact ihn i hlt hio
          · obtain rfl : i = n := by omega
            cases hg : listed.getD i false with
            | true => rfl
            | false =>
              exfalso
              have hmem : i ∈ Region.ready .any ops listed := by
                refine mem_ready.2 ⟨?_, ops[i], Array.getElem?_eq_getElem hio, fun e hem hbe => ?_⟩
                · rw [Array.getD_eq_getD_getElem?, Array.getElem?_eq_getElem (by omega)] at hg ⊢; exact hg
                · have h1 := List.all_eq_true.1 hah i (List.mem_range.2 hio)
                  rw [Array.getElem?_eq_getElem hio] at h1
                  have h2 := Array.all_eq_true_iff_forall_mem.1 h1 e hem
                  rw [hbe] at h2
                  have h3 : e.on < i := by simpa using h2
                  exact ihn e.on h3 (by omega)
              rw [he] at hmem
              cases hmem
      have h0 : listed.toList.count false = 0 := by
        rw [List.count_eq_zero]
        intro hmem
        obtain ⟨i, hi, hv⟩ := List.getElem_of_mem hmem
        have hi2 : i < ops.size := by simp at hi; omega
        have := hm (i + 1) i (by omega) hi2
        rw [Array.getD_eq_getD_getElem?, Array.getElem?_eq_getElem (by omega)] at this
        simp at hv this
        rw [hv] at this
        cases this
      omega
    refine ⟨fun he => absurd he hne, fun i hi => ?_⟩
    obtain ⟨h1, o, ho, hall⟩ := mem_ready.1 hi
    have hlt := (Array.getElem?_eq_some_iff.1 ho).1
    have hfill := hJ.same.fill
    rw [hF] at hfill
    have hob := hops i o ho (fun d => a.tmps.getD d undef) w hJ.s (depAll_of (fun p hp => by
        obtain ⟨e, he, hp⟩ := List.mem_filterMap.1 hp
        split at hp
        · rename_i hb
          obtain ⟨d, hd, rfl⟩ := Option.map_eq_some_iff.1 hp
          obtain ⟨o', ho', hd'⟩ := Option.bind_eq_some_iff.1 hd
          exact hJ.r e.on o' d ho' hd' (hall e (by simpa using he) hb)
        · cases hp))
      (fun a' w' => wpAny P .any ops Q fuel (listed.setIfInBounds i true) a' w') (by
        intro v w' hS hb hv a' ha'
        rw [ha', ← hfill]
        refine ih _ _ _ (by simpa using hl) ?_ (hJ.step hap hin hR ho (Array.mem_toList_iff.2 (Array.mem_of_getElem? ho)) hl hS hb hv)
        have := count_set_true listed.toList i (by
          rw [Array.getD_eq_getD_getElem?, Array.getElem?_eq_getElem (by omega)] at h1
          simp at h1
          simp [List.getElem?_eq_getElem, h1, hl, hlt])
        simp only [Array.toList_setIfInBounds]
        omega)
    rw [← hfill] at hob
    unfold wpOp
    rw [ho]
    simp only
    split
    · rename_i hw; rw [if_pos hw] at hob; exact Or.inl hob
    · rename_i hw; rw [if_neg hw] at hob; exact hob
def All (Ob : Nat → Oper → Prop) : Nat → List Oper → Prop
  | _, [] => True
  | i, o :: l => Ob i o ∧ All Ob (i + 1) l
theorem all_of {Ob : Nat → Oper → Prop} : ∀ (l : List Oper) (k : Nat), All Ob k l → ∀ i o, l[i]? = some o → Ob (k + i) o
  | [], _, _, i, o, h => by simp at h
  | x :: l, k, ha, 0, o, h => by simp only [List.getElem?_cons_zero, Option.some.injEq] at h; subst h; exact ha.1
  | x :: l, k, ha, i + 1, o, h => by
    simp only [List.getElem?_cons_succ] at h
    have := all_of l (k + 1) ha.2 i o h
    rwa [show k + 1 + i = k + (i + 1) by omega] at this
theorem all_ops {Ob : Nat → Oper → Prop} (l : List Oper) (h : All Ob 0 l) : ∀ i o, l.toArray[i]? = some o → Ob i o := fun i o hi => by
  have := all_of l 0 h i o (by simpa using hi)
  rwa [Nat.zero_add] at this
theorem region (S : World → Prop) (R : Nat → Value → World → Prop) {l : List Oper} {a0 : Act} {w0 : World} {id : Nat} {F : (Tmp → Value) → Act} (hF : ∀ f, fillIn f l a0 = F f) (hm : P.follows .mixedOrders = true) (hap : apartB (dsts l.toArray) = true) (hin : (dsts l.toArray).all (· < a0.tmps.size) = true) (hah : aheadB l.toArray = true)
    (hR : ∀ i v w w', R i v w → Below w.heap.size w w' → R i v w') (hS : S w0.drew)
    (hops : All (Ob P l.toArray Q S R F) 0 l)
    (hend : ∀ (f : Tmp → Value) (w : World), S w → (∀ i o d, l.toArray[i]? = some o → o.dst = some d → R i (f d) w) → Q .normal (F f) w) : (Code.region id l.toArray true).wp P Q a0 w0 := by
  refine wp_region_any hm (any_of (S := S) (R := R) (a0 := a0) (F := F) (by simpa using hF) hap hin hah hR (all_ops l hops) hend l.toArray.size _ a0 w0.drew (by simp) (by simp) ⟨⟨rfl, rfl, fun _ _ => rfl⟩, hS, fun i o d hi hd hl => ?_⟩)
  exfalso
  have hlt := (Array.getElem?_eq_some_iff.1 hi).1
  rw [Array.getD_eq_getD_getElem?, Array.getElem?_replicate, if_pos hlt] at hl
  cases hl
end
section
variable {P : Program} {ops : Array Oper} {Q : Exit → Act → World → Prop}
def direct (ops : Array Oper) (i : Nat) : List Nat := match ops[i]? with
  | some o => o.after.toList.filterMap fun e => if Region.binds .any e then some e.on else none
  | none => []
def sweep (ops : Array Oper) : Nat → List Nat → List Nat
  | 0, A => A
  | k + 1, A => if A.contains k then sweep ops k (direct ops k ++ A) else sweep ops k A
def tailB (ops : Array Oper) (m : Nat) : Bool := (List.range ops.size).all fun i => decide (i < m) || (let A := sweep ops i (direct ops i); (List.range i).all fun j => A.contains j)
theorem sweep_in {L : Nat → Prop} (hc : ∀ k, L k → ∀ j ∈ direct ops k, L j) : ∀ (n : Nat) (A : List Nat), (∀ j ∈ A, L j) → ∀ j ∈ sweep ops n A, L j
  | 0, A, h => h
  | k + 1, A, h => by
    simp only [sweep]
    split
    · rename_i hk
      have hL : L k := h k (by simpa using hk)
      exact sweep_in hc k _ (fun j hj => by
        rcases List.mem_append.1 hj with h1 | h1
        · exact hc k hL j h1
        · exact h j h1)
    · exact sweep_in hc k _ h
theorem mem_direct {i j : Nat} {o : Oper} (ho : ops[i]? = some o) : j ∈ direct ops i ↔ ∃ e ∈ o.after, Region.binds .any e = true ∧ e.on = j := by
  unfold direct
  rw [ho]
  simp only [List.mem_filterMap, Array.mem_toList_iff]
  constructor
  · rintro ⟨e, he, h⟩
    split at h
    · rename_i hb; exact ⟨e, he, hb, Option.some.inj h⟩
    · cases h
  · rintro ⟨e, he, hb, rfl⟩
    exact ⟨e, he, by rw [if_pos hb]⟩
theorem tail_spec {m i : Nat} {o : Oper} {L : Nat → Prop} (h : tailB ops m = true) (ho : ops[i]? = some o) (hm : m ≤ i) (hc : ∀ k ok, ops[k]? = some ok → L k → ∀ e ∈ ok.after, Region.binds .any e = true → L e.on) (hi : ∀ e ∈ o.after, Region.binds .any e = true → L e.on) : ∀ j, j < i → L j := fun j hj => by
  have h1 := List.all_eq_true.1 h i (List.mem_range.2 (Array.getElem?_eq_some_iff.1 ho).1)
  simp only [Bool.or_eq_true, decide_eq_true_eq] at h1
  rcases h1 with h1 | h1
  · omega
  · have h2 := List.all_eq_true.1 h1 j (List.mem_range.2 hj)
    refine sweep_in (ops := ops) (L := L) (fun k hk x hx => ?_) i (direct ops i) (fun x hx => ?_) j (by simpa using h2)
    · cases hk2 : ops[k]? with
      | none => unfold direct at hx; rw [hk2] at hx; cases hx
      | some ok =>
        obtain ⟨e, he, hb, rfl⟩ := (mem_direct hk2).1 hx
        exact hc k ok hk2 hk e he hb
    · obtain ⟨e, he, hb, rfl⟩ := (mem_direct ho).1 hx
      exact hi e he hb
theorem ahead_spec {i : Nat} {o : Oper} (h : aheadB ops = true) (ho : ops[i]? = some o) {e : Edge} (he : e ∈ o.after) (hb : Region.binds .any e = true) : e.on < i := by
  have h1 := List.all_eq_true.1 h i (List.mem_range.2 (Array.getElem?_eq_some_iff.1 ho).1)
  rw [ho] at h1
  have h2 := Array.all_eq_true_iff_forall_mem.1 h1 e he
  rw [hb] at h2
  simpa using h2
theorem tail_run {m : Nat} (ht : tailB ops m = true) (hah : aheadB ops = true) : ∀ (d i : Nat) (listed : Array Bool) (a : Act) (w : World), i + d = ops.size → m ≤ i → listed.size = ops.size → (∀ j, j < ops.size → (listed.getD j false = true ↔ j < i)) → wpOps P ops Q (List.range' i d) a w → wpAny P .any ops Q d listed a w := by
  intro d
  induction d with
  | zero =>
    intro i listed a w hi hm hl hL h
    refine ⟨?_, by simpa [wpOps] using h⟩
    rw [List.eq_nil_iff_forall_not_mem]
    intro j hj
    obtain ⟨h1, o, ho, _⟩ := mem_ready.1 hj
    have hlt := (Array.getElem?_eq_some_iff.1 ho).1
    have h2 := (hL j hlt).2 (by omega)
    rw [Array.getD_eq_getD_getElem?, Array.getElem?_eq_getElem (by omega)] at h1 h2
    simp only [Option.getD_some] at h1 h2
    rw [h1] at h2; cases h2
  | succ d ih =>
    intro i listed a w hi hm hl hL h
    have hilt : i < ops.size := by omega
    have hun : ∀ j, j < ops.size → ¬ j < i → listed.getD j true = false := fun j hj hn => by
      have h1 : ¬ listed.getD j false = true := fun he => hn ((hL j hj).1 he)
      rw [Array.getD_eq_getD_getElem?, Array.getElem?_eq_getElem (by omega)] at h1 ⊢
      simpa using h1
    rw [List.range'_succ, wpOps_cons] at h
    have hready : ∀ j, j ∈ Region.ready .any ops listed → j = i := fun j hj => by
      obtain ⟨h1, o, ho, hall⟩ := mem_ready.1 hj
      have hlt := (Array.getElem?_eq_some_iff.1 ho).1
      have hge : ¬ j < i := fun hji => by
        have h2 := (hL j hlt).2 hji
        rw [Array.getD_eq_getD_getElem?, Array.getElem?_eq_getElem (by omega)] at h1 h2
        simp only [Option.getD_some] at h1 h2
        rw [h1] at h2; cases h2
      rcases Nat.lt_or_ge i j with hij | hij
      · exfalso
        have h3 := tail_spec (L := fun x => listed.getD x false = true) ht ho (by omega) (fun k ok hk hlk e he hb => by
          have hklt := (Array.getElem?_eq_some_iff.1 hk).1
          have h5 := ahead_spec hah hk he hb
          have h6 := (hL k hklt).1 hlk
          exact (hL e.on (by omega)).2 (by omega)) hall i hij
        have := (hL i hilt).1 h3
        omega
      · omega
    have hmem : i ∈ Region.ready .any ops listed := by
      refine mem_ready.2 ⟨hun i hilt (by omega), ops[i], Array.getElem?_eq_getElem hilt, fun e he hb => ?_⟩
      have h1 := List.all_eq_true.1 hah i (List.mem_range.2 hilt)
      rw [Array.getElem?_eq_getElem hilt] at h1
      have h2 := Array.all_eq_true_iff_forall_mem.1 h1 e he
      rw [hb] at h2
      have h3 : e.on < i := by simpa using h2
      exact (hL e.on (by omega)).2 h3
    refine ⟨fun he => (by rw [he] at hmem; cases hmem), fun j hj => ?_⟩
    obtain rfl := hready j hj
    refine wpOp_mono (fun a' w' h' => ih (j + 1) _ a' w' (by omega) (by omega) (by simpa using hl) (fun x hx => ?_) h') h
    by_cases hxj : j = x
    · subst hxj
      refine ⟨fun _ => by omega, fun _ => ?_⟩
      rw [Array.getD_eq_getD_getElem?, Array.getElem?_setIfInBounds_self_of_lt (by omega)]; rfl
    · rw [getD_set_ne false hxj, hL x hx]; omega
def nth (Rs : List (Value → World → Prop)) (i : Nat) : Value → World → Prop := Rs.getD i (fun _ _ => True)
def Stab (E : World → World → Prop) (R : Value → World → Prop) : Prop := ∀ v w w', R v w → E w w' → R v w'
def Stabs (E : World → World → Prop) : List (Value → World → Prop) → Prop
  | [] => True
  | R :: l => Stab E R ∧ Stabs E l
theorem stab_nth {E : World → World → Prop} : ∀ {Rs : List (Value → World → Prop)}, Stabs E Rs → ∀ i v w w', nth Rs i v w → E w w' → nth Rs i v w'
  | [], _, i, v, w, w', _, _ => by simp [nth]
  | R :: l, h, 0, v, w, w', hr, hb => h.1 v w w' hr hb
  | R :: l, h, i + 1, v, w, w', hr, hb => stab_nth (Rs := l) h.2 i v w w' hr hb
def blS : Value → Option Nat
  | .slice (some a) n _ => if n = 0 then none else some a.block
  | _ => none
def blP : Value → Option Nat
  | .pointer (some a) => some a.block
  | _ => none
def blL (i : Nat) : Value → Option Nat
  | .agg cs => blS (cs.getD i undef)
  | _ => none
def ObB (E : World → World → Prop) (P : Program) (ops : Array Oper) (Q : Exit → Act → World → Prop) (S : World → Prop) (R : Nat → Value → World → Prop) (bl : Nat → Value → Option Nat) (nw : Nat → Bool) (F : (Tmp → Value) → Act) (i : Nat) (o : Oper) : Prop :=
  ∀ (f : Tmp → Value) (w : World), S w → DepAll R f w (deps ops o) →
    ∀ K : Act → World → Prop, Shut (∀ v w', S w' → E w w' → R i v w' → (∀ k, bl i v = some k → (w.heap.size ≤ k ∧ k < w'.heap.size) ∨ (nw i = false ∧ ∃ p ∈ deps ops o, nw p.1 = false ∧ bl p.1 (f p.2) = some k)) → ∀ a', a' = (F f).put o.dst v → K a' w') →
      if Region.wanted o (yielded ops (F f).tmps) = true then Oper.wp P o (F f) w K Q else K ((F f).put o.dst undef) w
structure JB (pl : List Oper) (ops : Array Oper) (S : World → Prop) (R : Nat → Value → World → Prop) (bl : Nat → Value → Option Nat) (nw : Nat → Bool) (a0 : Act) (listed : Array Bool) (a : Act) (w : World) : Prop extends J pl ops S R a0 listed a w where
  rn : ∀ i o, ops[i]? = some o → o.dst = none → listed.getD i false = true → ∃ v, R i v w
  cl : ∀ i o, ops[i]? = some o → listed.getD i false = true → ∀ e ∈ o.after, Region.binds .any e = true → listed.getD e.on false = true
  fr : ∀ i o d k, ops[i]? = some o → o.dst = some d → listed.getD i false = true → bl i (a.tmps.getD d undef) = some k → k < w.heap.size
  ap : ∀ i j o o' d d' k, i ≠ j → nw j = true → ops[i]? = some o → ops[j]? = some o' → o.dst = some d → o'.dst = some d' → listed.getD i false = true → listed.getD j false = true → bl i (a.tmps.getD d undef) = some k → bl j (a.tmps.getD d' undef) ≠ some k
theorem JB.stepB {E : World → World → Prop} (hE : ∀ w w', E w w' → w.heap.size ≤ w'.heap.size) {pl : List Oper} {S : World → Prop} {R : Nat → Value → World → Prop} {bl : Nat → Value → Option Nat} {nw : Nat → Bool} {a0 a : Act} {listed : Array Bool} {w w' : World} (hap : apartB (dsts ops) = true) (hin : (dsts ops).all (· < a0.tmps.size) = true)
    (hR : ∀ i v w w', R i v w → E w w' → R i v w') (h : JB pl ops S R bl nw a0 listed a w) {i : Nat} {o : Oper} (hi : ops[i]? = some o) (hpl : o ∈ pl) (hlen : listed.size = ops.size) {v : Value} (hS : S w') (hb : E w w') (hv : R i v w') (hk : ∀ k, bl i v = some k → (w.heap.size ≤ k ∧ k < w'.heap.size) ∨ (nw i = false ∧ ∃ p ∈ deps ops o, nw p.1 = false ∧ bl p.1 (a.tmps.getD p.2 undef) = some k)) (hdep : ∀ p ∈ deps ops o, ∃ o', ops[p.1]? = some o' ∧ o'.dst = some p.2 ∧ listed.getD p.1 false = true) (hal : ∀ e ∈ o.after, Region.binds .any e = true → listed.getD e.on false = true) :
    JB pl ops S R bl nw a0 (listed.setIfInBounds i true) (a.put o.dst v) w' := by
  have hself : ∀ d, o.dst = some d → (a.put o.dst v).tmps.getD d undef = v := fun d hd => by
    have hlt : d < a0.tmps.size := by
      have := List.all_eq_true.1 hin d (List.mem_filterMap.2 ⟨o, Array.mem_toList_iff.2 (Array.mem_of_getElem? hi), hd⟩)
      exact of_decide_eq_true this
    rw [hd, Array.getD_eq_getD_getElem?, put_same a d v (by rw [h.same.n]; exact hlt)]; rfl
  have hother : ∀ j oj d, ops[j]? = some oj → oj.dst = some d → i ≠ j → (a.put o.dst v).tmps.getD d undef = a.tmps.getD d undef := fun j oj d hj hd hij => by
    have hne : o.dst ≠ some d := fun he => hij (dst_apart hap hi hj he hd)
    rw [Array.getD_eq_getD_getElem?, put_at _ _ _ _ hne, Array.getD_eq_getD_getElem?]
  have hset : ∀ x, listed.getD x false = true → (listed.setIfInBounds i true).getD x false = true := fun x hx => by
    by_cases hix : i = x
    · subst hix
      have hlt := (Array.getElem?_eq_some_iff.1 hi).1
      rw [Array.getD_eq_getD_getElem?, Array.getElem?_setIfInBounds_self_of_lt (by omega)]; rfl
    · rw [getD_set_ne false hix]; exact hx
  refine ⟨h.toJ.step hap hin hR hi hpl hlen hS hb hv, fun j oj hj hd hl => ?_, fun j oj hj hl e he hbe => ?_, fun j oj d k hj hd hl hbl => ?_, fun x y ox oy dx dy k hxy hny hx hy hdx hdy hlx hly hbl => ?_⟩
  · by_cases hij : i = j
    · subst hij
      exact ⟨v, hv⟩
    · obtain ⟨v', hv'⟩ := h.rn j oj hj hd (by rw [getD_set_ne false hij] at hl; exact hl)
      exact ⟨v', hR _ _ _ _ hv' hb⟩
  · by_cases hij : i = j
    · subst hij
      rw [hi] at hj
      obtain rfl := Option.some.inj hj
      exact hset _ (hal e he hbe)
    · exact hset _ (h.cl j oj hj (by rw [getD_set_ne false hij] at hl; exact hl) e he hbe)
  · by_cases hij : i = j
    · subst hij
      rw [hi] at hj
      obtain rfl := Option.some.inj hj
      rw [hself d hd] at hbl
      rcases hk k hbl with h1 | ⟨-, p, hp, -, hbp⟩
      · exact h1.2
      · obtain ⟨o', ho', hd', hl'⟩ := hdep p hp
        have := h.fr p.1 o' p.2 k ho' hd' hl' hbp
        have := hE _ _ hb
        omega
    · rw [hother j oj d hj hd hij] at hbl
      have := h.fr j oj d k hj hd (by rw [getD_set_ne false hij] at hl; exact hl) hbl
      have := hE _ _ hb
      omega
  · by_cases hix : i = x
    · subst hix
      rw [hi] at hx
      obtain rfl := Option.some.inj hx
      rw [hself dx hdx] at hbl
      rw [hother y oy dy hy hdy hxy]
      intro hby
      have hly' : listed.getD y false = true := by rw [getD_set_ne false hxy] at hly; exact hly
      rcases hk k hbl with h2 | ⟨-, p, hp, hnp, hbp⟩
      · have h1 := h.fr y oy dy k hy hdy hly' hby
        omega
      · obtain ⟨o', ho', hd', hl'⟩ := hdep p hp
        have hpy : p.1 ≠ y := fun e => by rw [e, hny] at hnp; cases hnp
        exact h.ap p.1 y o' oy p.2 dy k hpy hny ho' hy hd' hdy hl' hly' hbp hby
    · rw [hother x ox dx hx hdx hix] at hbl
      by_cases hiy : i = y
      · subst hiy
        rw [hi] at hy
        obtain rfl := Option.some.inj hy
        rw [hself dy hdy]
        intro hby
        have h1 := h.fr x ox dx k hx hdx (by rw [getD_set_ne false hix] at hlx; exact hlx) hbl
        rcases hk k hby with h2 | ⟨h2, -⟩
        · omega
        · rw [hny] at h2; cases h2
      · rw [hother y oy dy hy hdy hiy]
        exact h.ap x y ox oy dx dy k hxy hny hx hy hdx hdy (by rw [getD_set_ne false hix] at hlx; exact hlx) (by rw [getD_set_ne false hiy] at hly; exact hly) hbl
theorem anyT_of {E : World → World → Prop} (hE : ∀ w w', E w w' → w.heap.size ≤ w'.heap.size) {S : World → Prop} {R : Nat → Value → World → Prop} {bl : Nat → Value → Option Nat} {nw : Nat → Bool} {a0 : Act} {F : (Tmp → Value) → Act} {m : Nat} (hmn : m ≤ ops.size) (hF : ∀ f, fillIn f (ops.toList.take m) a0 = F f) (hap : apartB (dsts ops) = true) (hin : (dsts ops).all (· < a0.tmps.size) = true) (hah : aheadB ops = true) (ht : tailB ops m = true)
    (hR : ∀ i v w w', R i v w → E w w' → R i v w')
    (hops : ∀ i o, i < m → ops[i]? = some o → ObB E P ops Q S R bl nw F i o)
    (hend : ∀ (f : Tmp → Value) (w : World), S w → (∀ i o d, i < m → ops[i]? = some o → o.dst = some d → R i (f d) w) → (∀ i o, i < m → ops[i]? = some o → o.dst = none → ∃ v, R i v w) → (∀ i j o o' d d' k, i ≠ j → nw j = true → i < m → j < m → ops[i]? = some o → ops[j]? = some o' → o.dst = some d → o'.dst = some d' → bl i (f d) = some k → bl j (f d') ≠ some k) → wpOps P ops Q (List.range' m (ops.size - m)) (F f) w) :
    ∀ (fuel : Nat) (listed : Array Bool) (a : Act) (w : World), listed.size = ops.size → listed.toList.count false = fuel → (∀ j, m ≤ j → listed.getD j false = false) → JB (ops.toList.take m) ops S R bl nw a0 listed a w → wpAny P .any ops Q fuel listed a w := by
  have htail : ∀ (fuel : Nat) (listed : Array Bool) (a : Act) (w : World), listed.size = ops.size → listed.toList.count false = fuel → (∀ j, m ≤ j → listed.getD j false = false) → (∀ j, j < m → listed.getD j false = true) → JB (ops.toList.take m) ops S R bl nw a0 listed a w → wpAny P .any ops Q fuel listed a w := by
    intro fuel listed a w hl hc hT hA hJ
    have hcount : fuel = ops.size - m := by
      rw [← hc]
      have : listed.toList = List.replicate m true ++ List.replicate (ops.size - m) false := by
        apply List.ext_getElem?
        intro j
        by_cases hj : j < ops.size
        · have h1 : listed.toList[j]? = some (listed.getD j false) := by
            rw [Array.getD_eq_getD_getElem?, Array.getElem?_toList, Array.getElem?_eq_getElem (by omega)]; rfl
          rw [h1]
          by_cases hjm : j < m
          · rw [hA j hjm, List.getElem?_append_left (by simpa using hjm), List.getElem?_replicate, if_pos hjm]
          · rw [hT j (by omega), List.getElem?_append_right (by simp; omega), List.getElem?_replicate, if_pos (by simp; omega)]
        · rw [List.getElem?_eq_none (by simp; omega), List.getElem?_eq_none (by simp; omega)]
      rw [this, List.count_append]
      simp [List.count_replicate]
    subst hcount
    refine tail_run ht hah _ m listed a w (by omega) (Nat.le_refl _) hl (fun j hj => ⟨fun h => ?_, fun h => hA j h⟩) ?_
    · rcases Nat.lt_or_ge j m with h' | h'
      · exact h'
      · rw [hT j h'] at h; cases h
    · rw [hJ.same.fill, hF]
      exact hend _ w hJ.s (fun i o d hi ho hd => hJ.r i o d ho hd (hA i hi)) (fun i o hi ho hd => hJ.rn i o ho hd (hA i hi)) (fun i j o o' d d' k hij hnj hi hj ho ho' hd hd' hb => hJ.ap i j o o' d d' k hij hnj ho ho' hd hd' (hA i hi) (hA j hj) hb)
  intro fuel
  induction fuel with
  | zero =>
    intro listed a w hl hc hT hJ
    refine htail 0 listed a w hl hc hT (fun j hj => ?_) hJ
    have h1 : listed[j]'(by omega) ∈ listed.toList := by simp
    have h2 : listed[j]'(by omega) ≠ false := fun he => List.count_eq_zero.1 hc (he ▸ h1)
    rw [Array.getD_eq_getD_getElem?, Array.getElem?_eq_getElem (by omega)]
    simpa using h2
  | succ fuel ih =>
    intro listed a w hl hc hT hJ
    by_cases hall : ∀ j, j < m → listed.getD j false = true
    · exact htail (fuel + 1) listed a w hl hc hT hall hJ
    · have hne : Region.ready .any ops listed ≠ [] := by
        intro he
        refine hall ?_
        have hm : ∀ n i, i < n → i < m → listed.getD i false = true := by
          intro n
          induction n with
          | zero => intro i hi; omega
          | succ n ihn =>
            intro i hi him
            by_cases hlt : i < n
            · exact ihn i hlt him
            · obtain rfl : i = n := by omega
              have hio : i < ops.size := by omega
              cases hg : listed.getD i false with
              | true => rfl
              | false =>
                exfalso
                have hmem : i ∈ Region.ready .any ops listed := by
                  refine mem_ready.2 ⟨?_, ops[i], Array.getElem?_eq_getElem hio, fun e hem hbe => ?_⟩
                  · rw [Array.getD_eq_getD_getElem?, Array.getElem?_eq_getElem (by omega)] at hg ⊢; exact hg
                  · have h1 := List.all_eq_true.1 hah i (List.mem_range.2 hio)
                    rw [Array.getElem?_eq_getElem hio] at h1
                    have h2 := Array.all_eq_true_iff_forall_mem.1 h1 e hem
                    rw [hbe] at h2
                    have h3 : e.on < i := by simpa using h2
                    exact ihn e.on h3 (by omega)
                rw [he] at hmem
                cases hmem
        exact fun j hj => hm (j + 1) j (by omega) hj
      refine ⟨fun he => absurd he hne, fun i hi => ?_⟩
      obtain ⟨h1, o, ho, hal⟩ := mem_ready.1 hi
      have hlt := (Array.getElem?_eq_some_iff.1 ho).1
      have him : i < m := by
        rcases Nat.lt_or_ge i m with h' | h'
        · exact h'
        · exfalso
          exact hall (fun j hj => tail_spec (L := fun x => listed.getD x false = true) ht ho h' hJ.cl hal j (by omega))
      have hfill := hJ.same.fill
      rw [hF] at hfill
      have hdp : ∀ p ∈ deps ops o, ∃ o', ops[p.1]? = some o' ∧ o'.dst = some p.2 ∧ listed.getD p.1 false = true := fun p hp => by
        obtain ⟨e, he, hp⟩ := List.mem_filterMap.1 hp
        split at hp
        · rename_i hb
          obtain ⟨d, hd, rfl⟩ := Option.map_eq_some_iff.1 hp
          obtain ⟨o', ho', hd'⟩ := Option.bind_eq_some_iff.1 hd
          exact ⟨o', ho', hd', hal e (by simpa using he) hb⟩
        · cases hp
      have hob := hops i o him ho (fun d => a.tmps.getD d undef) w hJ.s (depAll_of (fun p hp => by
          obtain ⟨e, he, hp⟩ := List.mem_filterMap.1 hp
          split at hp
          · rename_i hb
            obtain ⟨d, hd, rfl⟩ := Option.map_eq_some_iff.1 hp
            obtain ⟨o', ho', hd'⟩ := Option.bind_eq_some_iff.1 hd
            exact hJ.r e.on o' d ho' hd' (hal e (by simpa using he) hb)
          · cases hp))
        (fun a' w' => wpAny P .any ops Q fuel (listed.setIfInBounds i true) a' w') (by
          intro v w' hS hb hv hbk a' ha'
          rw [ha', ← hfill]
          refine ih _ _ _ (by simpa using hl) ?_ (fun j hj => by rw [getD_set_ne false (by omega)]; exact hT j hj) (hJ.stepB hE hap hin hR ho (List.mem_of_getElem? (i := i) (by rw [List.getElem?_take, if_pos him]; simpa using ho)) hl hS hb hv hbk hdp hal)
          have := count_set_true listed.toList i (by
            rw [Array.getD_eq_getD_getElem?, Array.getElem?_eq_getElem (by omega)] at h1
            simp at h1
            simp [h1, hl, hlt])
          simp only [Array.toList_setIfInBounds]
          omega)
      rw [← hfill] at hob
      unfold wpOp
      rw [ho]
      simp only
      split
      · rename_i hw; rw [if_pos hw] at hob; exact Or.inl hob
      · rename_i hw; rw [if_neg hw] at hob; exact hob
def AllTo (Ob : Nat → Oper → Prop) : Nat → Nat → List Oper → Prop
  | 0, _, _ => True
  | _ + 1, _, [] => True
  | m + 1, i, o :: l => Ob i o ∧ AllTo Ob m (i + 1) l
theorem allTo_of {Ob : Nat → Oper → Prop} : ∀ (m : Nat) (l : List Oper) (k : Nat), AllTo Ob m k l → ∀ i o, i < m → l[i]? = some o → Ob (k + i) o
  | 0, _, _, _, i, o, h, _ => by omega
  | m + 1, [], _, _, i, o, _, h => by simp at h
  | m + 1, x :: l, k, ha, 0, o, _, h => by simp only [List.getElem?_cons_zero, Option.some.injEq] at h; subst h; exact ha.1
  | m + 1, x :: l, k, ha, i + 1, o, hm, h => by
    simp only [List.getElem?_cons_succ] at h
    have := allTo_of m l (k + 1) ha.2 i o (by omega) h
    rwa [show k + 1 + i = k + (i + 1) by omega] at this
theorem regionE {E : World → World → Prop} (hE : ∀ w w', E w w' → w.heap.size ≤ w'.heap.size) (S : World → Prop) (Rs : List (Value → World → Prop)) (bl : Nat → Value → Option Nat) (nw : Nat → Bool) (m : Nat) {l : List Oper} {a0 : Act} {w0 : World} {id : Nat} {F : (Tmp → Value) → Act} (hF : ∀ f, fillIn f (l.take m) a0 = F f) (hm : P.follows .mixedOrders = true) (hap : apartB (dsts l.toArray) = true) (hin : (dsts l.toArray).all (· < a0.tmps.size) = true) (hah : aheadB l.toArray = true) (ht : tailB l.toArray m = true) (hmn : m ≤ l.length)
    (hR : Stabs E Rs) (hS : S w0.drew)
    (hops : AllTo (ObB E P l.toArray Q S (nth Rs) bl nw F) m 0 l)
    (hend : ∀ (f : Tmp → Value) (w : World), S w → (∀ i o d, i < m → l.toArray[i]? = some o → o.dst = some d → nth Rs i (f d) w) → (∀ i o, i < m → l.toArray[i]? = some o → o.dst = none → ∃ v, nth Rs i v w) → (∀ i j o o' d d' k, i ≠ j → nw j = true → i < m → j < m → l.toArray[i]? = some o → l.toArray[j]? = some o' → o.dst = some d → o'.dst = some d' → bl i (f d) = some k → bl j (f d') ≠ some k) → wpList P l.toArray Q (l.drop m) (F f) w) : (Code.region id l.toArray true).wp P Q a0 w0 := by
  refine wp_region_any hm (anyT_of hE (S := S) (R := nth Rs) (bl := bl) (nw := nw) (a0 := a0) (F := F) (m := m) (by simpa using hmn) (by simpa using hF) hap hin hah ht (stab_nth hR) (fun i o hi ho => ?_) (fun f w hSw hr hrn hbl => ?_) l.toArray.size _ a0 w0.drew (by simp) (by simp) (fun j hj => ?_) ⟨⟨⟨rfl, rfl, fun _ _ => rfl⟩, hS, fun i o d hi hd hl => ?_⟩, fun i o hi hd hl => ?_, fun i o hi hl => ?_, fun i o d k hi hd hl => ?_, fun i j o o' d d' k hij hnj hi hj hd hd' hl => ?_⟩)
  · have := allTo_of m l 0 hops i o hi (by simpa using ho)
    rwa [Nat.zero_add] at this
  · have h1 := hend f w hSw hr hrn hbl
    have h2 : wpOps P l.toArray Q (List.range' m (l.drop m).length) = wpList P l.toArray Q (l.drop m) := wpOps_eq_wpList _ m (fun j => by simp)
    rw [← h2] at h1
    simpa using h1
  · rw [Array.getD_eq_getD_getElem?, Array.getElem?_replicate]
    split <;> rfl
  · exfalso
    have hlt := (Array.getElem?_eq_some_iff.1 hi).1
    rw [Array.getD_eq_getD_getElem?, Array.getElem?_replicate, if_pos hlt] at hl
    cases hl
  · exfalso
    have hlt := (Array.getElem?_eq_some_iff.1 hi).1
    rw [Array.getD_eq_getD_getElem?, Array.getElem?_replicate, if_pos hlt] at hl
    cases hl
  · exfalso
    have hlt := (Array.getElem?_eq_some_iff.1 hi).1
    rw [Array.getD_eq_getD_getElem?, Array.getElem?_replicate, if_pos hlt] at hl
    cases hl
  · exfalso
    have hlt := (Array.getElem?_eq_some_iff.1 hi).1
    rw [Array.getD_eq_getD_getElem?, Array.getElem?_replicate, if_pos hlt] at hl
    cases hl
  · exfalso
    have hlt := (Array.getElem?_eq_some_iff.1 hi).1
    rw [Array.getD_eq_getD_getElem?, Array.getElem?_replicate, if_pos hlt] at hl
    cases hl
theorem regionT (S : World → Prop) (Rs : List (Value → World → Prop)) (bl : Nat → Value → Option Nat) (nw : Nat → Bool) (m : Nat) {l : List Oper} {a0 : Act} {w0 : World} {id : Nat} {F : (Tmp → Value) → Act} (hF : ∀ f, fillIn f (l.take m) a0 = F f) (hm : P.follows .mixedOrders = true) (hap : apartB (dsts l.toArray) = true) (hin : (dsts l.toArray).all (· < a0.tmps.size) = true) (hah : aheadB l.toArray = true) (ht : tailB l.toArray m = true) (hmn : m ≤ l.length)
    (hR : Stabs (fun w w' => Below w.heap.size w w') Rs) (hS : S w0.drew)
    (hops : AllTo (ObB (fun w w' => Below w.heap.size w w') P l.toArray Q S (nth Rs) bl nw F) m 0 l)
    (hend : ∀ (f : Tmp → Value) (w : World), S w → (∀ i o d, i < m → l.toArray[i]? = some o → o.dst = some d → nth Rs i (f d) w) → (∀ i j o o' d d' k, i ≠ j → nw j = true → i < m → j < m → l.toArray[i]? = some o → l.toArray[j]? = some o' → o.dst = some d → o'.dst = some d' → bl i (f d) = some k → bl j (f d') ≠ some k) → wpList P l.toArray Q (l.drop m) (F f) w) : (Code.region id l.toArray true).wp P Q a0 w0 :=
  regionE (fun _ _ h => h.size) S Rs bl nw m hF hm hap hin hah ht hmn hR hS hops (fun f w h1 h2 _ h3 => hend f w h1 h2 h3)
end
end Go.Proofs.YtmdjmbdeeodehaaDoor.RegT
end
section
set_option linter.unusedVariables false
set_option linter.unusedSimpArgs false
namespace Go.Proofs.YtmdjmbdeeodehaaDoor.AppC
open Go Go.Proofs Go.RowKit Go.Proofs.YtmdjmbdeeodehaaDoorW.PrintWords
section
variable {P : Program} {α : Type}
theorem run_full (d : Kd α) {W : World} (t ty e : TypeId) (z : Value) (bytes : Nat) (ht : P.underlying t = some (.slice e)) (hinfo : (P.info? e).map (fun i => (i.zero, i.size, i.bytes)) = some (some z, d.sz, bytes)) (hz : z.cells.size = d.sz) (hb0 : 0 < bytes)
    (B : Option Addr) (n : Nat) (l : List α) (A : Option Addr) (m c : Nat) (ys : List α) (HB : Kd.C d W B n l) (HA : Kd.C d W A m ys) (hl : (n + m) * bytes ≤ 140737488355328) :
    ∃ A1 c1 w1, (Builtin.append_ #[t, t] ty #[.slice B n n, .slice A m c]).run P W = .ok (.slice A1 (n + m) c1) w1 ∧ n + m ≤ c1 ∧ Kd.C d w1 A1 (n + m) (l ++ ys) ∧ Below W.heap.size W w1 ∧ (0 < m → A1 = some ⟨W.heap.size, 0, none⟩ ∧ W.heap.size < w1.heap.size) := by
  obtain ⟨i0, hi, hzz⟩ := Option.map_eq_some_iff.1 hinfo
  simp only [Prod.mk.injEq] at hzz
  obtain ⟨hz0, hz1, hz2⟩ := hzz
  have hlen : n + m ≤ 140737488355328 := Nat.le_trans (Nat.le_mul_of_pos_right _ hb0) hl
  rcases Nat.eq_zero_or_pos m with h0 | h0
  · subst h0
    obtain rfl : ys = [] := List.eq_nil_of_length_eq_zero HA.1
    refine ⟨B, n, W, ?_, Nat.le_refl _, by rw [List.append_nil]; exact HB, Below.refl _ _, fun h => absurd h (by omega)⟩
    cases A with
    | none => cases B <;> simp [Builtin.append_, run_underlying ht, sizeOf, typeInfo, hi, Builtin.lenOf, Builtin.firstCells, storeCells]
    | some ad =>
      have hf := run_firstCells_some (P := P) W i0.size 0 ad 0 c [] (by simp) (by simp)
      cases B <;> simp [Builtin.append_, run_underlying ht, sizeOf, typeInfo, hi, Builtin.lenOf, hf, storeCells]
  obtain ⟨ad, rfl, _⟩ := HA.2.2 h0
  obtain ⟨news, hnr, hnc⟩ := ReadsRow.inner_ HA
  have hnl : news.length = m * d.sz := by rw [hnr.1, HA.1]
  have fin : ∀ (olds : List Value) (cp : Nat), Reps (d.K W) d.sz l olds → n + m ≤ cp → ∀ cur : Array Value, (∀ (j : Nat) (u : Value), (olds ++ news)[j]? = some u → cur[j]? = some u) → Kd.C d (W.drew.alloc (.cells cur e)) (some ⟨W.heap.size, 0, none⟩) (n + m) (l ++ ys) := by
    intro olds cp hor hcp cur hcur
    have hb : Below W.heap.size W (W.drew.alloc (.cells cur e)) := (below_drew (Below.refl _ _)).alloc (Nat.le_refl _) _
    have hrep := Kd.reps_append hor hnr
    refine ⟨by rw [List.length_append, HB.1, HA.1], by omega, fun _ => ⟨_, rfl, fun j p hj => ?_⟩⟩
    have hjl : j < (l ++ ys).length := (List.getElem?_eq_some_iff.1 hj).1
    have hK := hrep.2 j p hj
    refine ⟨_, d.K_len hK, d.K_below hb hK, fun i u hu => ?_⟩
    rw [List.getElem?_take] at hu
    split at hu
    · rw [List.getElem?_drop] at hu
      rw [add_plain]
      have hk := heap_alloc_new W.drew (.cells cur e)
      have h2 : (W.drew.alloc (.cells cur e)).heap[W.heap.size]? = some (.cells cur e (0, 0)) := hk
      rw [blk_cell h2]
      exact hcur _ _ hu
    · cases hu
  have hgl : ∀ (olds : List Value) (x : Array Value), ∀ (j : Nat) (u : Value), (olds ++ news)[j]? = some u → (olds.toArray ++ news.toArray ++ x)[j]? = some u := by
    intro olds x j u hu
    have hj := (List.getElem?_eq_some_iff.1 hu).1
    rw [Array.getElem?_append_left (by simpa using hj)]
    simpa using hu
  rcases B with _ | b
  · have hn0 : n = 0 := by
      rcases Nat.eq_zero_or_pos n with h | h
      · exact h
      · obtain ⟨ad, h2, _⟩ := HB.2.2 h; cases h2
    subst hn0
    obtain rfl : l = [] := List.eq_nil_of_length_eq_zero HB.1
    have hr := run_append_nil (P := P) W t ty e i0 z ht hi hz0 ad m c news (by rw [hz1]; exact hnl) hnc h0 (by omega) (by rw [hz2]; rw [Nat.zero_add] at hl; omega)
    refine ⟨_, grownCap W m 0 e, _, by rw [Nat.zero_add]; exact hr, by rw [Nat.zero_add]; exact grownCap_ge W m 0 e, fin [] _ (Reps.none _ _) (by rw [Nat.zero_add]; exact grownCap_ge W m 0 e) _ (fun j u hu => ?_), (below_drew (Below.refl _ _)).alloc (Nat.le_refl _) _, fun _ => ⟨rfl, by simp⟩⟩
    have := hgl [] (Builtin.zeroCells z.cells (grownCap W m 0 e - m)) j u hu
    simpa using this
  · obtain ⟨olds, hor, hoc⟩ := ReadsRow.inner_ HB
    have hol : olds.length = n * d.sz := by rw [hor.1, HB.1]
    have hr := run_append_grow (P := P) W t ty e i0 z ht hi hz0 b n n olds (by rw [hz1]; exact hol) hoc ad m c news (by rw [hz1]; exact hnl) hnc (by omega) (by omega) (by rw [hz2]; exact growslice_fits (by omega) hl)
    exact ⟨_, _, _, hr, grownCap_ge W (n + m) n e, fin olds _ hor (grownCap_ge W (n + m) n e) _ (hgl olds _), (below_drew (Below.refl _ _)).alloc (Nat.le_refl _) _, fun _ => ⟨rfl, by simp⟩⟩
variable {ops : Array Oper} {o : Oper} {a : Act} {K : Act → World → Prop} {Q : Exit → Act → World → Prop}
theorem step_full (d : Kd α) {W : World} (hw : Region.wanted o (yielded ops a.tmps) = true) (s x : Operand) (t e : TypeId) (z : Value) (bytes : Nat)
    (ho : o.op = .call { callee := .builtin .append, args := #[s, x], argTypes := #[t, t] })
    (ht : P.underlying t = some (.slice e)) (hinfo : (P.info? e).map (fun i => (i.zero, i.size, i.bytes)) = some (some z, d.sz, bytes)) (hz : z.cells.size = d.sz) (hb0 : 0 < bytes)
    (B : Option Addr) (n : Nat) (l : List α) (A : Option Addr) (m c : Nat) (ys : List α) (hs : a.eval s = .slice B n n) (hx : a.eval x = .slice A m c) (HB : Kd.C d W B n l) (HA : Kd.C d W A m ys) (hl : (n + m) * bytes ≤ 140737488355328)
    (h : ∀ A1 c1 w1, n + m ≤ c1 → Kd.C d w1 A1 (n + m) (l ++ ys) → Below W.heap.size W w1 → (0 < m → A1 = some ⟨W.heap.size, 0, none⟩ ∧ W.heap.size < w1.heap.size) → K (a.put o.dst (.slice A1 (n + m) c1)) w1) :
    if Region.wanted o (yielded ops a.tmps) = true then Oper.wp P o a W K Q else K (a.put o.dst undef) W := by
  obtain ⟨A1, c1, w1, hr, h1, h2, h3, h4⟩ := run_full (P := P) d t o.type e z bytes ht hinfo hz hb0 B n l A m c ys HB HA hl
  rw [if_pos hw]
  unfold Oper.wp execOp
  simp only [ho, resolve, invoke, builtin, Sem.run_bind, Sem.run_pure, Result.andThen_ok, List.map_toArray, List.map_cons, List.map_nil, hs, hx, hr]
  exact h A1 c1 w1 h1 h2 h3 h4
theorem row_full (d : Kd α) {rest : List Oper} {W : World} (hgd : o.guard = none) (s x : Operand) (t e : TypeId) (z : Value) (bytes : Nat)
    (ho : o.op = .call { callee := .builtin .append, args := #[s, x], argTypes := #[t, t] })
    (ht : P.underlying t = some (.slice e)) (hinfo : (P.info? e).map (fun i => (i.zero, i.size, i.bytes)) = some (some z, d.sz, bytes)) (hz : z.cells.size = d.sz) (hb0 : 0 < bytes)
    (B : Option Addr) (n : Nat) (l : List α) (A : Option Addr) (m c : Nat) (ys : List α) (hs : a.eval s = .slice B n n) (hx : a.eval x = .slice A m c) (HB : Kd.C d W B n l) (HA : Kd.C d W A m ys) (hl : (n + m) * bytes ≤ 140737488355328)
    (h : ∀ A1 c1 w1, n + m ≤ c1 → Kd.C d w1 A1 (n + m) (l ++ ys) → Below W.heap.size W w1 → (0 < m → A1 = some ⟨W.heap.size, 0, none⟩ ∧ W.heap.size < w1.heap.size) → wpList P ops Q rest (a.put o.dst (.slice A1 (n + m) c1)) w1) : wpList P ops Q (o :: rest) a W := by
  obtain ⟨A1, c1, w1, hr, h1, h2, h3, h4⟩ := run_full (P := P) d t o.type e z bytes ht hinfo hz hb0 B n l A m c ys HB HA hl
  refine wpList_plain hgd fun K hK => ?_
  unfold Oper.wp execOp
  simp only [ho, resolve, invoke, builtin, Sem.run_bind, Sem.run_pure, Result.andThen_ok, List.map_toArray, List.map_cons, List.map_nil, hs, hx, hr]
  exact hK _ _ (h A1 c1 w1 h1 h2 h3 h4)
theorem one_C (d : Kd α) (W : World) (e : TypeId) (x : α) (cs : List Value) (hk : d.K W x cs) : Kd.C d (W.alloc (.cells cs.toArray e)) (some ⟨W.heap.size, 0, none⟩) 1 [x] := by
  have hb : Below W.heap.size W (W.alloc (.cells cs.toArray e)) := (Below.refl _ _).alloc (Nat.le_refl _) _
  refine ⟨rfl, by omega, fun _ => ⟨_, rfl, fun j p hj => ?_⟩⟩
  have hj0 : j = 0 := by have := (List.getElem?_eq_some_iff.1 hj).1; simpa using this
  subst hj0
  have : x = p := by simpa using hj
  subst this
  refine ⟨cs, d.K_len hk, d.K_below hb hk, fun i u hu => ?_⟩
  rw [Nat.zero_mul, Nat.zero_add, add_plain, blk_cell (heap_alloc_new W _)]
  simpa using hu
theorem lit_C (d : Kd α) (W : World) (e : TypeId) (l : List α) (cs : List Value) (hk : Reps (d.K W) d.sz l cs) (hm : l.length ≤ 9223372036854775807) : Kd.C d (W.alloc (.cells cs.toArray e)) (some ⟨W.heap.size, 0, none⟩) l.length l := by
  have hb : Below W.heap.size W (W.alloc (.cells cs.toArray e)) := (Below.refl _ _).alloc (Nat.le_refl _) _
  refine ⟨rfl, hm, fun _ => ⟨_, rfl, fun j p hj => ?_⟩⟩
  have hK := hk.2 j p hj
  refine ⟨_, d.K_len hK, d.K_below hb hK, fun i u hu => ?_⟩
  rw [List.getElem?_take] at hu
  split at hu
  · rw [List.getElem?_drop] at hu
    rw [add_plain, blk_cell (heap_alloc_new W _)]
    simpa using hu
  · cases hu
def elder (d : Kd α) (ws : World) : Kd α where
  sz := d.sz
  E := []
  K := fun _ x cs => d.K ws x cs
  M := fun _ _ _ x cs => d.K ws x cs
  K_len := fun h => d.K_len h
  K_one := fun h => d.K_one h
  K_below := fun _ h => h
  K_of_M := fun h => h
  M_mono := fun _ h => h
  M_bound := fun h => h
  M_move := fun _ h => h
  M_lower := fun _ h => h
theorem C_elder {d : Kd α} {ws W : World} {A : Option Addr} {n : Nat} {l : List α} (h : Kd.C d ws A n l) (hb : Below ws.heap.size ws W) : Kd.C (elder d ws) W A n l := h.imp_ hb (fun _ _ hp => hp)
theorem elder_C {d : Kd α} {ws W : World} {A : Option Addr} {n : Nat} {l : List α} (h : Kd.C (elder d ws) W A n l) (hb : Below ws.heap.size ws W) : Kd.C d W A n l := ReadsRow.imp_ h (Below.refl _ _) (fun _ _ hp => d.K_below hb hp)
theorem elder_far {d : Kd α} {ws W : World} {A : Option Addr} {n : Nat} {l : List α} {b : Nat} (h : Kd.C (elder d ws) W A n l) (hne : ∀ ad, A = some ad → n ≠ 0 → ad.block ≠ b) (j : Nat) (v : Value) : Kd.C (elder d ws) (W.setCell ⟨b, j, none⟩ v) A n l :=
  ⟨h.1, h.2.1, fun hn => by
    obtain ⟨ad, e, hc⟩ := h.2.2 hn
    refine ⟨ad, e, fun j p hj => ?_⟩
    obtain ⟨c, hs, hr, hcell⟩ := hc j p hj
    refine ⟨c, hs, hr, fun i u hu => ?_⟩
    have hne2 := hne ad e (by omega)
    refine (World.cell?_setCell_other W _ _ v (fun he => hne2 ?_)).trans (hcell i u hu)
    have h2 := congrArg Addr.block he
    have h3 : ∀ m, (ad.add m).block = ad.block := fun m => by unfold Addr.add; split <;> rfl
    rw [h3] at h2
    exact h2.symm⟩
theorem C_drop {d : Kd α} {W : World} {A : Option Addr} {n c : Nat} {l : List α} (h : Kd.C d W A n l) (k : Nat) (hk : k ≤ n) (hc : n ≤ c) : Kd.C d W (if c = k then A else A.map (·.add (k * d.sz))) (n - k) (l.drop k) := by
  refine ⟨by rw [List.length_drop, h.1], by have := h.2.1; omega, fun hp => ?_⟩
  obtain ⟨ad, rfl, hcell⟩ := h.2.2 (by omega)
  rw [if_neg (by omega)]
  refine ⟨ad.add (k * d.sz), rfl, fun j p hj => ?_⟩
  rw [List.getElem?_drop] at hj
  obtain ⟨cs, hs, hr, hcc⟩ := hcell (k + j) p hj
  refine ⟨cs, hs, hr, fun i u hu => ?_⟩
  have h1 := hcc i u hu
  have ha : ∀ x y : Nat, (ad.add x).add y = ad.add (x + y) := fun x y => by
    unfold Addr.add
    by_cases h1 : x = 0 <;> by_cases h2 : y = 0 <;> simp [h1, h2, Nat.add_assoc]
  rw [ha, show k * d.sz + (j * d.sz + i) = (k + j) * d.sz + i by rw [Nat.add_mul]; omega]
  exact h1
theorem C_take {d : Kd α} {W : World} {A : Option Addr} {n : Nat} {l : List α} (h : Kd.C d W A n l) (k : Nat) (hk : k ≤ n) : Kd.C d W A k (l.take k) := by
  refine ⟨by rw [List.length_take, h.1]; omega, by have := h.2.1; omega, fun hp => ?_⟩
  obtain ⟨ad, e, hc⟩ := h.2.2 (by omega)
  refine ⟨ad, e, fun j p hj => ?_⟩
  rw [List.getElem?_take] at hj
  split at hj
  · exact hc j p hj
  · cases hj
theorem C_empty (d : Kd α) (W : World) (A : Option Addr) : Kd.C d W A 0 [] := ⟨rfl, by omega, fun h => absurd h (by omega)⟩
end
end Go.Proofs.YtmdjmbdeeodehaaDoor.AppC
end
section
set_option linter.unusedVariables false
set_option linter.unusedSimpArgs false
namespace Go.Proofs.YtmdjmbdeeodehaaDoor.G
open Go Go.Proofs Go.Proofs.YtmdjmbdeeodehaaDoor Go.RowKit Go.Proofs.YtmdjmbdeeodehaaDoorW.PrintWords Go.Proofs.YtmdjmbdeeodehaaDoorW.PrintLast Go.Proofs.YtmdjmbdeeodehaaDoorW.PrintMore Go.Proofs.YtmdjmbdeeodehaaDoor.Pure
attribute [local go_sem] max2_int min2_int max_two min_two
abbrev SPart := S157
def bkN (n : Nat) (p : SPart) : Nat := if 0 < p.f2 then (if (n : Int) < p.f2 then n else p.f2.toNat) else 0
theorem bkN_le (n : Nat) (p : SPart) : bkN n p ≤ n := by unfold bkN; split <;> (try split) <;> omega
def bStep (st : List TTree) (p : SPart) : List TTree := st.take (st.length - bkN st.length p) ++ [⟨p.f0, p.f1, st.drop (st.length - bkN st.length p)⟩]
def bAll : List SPart → List TTree → List TTree
  | [], st => st
  | p :: l, st => bAll l (bStep st p)
theorem infoT : (Tryd.prog.info? 55).map (fun i => (i.zero, i.size, i.bytes)) = some (some (.agg #[.int .i64 0, .int .i64 0, .slice none 0 0]), 3, 40) := by kernel_rfl
theorem infoR : (Tryd.prog.info? 58).map (fun i => (i.zero, i.size, i.bytes)) = some (some (.agg #[.int .i64 0, .int .i64 0, .slice none 0 0]), 3, 40) := by kernel_rfl
theorem stepP {pb : Nat} {o : Obj} {ws W W' : World} (h : W.heap[pb]? = some o ∧ Below ws.heap.size ws W) (hb : Below W.heap.size W W') : W'.heap[pb]? = some o ∧ Below ws.heap.size ws W' := ⟨blk_below h.1 hb, h.2.trans (hb.mono h.2.size)⟩
theorem fresh_of {W w1 : World} {A1 : Option Addr} {k c1 : Nat} (hnew : 0 < k → A1 = some ⟨W.heap.size, 0, none⟩ ∧ W.heap.size < w1.heap.size) {q : Nat} (hq : RegT.blS (.slice A1 k c1) = some q) : W.heap.size ≤ q ∧ q < w1.heap.size := by
  cases A1 with
  | none => cases hq
  | some a =>
    have hq' : (if k = 0 then none else some a.block) = some q := hq
    by_cases h0 : k = 0
    · rw [if_pos h0] at hq'; cases hq'
    · rw [if_neg h0] at hq'
      obtain ⟨h1, h2⟩ := hnew (by omega)
      injection h1 with h1
      injection hq' with hq'
      rw [h1] at hq'
      have hq2 : W.heap.size = q := hq'
      omega
theorem inh_of {f : Tmp → Value} {i d : Nat} {A : Option Addr} {k c : Nat} {x y : Value} (e : f d = .slice A k c) : ∀ q, RegT.blL 2 (.agg #[x, y, .slice A k c]) = some q → RegT.blS (f d) = some q := fun q h => by rw [e]; exact h
theorem ap_of {A : Option Addr} {k c b : Nat} {x y : Value} (h : ∀ q, RegT.blL 2 (.agg #[x, y, .slice A k c]) = some q → RegT.blP (.pointer (some ⟨b, 0, none⟩)) ≠ some q) : ∀ ad, A = some ad → k ≠ 0 → ad.block ≠ b := by
  intro ad e hk he
  subst e
  refine h ad.block ?_ (by rw [he]; rfl)
  show (if k = 0 then none else some ad.block) = some ad.block
  rw [if_neg hk]
def okB (w : World) : Nat → Prop := fun k => w.heap.size + 1 < k
def farA (w : World) (A : Option Addr) (n : Nat) : Prop := ∀ ad, A = some ad → n ≠ 0 → okB w ad.block
def feet {α : Type} (d : Kd α) (ok : Nat → Prop) : Kd α where
  sz := d.sz
  E := []
  K := fun W x cs => Kd.FK d W ok x cs
  M := fun _ _ _ _ _ => False
  K_len := fun h => d.K_len (Kd.FK_now h)
  K_one := fun h => d.K_one (Kd.FK_now h)
  K_below := fun hb h => Kd.FK_below h hb
  K_of_M := fun h => h.elim
  M_mono := fun _ h => h
  M_bound := fun h => h
  M_move := fun _ h => h
  M_lower := fun _ h => h
theorem F_of {α : Type} {d : Kd α} {ok : Nat → Prop} {W : World} {A : Option Addr} {n : Nat} {l : List α} (h : Kd.C (feet d ok) W A n l) (hA : ∀ ad, A = some ad → n ≠ 0 → ok ad.block) : Kd.F d W ok A n l := fun W' hW =>
  ⟨h.1, h.2.1, fun hn => by
    obtain ⟨ad, e, hc⟩ := h.2.2 hn
    refine ⟨ad, e, fun j p hj => ?_⟩
    obtain ⟨c, hs, hr, hcell⟩ := hc j p hj
    refine ⟨c, hs, hr W' hW, fun i u hu => ?_⟩
    have h1 := hcell i u hu
    have h2 := World.block_lt_of_cell? W _ h1
    have hb : ∀ m, (ad.add m).block = ad.block := fun m => by unfold Addr.add; split <;> rfl
    rw [hb] at h2
    have h3 := hW _ (hA ad e (by omega)) h2
    rw [← h1]
    show W'.cell? (ad.add (j * d.sz + i)) = W.cell? (ad.add (j * d.sz + i))
    simp [World.cell?, hb, h3]⟩
theorem far_new {w W w1 : World} {A1 : Option Addr} {m n : Nat} (hnew : 0 < m → A1 = some ⟨W.heap.size, 0, none⟩ ∧ W.heap.size < w1.heap.size) (hm : n ≠ 0 → 0 < m) (h : okB w W.heap.size) : farA w A1 n := fun ad e hn => by
  obtain ⟨h1, _⟩ := hnew (hm hn)
  rw [h1] at e
  injection e with e
  rw [← e]
  exact h
theorem results_two {P : Program} {fn : Func} {p q : Tmp} {ty ty2 : TypeId} (h : fn.results = #[.cell p ty, .cell q ty2]) (tmps : Array Value) (w : World) (g g2 : Nat) (t t2 : TypeId) (cs cs2 : Array Value) (d d2 : TypeDesc)
    (hp : tmps.getD p undef = .pointer (some ⟨g, 0, none⟩)) (hg : w.heap[g]? = some (.cells cs t (0, 0))) (hu : P.underlying ty = some d) (hd : (match d with | .struct _ | .array _ _ => true | _ => false) = true) (hi : (P.info? ty).map (·.size) = some cs.size)
    (hp2 : tmps.getD q undef = .pointer (some ⟨g2, 0, none⟩)) (hg2 : w.heap[g2]? = some (.cells cs2 t2 (0, 0))) (hu2 : P.underlying ty2 = some d2) (hd2 : (match d2 with | .struct _ | .array _ _ => true | _ => false) = true) (hi2 : (P.info? ty2).map (·.size) = some cs2.size) :
    (results fn tmps).run P w = .ok (.tuple #[.agg cs, .agg cs2]) w := by
  have hp' : tmps[p]?.getD undef = .pointer (some ⟨g, 0, none⟩) := by simpa using hp
  have hp2' : tmps[q]?.getD undef = .pointer (some ⟨g2, 0, none⟩) := by simpa using hp2
  simp [results, h, hp', hp2', asAddr, run_loadVar_row w g t ty cs _ d hg hu hd hi, run_loadVar_row w g2 t2 ty2 cs2 _ d2 hg2 hu2 hd2 hi2]
theorem boxed {α : Type} {d : Kd α} {ws W : World} {b t k : Nat} {A : Option Addr} {l : List α} {z0 z1 z2 x0 x1 x2 : Value} (hb : Below ws.heap.size ws W) (hg : ws.heap.size ≤ b) (hz : W.heap[b]? = some (.cells #[z0, z1, z2] t (0, 0))) (hC : Kd.C (AppC.elder d ws) W A k l) (hap : ∀ ad, A = some ad → k ≠ 0 → ad.block ≠ b) :
    Below ws.heap.size ws (((W.setCell ⟨b, 0, none⟩ x0).setCell ⟨b, 1, none⟩ x1).setCell ⟨b, 2, none⟩ x2) ∧ (((W.setCell ⟨b, 0, none⟩ x0).setCell ⟨b, 1, none⟩ x1).setCell ⟨b, 2, none⟩ x2).heap[b]? = some (.cells #[x0, x1, x2] t (0, 0)) ∧ Kd.C d (((W.setCell ⟨b, 0, none⟩ x0).setCell ⟨b, 1, none⟩ x1).setCell ⟨b, 2, none⟩ x2) A k l := by
  have h1 : Below ws.heap.size ws (((W.setCell ⟨b, 0, none⟩ x0).setCell ⟨b, 1, none⟩ x1).setCell ⟨b, 2, none⟩ x2) := ((hb.setCell hg _).setCell hg _).setCell hg _
  exact ⟨h1, blk_set (blk_set (blk_set hz 0 x0) 1 x1) 2 x2, AppC.elder_C (AppC.elder_far (AppC.elder_far (AppC.elder_far hC hap 0 x0) hap 1 x1) hap 2 x2) h1⟩
structure InX11 (w ws : World) (p : SPart) (k : Nat) (st : List TTree) (rs : List RTree) (A B : Option Addr) (x : TTree) (y : RTree) (bx by_ : Nat) (Tx : Option Addr) (tcx : Nat) (Ty : Option Addr) (tcy : Nat) (W : World) : Prop where
  bel : Below ws.heap.size ws W
  big : okB w ws.heap.size ∧ ws.heap.size ≤ W.heap.size
  s : Kd.F k55 W (okB w) A st.length st
  r : Kd.F k58 W (okB w) B st.length rs
  bx : W.heap[bx]? = some (.cells #[.int .i64 p.f0, .int .i64 p.f1, .slice Tx k tcx] 55 (0, 0))
  by_ : W.heap[by_]? = some (.cells #[.int .i64 p.f0, .int .i64 p.f1, .slice Ty k tcy] 58 (0, 0))
  xc : Kd.F k55 W (okB w) Tx k x.f2 ∧ k ≤ tcx ∧ x.f0 = p.f0 ∧ x.f1 = p.f1
  yc : Kd.F k58 W (okB w) Ty k y.f2 ∧ k ≤ tcy ∧ y.f0 = p.f0 ∧ y.f1 = p.f1
section
variable {w ws : World} {p : SPart} {k : Nat} {st : List TTree} {rs : List RTree} {A B : Option Addr} {x : TTree} {y : RTree} {bx by_ : Nat} {Tx : Option Addr} {tcx : Nat} {Ty : Option Addr} {tcy : Nat} {W W' : World}
theorem InX11.step (h : InX11 w ws p k st rs A B x y bx by_ Tx tcx Ty tcy W) (hb : Below W.heap.size W W') : InX11 w ws p k st rs A B x y bx by_ Tx tcx Ty tcy W' := ⟨h.bel.trans (hb.mono h.bel.size), ⟨h.big.1, Nat.le_trans h.big.2 hb.size⟩, Kd.F_below h.s hb, Kd.F_below h.r hb, blk_below h.bx hb, blk_below h.by_ hb, ⟨Kd.F_below h.xc.1 hb, h.xc.2⟩, ⟨Kd.F_below h.yc.1 hb, h.yc.2⟩⟩
theorem InX11.x0 (h : InX11 w ws p k st rs A B x y bx by_ Tx tcx Ty tcy W) : W.cell? ⟨bx, 0, none⟩ = some (.int .i64 p.f0) := (blk_cell h.bx 0).trans rfl
theorem InX11.x1 (h : InX11 w ws p k st rs A B x y bx by_ Tx tcx Ty tcy W) : W.cell? ⟨bx, 1, none⟩ = some (.int .i64 p.f1) := (blk_cell h.bx 1).trans rfl
theorem InX11.x2 (h : InX11 w ws p k st rs A B x y bx by_ Tx tcx Ty tcy W) : W.cell? ⟨bx, 2, none⟩ = some (.slice Tx k tcx) := (blk_cell h.bx 2).trans rfl
theorem InX11.y0 (h : InX11 w ws p k st rs A B x y bx by_ Tx tcx Ty tcy W) : W.cell? ⟨by_, 0, none⟩ = some (.int .i64 p.f0) := (blk_cell h.by_ 0).trans rfl
theorem InX11.y1 (h : InX11 w ws p k st rs A B x y bx by_ Tx tcx Ty tcy W) : W.cell? ⟨by_, 1, none⟩ = some (.int .i64 p.f1) := (blk_cell h.by_ 1).trans rfl
theorem InX11.y2 (h : InX11 w ws p k st rs A B x y bx by_ Tx tcx Ty tcy W) : W.cell? ⟨by_, 2, none⟩ = some (.slice Ty k tcy) := (blk_cell h.by_ 2).trans rfl
theorem InX11.xk (h : InX11 w ws p k st rs A B x y bx by_ Tx tcx Ty tcy W) : (feet k55 (okB w)).K W x [.int .i64 p.f0, .int .i64 p.f1, .slice Tx k tcx] := by
  have e := Kd.F_len h.xc.1
  have := k55_mkF W (okB w) x (A2 := Tx) (c2 := tcx) (by rw [e]; exact h.xc.2.1) (by rw [e]; exact h.xc.1)
  rw [h.xc.2.2.1, h.xc.2.2.2, e] at this; exact this
theorem InX11.yk (h : InX11 w ws p k st rs A B x y bx by_ Tx tcx Ty tcy W) : (feet k58 (okB w)).K W y [.int .i64 p.f0, .int .i64 p.f1, .slice Ty k tcy] := by
  have e := Kd.F_len h.yc.1
  have := k58_mkF W (okB w) y (A2 := Ty) (c2 := tcy) (by rw [e]; exact h.yc.2.1) (by rw [e]; exact h.yc.1)
  rw [h.yc.2.2.1, h.yc.2.2.2, e] at this; exact this
theorem InX11.sk (h : InX11 w ws p k st rs A B x y bx by_ Tx tcx Ty tcy W) (k : Nat) : Kd.C (feet k55 (okB w)) W A (st.length - k) (st.take (st.length - k)) := AppC.C_take (d := feet k55 (okB w)) (Kd.F_rows h.s) _ (Nat.sub_le _ _)
theorem InX11.rk (h : InX11 w ws p k st rs A B x y bx by_ Tx tcx Ty tcy W) (k : Nat) : Kd.C (feet k58 (okB w)) W B (st.length - k) (rs.take (st.length - k)) := AppC.C_take (d := feet k58 (okB w)) (Kd.F_rows h.r) _ (Nat.sub_le _ _)
end
theorem cut_tail {α : Type} (d : Kd α) (t e : TypeId) {i : TypeInfo} (ht : Tryd.prog.underlying t = some (.slice e)) (hi : Tryd.prog.info? e = some i) (hsz : i.size = d.sz) (A : Option Addr) (n c k : Nat) (hk : k ≤ n) (hc : n ≤ c) :
    ∃ A2 c2, (∀ W : World, (Instr.slice t (.slice A n c) (some (.int .i64 ((n : Int) - (k : Int)))) none none).run Tryd.prog W = .ok (.slice A2 k c2) W) ∧ ∀ (W : World) (l : List α), Kd.C d W A n l → Kd.C d W A2 k (l.drop (n - k)) := by
  have h1 := cut_from (P := Tryd.prog) t e .i64 ht hi d.sz hsz A n c ((n : Int) - (k : Int)) (by omega) (by omega)
  have e1 : ((n : Int) - (k : Int)).toNat = n - k := by omega
  refine ⟨if c = n - k then A else A.map (·.add ((n - k) * d.sz)), c - (n - k), fun W => ?_, fun W l h => ?_⟩
  · have := h1 W
    rw [e1, show n - (n - k) = k by omega] at this
    exact this
  · have := AppC.C_drop h (n - k) (Nat.sub_le _ _) hc
    rwa [show n - (n - k) = k by omega] at this
theorem cut_head (t e : TypeId) {i : TypeInfo} (ht : Tryd.prog.underlying t = some (.slice e)) (hi : Tryd.prog.info? e = some i) (A : Option Addr) (n c k : Nat) (hk : k ≤ n) (hc : n ≤ c) (W : World) :
    (Instr.slice t (.slice A n c) none (some (.int .i64 ((n : Int) - (k : Int)))) (some (.int .i64 ((n : Int) - (k : Int))))).run Tryd.prog W = .ok (.slice A (n - k) (n - k)) W := by
  have hel : Tryd.prog.elem t = e := by simp [Program.elem, ht]
  have hu : Tryd.prog.underlying t = some (.slice (Tryd.prog.elem t)) := by rw [hel]; exact ht
  have ha : (A.map fun x => x.add 0) = A := by cases A <;> simp [Addr.add]
  rw [run_slice_hm W t A n c hu .i64 .i64 ((n : Int) - (k : Int)) ((n : Int) - (k : Int)) (by omega) (Int.le_refl _) (by omega), hel]
  have e1 : ((n : Int) - (k : Int)).toNat = n - k := by omega
  simp [sizeOf, typeInfo, hi, sliced, Result.andThen, ha, e1]
structure InBd (w : World) (st : List TTree) (A : Option Addr) (ca : Nat) (B : Option Addr) (cb : Nat) (W : World) : Prop where
  bel : Below w.heap.size w W
  z2 : W.heap[w.heap.size]? = some (.cells #[.int .i64 0, .int .i64 0, .slice none 0 0] 55 (0, 0))
  z3 : W.heap[w.heap.size + 1]? = some (.cells #[.int .i64 0, .int .i64 0, .slice none 0 0] 58 (0, 0))
  a : Kd.F k55 W (okB w) A st.length st ∧ st.length ≤ ca
  b : Kd.F k58 W (okB w) B st.length (toRs st) ∧ st.length ≤ cb
theorem InBd.step {w : World} {st : List TTree} {A : Option Addr} {ca : Nat} {B : Option Addr} {cb : Nat} {W W' : World} (h : InBd w st A ca B cb W) (hb : Below W.heap.size W W') : InBd w st A ca B cb W' := ⟨h.bel.trans (hb.mono h.bel.size), blk_below h.z2 hb, blk_below h.z3 hb, ⟨Kd.F_below h.a.1 hb, h.a.2⟩, ⟨Kd.F_below h.b.1 hb, h.b.2⟩⟩
theorem sub_wrap (n k : Nat) (h : k ≤ n) (hn : n ≤ 1000000) : IntKind.i64.wrap ((n : Int) - (k : Int)) = (n : Int) - (k : Int) := IntWalk.i64_in _ (by omega)
theorem at_farT {w W : World} {A : Option Addr} {n : Nat} {l : List TTree} (h : Kd.F k55 W (okB w) A n l) (m : Nat) (hm : m < n) : ∃ (ad : Addr) (T : Option Addr) (tc : Nat), A = some ad ∧ W.cell? (ad.add (m * 3)) = some (.int .i64 (l.getD m z55).f0) ∧ W.cell? ⟨(ad.add (m * 3)).block, (ad.add (m * 3)).off + 1, none⟩ = some (.int .i64 (l.getD m z55).f1) ∧ W.cell? ⟨(ad.add (m * 3)).block, (ad.add (m * 3)).off + 2, none⟩ = some (.slice T (l.getD m z55).f2.length tc) ∧ (l.getD m z55).f2.length ≤ tc ∧ Kd.F k55 W (okB w) T (l.getD m z55).f2.length (l.getD m z55).f2 ∧ okB w (ad.add (m * 3)).block := by
  obtain ⟨ad, c, e, _, hK, hc0, hin⟩ := Kd.F_get h z55 (m : Int) (by omega) (by omega)
  rw [Int.toNat_natCast] at hK hc0
  have hc : ∀ j u, c[j]? = some u → W.cell? (ad.add (m * 3 + j)) = some u := hc0
  obtain ⟨A2, c2, rfl, l2, g2⟩ := k55_openF hK
  have hb : ∀ m, (ad.add m).block = ad.block := fun m => by unfold Addr.add; split <;> rfl
  exact ⟨ad, A2, c2, e, hc 0 _ rfl, by rw [← add_field _ _ 1 (by omega)]; exact hc 1 _ rfl, by rw [← add_field _ _ 2 (by omega)]; exact hc 2 _ rfl, l2, g2, by rw [hb]; exact hin (by decide)⟩
theorem at_farR {w W : World} {A : Option Addr} {n : Nat} {l : List RTree} (h : Kd.F k58 W (okB w) A n l) (m : Nat) (hm : m < n) : ∃ (ad : Addr) (T : Option Addr) (tc : Nat), A = some ad ∧ W.cell? (ad.add (m * 3)) = some (.int .i64 (l.getD m z58).f0) ∧ W.cell? ⟨(ad.add (m * 3)).block, (ad.add (m * 3)).off + 1, none⟩ = some (.int .i64 (l.getD m z58).f1) ∧ W.cell? ⟨(ad.add (m * 3)).block, (ad.add (m * 3)).off + 2, none⟩ = some (.slice T (l.getD m z58).f2.length tc) ∧ (l.getD m z58).f2.length ≤ tc ∧ Kd.F k58 W (okB w) T (l.getD m z58).f2.length (l.getD m z58).f2 ∧ okB w (ad.add (m * 3)).block := by
  obtain ⟨ad, c, e, _, hK, hc0, hin⟩ := Kd.F_get h z58 (m : Int) (by omega) (by omega)
  rw [Int.toNat_natCast] at hK hc0
  have hc : ∀ j u, c[j]? = some u → W.cell? (ad.add (m * 3 + j)) = some u := hc0
  obtain ⟨A2, c2, rfl, l2, g2⟩ := k58_openF hK
  have hb : ∀ m, (ad.add m).block = ad.block := fun m => by unfold Addr.add; split <;> rfl
  exact ⟨ad, A2, c2, e, hc 0 _ rfl, by rw [← add_field _ _ 1 (by omega)]; exact hc 1 _ rfl, by rw [← add_field _ _ 2 (by omega)]; exact hc 2 _ rfl, l2, g2, by rw [hb]; exact hin (by decide)⟩
structure InEnd (w : World) (t : TTree) (u : RTree) (pa pb : Addr) (T : Option Addr) (tc : Nat) (R : Option Addr) (rc : Nat) (W : World) : Prop where
  bel : Below w.heap.size w W
  z2 : ∃ z0 z1 z2, W.heap[w.heap.size]? = some (.cells #[z0, z1, z2] 55 (0, 0))
  z3 : W.heap[w.heap.size + 1]? = some (.cells #[.int .i64 0, .int .i64 0, .slice none 0 0] 58 (0, 0))
  x0 : W.cell? pa = some (.int .i64 t.f0)
  x1 : W.cell? ⟨pa.block, pa.off + 1, none⟩ = some (.int .i64 t.f1)
  x2 : W.cell? ⟨pa.block, pa.off + 2, none⟩ = some (.slice T t.f2.length tc)
  y0 : W.cell? pb = some (.int .i64 u.f0)
  y1 : W.cell? ⟨pb.block, pb.off + 1, none⟩ = some (.int .i64 u.f1)
  y2 : W.cell? ⟨pb.block, pb.off + 2, none⟩ = some (.slice R u.f2.length rc)
  far : okB w pa.block ∧ okB w pb.block
  c : Kd.F k55 W (okB w) T t.f2.length t.f2 ∧ t.f2.length ≤ tc
  r : Kd.F k58 W (okB w) R u.f2.length u.f2 ∧ u.f2.length ≤ rc
theorem InEnd.drew {w : World} {t : TTree} {u : RTree} {pa pb : Addr} {T : Option Addr} {tc : Nat} {R : Option Addr} {rc : Nat} {W : World} (h : InEnd w t u pa pb T tc R rc W) : InEnd w t u pa pb T tc R rc W.drew := ⟨below_drew h.bel, h.z2, h.z3, h.x0, h.x1, h.x2, h.y0, h.y1, h.y2, h.far, ⟨Kd.F_drew h.c.1, h.c.2⟩, ⟨Kd.F_drew h.r.1, h.r.2⟩⟩
theorem InEnd.set {w : World} {t : TTree} {u : RTree} {pa pb : Addr} {T : Option Addr} {tc : Nat} {R : Option Addr} {rc : Nat} {W : World} (h : InEnd w t u pa pb T tc R rc W) (i : Nat) (v : Value) (hi : i < 3) : InEnd w t u pa pb T tc R rc (W.setCell ⟨w.heap.size, i, none⟩ v) := by
  obtain ⟨z0, z1, z2, hz⟩ := h.z2
  have far : ∀ p : Addr, okB w p.block → (⟨w.heap.size, i, none⟩ : Addr) ≠ p := fun p hp e => by unfold okB at hp; rw [← e] at hp; simp only at hp; omega
  have h1 := blk_set hz i v
  refine ⟨h.bel.setCell (Nat.le_refl _) _, ?_, blk_far h.z3 (by simp) v, ?_, ?_, ?_, ?_, ?_, ?_, h.far, ⟨Kd.F_far h.c.1 (fun k hk e => by unfold okB at hk; simp only at e; omega) v, h.c.2⟩, ⟨Kd.F_far h.r.1 (fun k hk e => by unfold okB at hk; simp only at e; omega) v, h.r.2⟩⟩
  · match i, hi with
    | 0, _ => exact ⟨_, _, _, h1⟩
    | 1, _ => exact ⟨_, _, _, h1⟩
    | 2, _ => exact ⟨_, _, _, h1⟩
  all_goals rw [World.cell?_setCell_other]
  · exact h.x0
  · exact far _ h.far.1
  · exact h.x1
  · exact far _ h.far.1
  · exact h.x2
  · exact far _ h.far.1
  · exact h.y0
  · exact far _ h.far.2
  · exact h.y1
  · exact far _ h.far.2
  · exact h.y2
  · exact far _ h.far.2
set_option maxHeartbeats 16000000 in
set_option maxRecDepth 100000 in
theorem build_calls (Pp : Option Addr) (pc : Nat) (l : List SPart) (hl : l.length ≤ 1000) (w : World) (hr : Kd.C k157 w Pp l.length l) (fin : List TTree) (hfin : bAll l [] = fin) (hne : fin ≠ []) :
    Calls Tryd.prog 29 #[.slice Pp l.length pc] w fun e w' => ∃ (t : TTree) (T : Option Addr) (tc : Nat) (R : Option Addr) (rc : Nat), fin.getLast? = some t ∧ e = .returned (.tuple #[.agg #[.int .i64 t.f0, .int .i64 t.f1, .slice T t.f2.length tc], .agg #[.int .i64 (toR t).f0, .int .i64 (toR t).f1, .slice R (toR t).f2.length rc]]) ∧ (Kd.C k55 w' T t.f2.length t.f2 ∧ t.f2.length ≤ tc) ∧ (Kd.C k58 w' R (toR t).f2.length (toR t).f2 ∧ (toR t).f2.length ≤ rc) ∧ Below w.heap.size w w' := by
  have hu := Tryd.underlying55
  have hu2 := Tryd.underlying58
  have hu3 := Tryd.underlying157
  obtain ⟨iT, hiT, -, hsT, -⟩ := info_parts infoT
  obtain ⟨iR, hiR, -, hsR, -⟩ := info_parts infoR
  have HIT := Lib.hid hiT
  have HIR := Lib.hid hiR
  have HST := Lib.hid hsT
  have HSR := Lib.hid hsR
  have HR := Lib.hid hr
  have HF := Lib.hid hfin
  have HNE := Lib.hid hne
  clear hr hfin hne hiT hiR hsT hsR
  go_enter Tryd.func29, Tryd.ntmps29
  go_wp2_with fail
  have hI0 : InBd w [] none 0 none 0 ((w.alloc (.cells #[.int .i64 0, .int .i64 0, .slice none 0 0] 55)).alloc (.cells #[.int .i64 0, .int .i64 0, .slice none 0 0] 58)) := by
    have h3 := blk_new (w.alloc (.cells #[.int .i64 0, .int .i64 0, .slice none 0 0] 55)) (.cells #[.int .i64 0, .int .i64 0, .slice none 0 0] 58)
    rw [show (w.alloc (.cells #[.int .i64 0, .int .i64 0, .slice none 0 0] 55)).heap.size = w.heap.size + 1 by simp] at h3
    exact ⟨((Below.refl _ w).alloc (Nat.le_refl _) _).alloc (by simp) _, blk_alloc (blk_new w _) _, h3, ⟨Kd.F_nil _ _ _, Nat.le_refl _⟩, ⟨Kd.F_nil _ _ _, Nat.le_refl _⟩⟩
  have HI0 := Lib.hid hI0
  clear hI0
  go_loopw [4, 5, 13] (fun a b i wr => ∃ (j : Nat) (st : List TTree) (A : Option Addr) (ca : Nat) (B : Option Addr) (cb : Nat), a = .slice A st.length ca ∧ b = .slice B st.length cb ∧ i = .int .i64 j ∧ j ≤ l.length ∧ Hid (bAll (l.drop j) st = fin) ∧ Hid (st.length ≤ j) ∧ Hid (InBd w st A ca B cb wr)) (fun _ _ i _ => l.length - (intOf i).toNat)
  case atStart => exact ⟨0, [], none, 0, none, 0, rfl, rfl, rfl, Nat.zero_le _, HF, Lib.hid (Nat.le_refl _), HI0⟩
  case round =>
    clear HI0 HF
    obtain ⟨j, st, A, ca, B, cb, rfl, rfl, rfl, hj, HO, HSJ, HI⟩ := hrel
    by_cases hjl : j < l.length
    · obtain ⟨pad, e1, hp0, hp1, hp2⟩ := at_T157 HR.out (j : Int) (by omega) (by omega)
      subst e1
      obtain ⟨p, hp⟩ : ∃ p, p = l[j] := ⟨_, rfl⟩
      have hrdp : rd_T157 l (j : Int) = p := by rw [hp, rd_T157, Int.toNat_natCast, List.getD_eq_getElem?_getD, List.getElem?_eq_getElem hjl]; rfl
      rw [hrdp, Int.toNat_natCast] at hp0 hp1 hp2
      replace hp0 := (HI.out.bel.cell (World.block_lt_of_cell? _ _ hp0)).trans hp0
      replace hp1 := (HI.out.bel.cell (World.block_lt_of_cell? _ _ hp1)).trans hp1
      replace hp2 := (HI.out.bel.cell (World.block_lt_of_cell? _ _ hp2)).trans hp2
      have HO2 : Hid (bAll (l.drop (j + 1)) (bStep st p) = fin) := Lib.hid (by have := HO.out; rwa [List.drop_eq_getElem_cons hjl, ← hp, bAll] at this)
      have HJ := Lib.hid hjl
      have hj0 : 0 ≤ (j : Int) := Int.natCast_nonneg _
      have hj1 : (j : Int) < (l.length : Int) := by omega
      have hn : st.length ≤ 1000 := by have := HSJ.out; omega
      obtain ⟨k, hk⟩ : ∃ k, k = bkN st.length p := ⟨_, rfl⟩
      have hkn : k ≤ st.length := by rw [hk]; exact bkN_le _ _
      have HKB := Lib.hid hk
      have hpb := blk_new wr (.cells #[.int .i64 p.f0, .int .i64 p.f1, .int .i64 p.f2] 157)
      have HPB := Lib.hid hpb
      have HI1 := Lib.hid (HI.out.step (W' := wr.alloc (.cells #[.int .i64 p.f0, .int .i64 p.f1, .int .i64 p.f2] 157)) ((Below.refl _ _).alloc (Nat.le_refl _) _))
      have q2 : (wr.alloc (.cells #[.int .i64 p.f0, .int .i64 p.f1, .int .i64 p.f2] 157)).cell? ⟨wr.heap.size, 2, none⟩ = some (.int .i64 p.f2) := (blk_cell hpb 2).trans rfl
      clear hp hrdp hk hpb
      go_upto_if 19 with fail
      go_cut [8] (fun s8 wx => s8 = .int .i64 (k : Int) ∧ wx = wr.alloc (.cells #[.int .i64 p.f0, .int .i64 p.f1, .int .i64 p.f2] 157))
      case first =>
        by_cases h0 : 0 < p.f2
        · have h0b : decide (p.f2 > 0) = true := decide_eq_true h0
          have hmin : (if (st.length : Int) < p.f2 then (st.length : Int) else p.f2) = (k : Int) := by
            have := HKB.out
            unfold bkN at this
            rw [if_pos h0] at this
            split at this <;> (rename_i h; (first | rw [if_pos h] | rw [if_neg h])); all_goals omega
          go_wp2
          go_meet
          exact ⟨rfl, rfl⟩
        · have h0b : decide (p.f2 > 0) = false := decide_eq_false h0
          have hk0 : Hid ((k : Int) = 0) := Lib.hid (by have := HKB.out; unfold bkN at this; rw [if_neg h0] at this; omega)
          go_wp2
          go_meet
          exact ⟨by rw [hk0.out], rfl⟩
      case rest =>
      obtain ⟨rfl, rfl⟩ := hcut
      clear hp0 hp1 hp2 q2
      generalize hws : wr.alloc (.cells #[.int .i64 p.f0, .int .i64 p.f1, .int .i64 p.f2] 157) = ws at *
      generalize hpbg : wr.heap.size = pb at *
      have hsz : ws.heap.size = pb + 1 := by rw [← hws, ← hpbg]; simp
      have HWS : Hid (pb < ws.heap.size) := Lib.hid (by omega)
      have HBW : Hid (okB w ws.heap.size) := Lib.hid (by have h1 := blk_lt HI.out.z3; unfold okB; omega)
      clear hws hpbg hsz
      obtain ⟨A2, c2, hcut, hcutC⟩ := cut_tail (AppC.elder (feet k55 (okB w)) ws) 53 55 Tryd.underlying53 HIT.out HST.out A st.length ca k hkn HI1.out.a.2
      replace hcutC := fun (W : World) (hb : Below ws.heap.size ws W) => hcutC W st (AppC.C_elder (Kd.F_rows HI1.out.a.1) hb)
      go_wp2_with fail
      refine RegT.regionT (F := ?FT) (fun W => W.heap[pb]? = some (.cells #[.int .i64 p.f0, .int .i64 p.f1, .int .i64 p.f2] 157 (0, 0)) ∧ Below ws.heap.size ws W) [fun v _ => v = .pointer (some ⟨pb, 0, none⟩), fun v _ => v = .int .i64 p.f0, fun v _ => v = .pointer (some ⟨pb, 1, none⟩), fun v _ => v = .int .i64 p.f1, fun v _ => ∃ b, v = .slice (some ⟨b, 0, none⟩) 0 0, fun v _ => v = .slice A st.length ca, fun v _ => v = .slice A st.length ca, fun v _ => v = .int .i64 (st.length : Int), fun v _ => v = .int .i64 (k : Int), fun v _ => v = .int .i64 ((st.length : Int) - (k : Int)), fun v _ => v = .slice A2 k c2, fun v W => ∃ A' c', v = .slice A' k c' ∧ k ≤ c' ∧ Kd.C (AppC.elder (feet k55 (okB w)) ws) W A' k (st.drop (st.length - k)) ∧ farA w A' k, fun v W => ∃ A' c', v = .agg #[.int .i64 p.f0, .int .i64 p.f1, .slice A' k c'] ∧ k ≤ c' ∧ Kd.C (AppC.elder (feet k55 (okB w)) ws) W A' k (st.drop (st.length - k)) ∧ farA w A' k, fun v W => ∃ b, v = .pointer (some ⟨b, 0, none⟩) ∧ ws.heap.size ≤ b ∧ W.heap[b]? = some (.cells #[.int .i64 0, .int .i64 0, .slice none 0 0] 55 (0, 0))] (fun i v => match i with | 11 => RegT.blS v | 12 => RegT.blL 2 v | 13 => RegT.blP v | _ => none) (fun i => match i with | 13 => true | _ => false) 14 ?hFT (by kernel_rfl) (by kernel_rfl) (by kernel_rfl) (by kernel_rfl) (by kernel_rfl) (by simp) ⟨fun _ _ _ h _ => h, fun _ _ _ h _ => h, fun _ _ _ h _ => h, fun _ _ _ h _ => h, fun _ _ _ h _ => h, fun _ _ _ h _ => h, fun _ _ _ h _ => h, fun _ _ _ h _ => h, fun _ _ _ h _ => h, fun _ _ _ h _ => h, fun _ _ _ h _ => h, fun _ _ _ ⟨A', c', h1, h2, h3, h4⟩ hb => ⟨A', c', h1, h2, Kd.C_below h3 hb, h4⟩, fun _ _ _ ⟨A', c', h1, h2, h3, h4⟩ hb => ⟨A', c', h1, h2, Kd.C_below h3 hb, h4⟩, fun _ _ _ ⟨b, h1, h2, h3⟩ hb => ⟨b, h1, h2, blk_below h3 hb⟩, trivial⟩ ?hST ⟨?o0T, ?o1T, ?o2T, ?o3T, ?o4T, ?o5T, ?o6T, ?o7T, ?o8T, ?o9T, ?o10T, ?o11T, ?o12T, ?o13T, trivial⟩ ?hendT
      case hFT => intro f; (try simp only [List.take_succ_cons, List.take_zero, RegT.fillIn, RegT.fv, Act.put, List.setIfInBounds_toArray, List.set_cons_zero, List.set_cons_succ]); exact rfl
      case hST => exact ⟨blk_drew HPB.out, below_drew (Below.refl _ _)⟩
      case o0T =>
        intro f W1 hS hd K hK
        clear hd
        (go_simp; exact hK.out (.pointer (some ⟨pb, 0, none⟩)) _ hS (Below.refl _ _) rfl (fun _ (h : (none : Option Nat) = some _) => by cases h) _ (by rfl))
      case o1T =>
        intro f W1 hS hd K hK
        obtain ⟨e25, -⟩ := hd
        replace e25 : f 25 = .pointer (some ⟨pb, 0, none⟩) := e25
        have q0 : W1.cell? ⟨pb, 0, none⟩ = some (.int .i64 p.f0) := (blk_cell hS.1 0).trans rfl
        have q1 : W1.cell? ⟨pb, 1, none⟩ = some (.int .i64 p.f1) := (blk_cell hS.1 1).trans rfl
        (go_simp; exact hK.out (.int .i64 p.f0) _ hS (Below.refl _ _) rfl (fun _ (h : (none : Option Nat) = some _) => by cases h) _ (by first | (simp only [e25]; done) | (simp only [e25]; rfl) | rfl))
      case o2T =>
        intro f W1 hS hd K hK
        clear hd
        (go_simp; exact hK.out (.pointer (some ⟨pb, 1, none⟩)) _ hS (Below.refl _ _) rfl (fun _ (h : (none : Option Nat) = some _) => by cases h) _ (by rfl))
      case o3T =>
        intro f W1 hS hd K hK
        obtain ⟨e27, -⟩ := hd
        replace e27 : f 27 = .pointer (some ⟨pb, 1, none⟩) := e27
        have q0 : W1.cell? ⟨pb, 0, none⟩ = some (.int .i64 p.f0) := (blk_cell hS.1 0).trans rfl
        have q1 : W1.cell? ⟨pb, 1, none⟩ = some (.int .i64 p.f1) := (blk_cell hS.1 1).trans rfl
        (go_simp; exact hK.out (.int .i64 p.f1) _ hS (Below.refl _ _) rfl (fun _ (h : (none : Option Nat) = some _) => by cases h) _ (by first | (simp only [e27]; done) | (simp only [e27]; rfl) | rfl))
      case o4T =>
        intro f W1 hS hd K hK
        clear hd
        go_simp
        exact hK.out (.slice (some ⟨W1.heap.size, 0, none⟩) 0 0) _ (stepP hS ((Below.refl _ _).alloc (Nat.le_refl _) _)) ((Below.refl _ _).alloc (Nat.le_refl _) _) ⟨_, rfl⟩ (fun _ (h : (none : Option Nat) = some _) => by cases h) _ (by rfl)
      case o5T =>
        intro f W1 hS hd K hK
        clear hd
        (go_simp; exact hK.out (.slice A st.length ca) _ hS (Below.refl _ _) rfl (fun _ (h : (none : Option Nat) = some _) => by cases h) _ (by rfl))
      case o6T =>
        intro f W1 hS hd K hK
        clear hd
        (go_simp; exact hK.out (.slice A st.length ca) _ hS (Below.refl _ _) rfl (fun _ (h : (none : Option Nat) = some _) => by cases h) _ (by rfl))
      case o7T =>
        intro f W1 hS hd K hK
        obtain ⟨e31, -⟩ := hd
        replace e31 : f 31 = .slice A st.length ca := e31
        (go_simp; exact hK.out (.int .i64 (st.length : Int)) _ hS (Below.refl _ _) rfl (fun _ (h : (none : Option Nat) = some _) => by cases h) _ (by first | (simp only [e31]; done) | (simp only [e31]; rfl) | rfl))
      case o8T =>
        intro f W1 hS hd K hK
        clear hd
        (go_simp; exact hK.out (.int .i64 (k : Int)) _ hS (Below.refl _ _) rfl (fun _ (h : (none : Option Nat) = some _) => by cases h) _ (by rfl))
      case o9T =>
        intro f W1 hS hd K hK
        obtain ⟨e32, e33, -⟩ := hd
        replace e32 : f 32 = .int .i64 (st.length : Int) := e32
        replace e33 : f 33 = .int .i64 (k : Int) := e33
        have hw := sub_wrap st.length k hkn (by omega)
        (go_simp; exact hK.out (.int .i64 ((st.length : Int) - (k : Int))) _ hS (Below.refl _ _) rfl (fun _ (h : (none : Option Nat) = some _) => by cases h) _ (by first | (simp only [e32, e33, hw]; done) | (simp only [e32, e33, hw]; rfl) | rfl))
      case o10T =>
        intro f W1 hS hd K hK
        obtain ⟨e30, e34, -⟩ := hd
        replace e30 : f 30 = .slice A st.length ca := e30
        replace e34 : f 34 = .int .i64 ((st.length : Int) - (k : Int)) := e34
        (go_simp; exact hK.out (.slice A2 k c2) _ hS (Below.refl _ _) rfl (fun _ (h : (none : Option Nat) = some _) => by cases h) _ (by first | (simp only [e30, e34]; done) | (simp only [e30, e34]; rfl) | rfl))
      case o11T =>
        intro f W1 hS hd K hK
        obtain ⟨e29, e35, -⟩ := hd
        obtain ⟨b29, e29⟩ := e29
        replace e35 : f 35 = .slice A2 k c2 := e35
        refine AppC.step_full (AppC.elder (feet k55 (okB w)) ws) (by rfl) (.tmp 29) (.tmp 35) 53 55 (.agg #[.int .i64 0, .int .i64 0, .slice none 0 0]) 40 (by rfl) Tryd.underlying53 infoT rfl (by omega) (some ⟨b29, 0, none⟩) 0 [] A2 k c2 (st.drop (st.length - k)) e29 e35 (AppC.C_empty _ _ _) (hcutC _ hS.2) (by omega) ?_
        intro A1 c1 w1 hc hC hb hnew
        rw [List.nil_append] at hC
        simp only [Nat.zero_add] at hc hC ⊢
        exact hK.out (.slice A1 k c1) _ (stepP hS hb) hb ⟨A1, c1, rfl, hc, hC, far_new hnew (fun h => by omega) (by have := HBW.out; have := hS.2.size; unfold okB at *; omega)⟩ (fun q hq => Or.inl (fresh_of hnew hq)) _ (by first | (simp only [e29, e35]; done) | (simp only [e29, e35]; rfl) | rfl)
      case o12T =>
        intro f W1 hS hd K hK
        obtain ⟨e26, e28, e36, -⟩ := hd
        replace e26 : f 26 = .int .i64 p.f0 := e26
        replace e28 : f 28 = .int .i64 p.f1 := e28
        obtain ⟨A36, c36, e36, hc36, hC36, hF36⟩ := e36
        have hil := inh_of (f := f) (x := .int .i64 p.f0) (y := .int .i64 p.f1) (i := 11) (d := 36) (A := A36) (k := k) (c := c36) e36
        go_simp
        exact hK.out (.agg #[.int .i64 p.f0, .int .i64 p.f1, .slice A36 k c36]) _ hS (Below.refl _ _) ⟨_, _, rfl, hc36, hC36, hF36⟩ (fun q hq => Or.inr ⟨rfl, (11, 36), by simp [RegT.deps, Region.binds], rfl, hil q hq⟩) _ (by first | (simp only [e26, e28, e36]; done) | (simp only [e26, e28, e36]; rfl) | rfl)
      case o13T =>
        intro f W1 hS hd K hK
        clear hd
        have hsz := hS.2.size
        have hnz := blk_new W1 (.cells #[.int .i64 0, .int .i64 0, .slice none 0 0] 55)
        go_simp
        exact hK.out (.pointer (some ⟨W1.heap.size, 0, none⟩)) _ (stepP hS ((Below.refl _ _).alloc (Nat.le_refl _) _)) ((Below.refl _ _).alloc (Nat.le_refl _) _) ⟨_, rfl, hsz, hnz⟩ (fun q hq => Or.inl (by have hq : some W1.heap.size = some q := hq; injection hq with hq; subst hq; exact ⟨Nat.le_refl _, by simp⟩)) _ (by rfl)
      case hendT =>
        intro f W1 hS hr hbl
        have e37 := hr 12 _ _ (by omega) rfl rfl
        obtain ⟨A37, c37, e37, hc37, hC37, hF37⟩ := e37
        have e9 := hr 13 _ _ (by omega) rfl rfl
        obtain ⟨b9, e9, hg9, hz9⟩ := e9
        have hap := fun q => hbl 12 13 _ _ 37 9 q (by decide) rfl (by omega) (by omega) rfl rfl rfl rfl
        simp only [e37, e9] at hap
        (try dsimp only)
        generalize f 37 = x37 at *
        subst e37
        generalize f 9 = x9 at *
        subst e9
        try simp only [List.drop_succ_cons, List.drop_zero]
        clear hcut hcutC
        have hfz := fun i => blk_frozen hz9 i
        have hf0 := hfz 0
        have hf1 := hfz 1
        have hf2 := hfz 2
        have hy0 : W1.cell? ⟨b9, 0, none⟩ = some (.int .i64 0) := (blk_cell hz9 0).trans rfl
        have hy1 : W1.cell? ⟨b9, 1, none⟩ = some (.int .i64 0) := (blk_cell hz9 1).trans rfl
        have hy2 : W1.cell? ⟨b9, 2, none⟩ = some (.slice none 0 0) := (blk_cell hz9 2).trans rfl
        obtain ⟨hb2, hx2, hc2⟩ := boxed (x0 := .int .i64 p.f0) (x1 := .int .i64 p.f1) (x2 := .slice A37 k c37) hS.2 hg9 hz9 hC37 (ap_of hap)
        have HB2 := Lib.hid hb2
        have HX2 := Lib.hid hx2
        have HC2 := Lib.hid (F_of hc2 hF37)
        clear hfz hb2 hx2 hc2 hap hbl hr hC37 hF37
        have HBW2 : Hid (okB w ((((W1.setCell ⟨b9, 0, none⟩ (.int .i64 p.f0)).setCell ⟨b9, 1, none⟩ (.int .i64 p.f1)).setCell ⟨b9, 2, none⟩ (.slice A37 k c37)).heap.size)) := Lib.hid (by have := HBW.out; have := HB2.out.size; unfold okB at *; omega)
        have HPB2 := Lib.hid (blk_below HPB.out HB2.out)
        generalize hw2 : ((W1.setCell ⟨b9, 0, none⟩ (.int .i64 p.f0)).setCell ⟨b9, 1, none⟩ (.int .i64 p.f1)).setCell ⟨b9, 2, none⟩ (.slice A37 k c37) = w2 at HB2 HX2 HC2 HPB2 HBW2
        obtain ⟨rs, hrs⟩ : ∃ rs, rs = toRs st := ⟨_, rfl⟩
        have HRS := Lib.hid hrs
        obtain ⟨B2, d2, hcut, hcutRC⟩ := cut_tail (AppC.elder (feet k58 (okB w)) w2) 56 58 Tryd.underlying56 HIR.out HSR.out B st.length cb k hkn HI1.out.b.2
        replace hcutRC := fun (W : World) (hb : Below w2.heap.size w2 W) => hcutRC W rs (AppC.C_elder (Kd.F_rows (by rw [hrs]; exact Kd.F_below HI1.out.b.1 HB2.out)) hb)
        clear hrs
        have hw2' := hw2
        go_wp2_with fail
        (try rw [hw2])
        clear hw2 hw2' hS hz9 hf0 hf1 hf2 hy0 hy1 hy2
        clear W1
        refine RegT.regionT (F := ?FR) (fun W => W.heap[pb]? = some (.cells #[.int .i64 p.f0, .int .i64 p.f1, .int .i64 p.f2] 157 (0, 0)) ∧ Below w2.heap.size w2 W) [fun v _ => v = .pointer (some ⟨pb, 0, none⟩), fun v _ => v = .int .i64 p.f0, fun v _ => v = .pointer (some ⟨pb, 1, none⟩), fun v _ => v = .int .i64 p.f1, fun v _ => ∃ b, v = .slice (some ⟨b, 0, none⟩) 0 0, fun v _ => v = .slice B st.length cb, fun v _ => v = .slice B st.length cb, fun v _ => v = .int .i64 (st.length : Int), fun v _ => v = .int .i64 (k : Int), fun v _ => v = .int .i64 ((st.length : Int) - (k : Int)), fun v _ => v = .slice B2 k d2, fun v W => ∃ A' c', v = .slice A' k c' ∧ k ≤ c' ∧ Kd.C (AppC.elder (feet k58 (okB w)) w2) W A' k (rs.drop (st.length - k)) ∧ farA w A' k, fun v W => ∃ A' c', v = .agg #[.int .i64 p.f0, .int .i64 p.f1, .slice A' k c'] ∧ k ≤ c' ∧ Kd.C (AppC.elder (feet k58 (okB w)) w2) W A' k (rs.drop (st.length - k)) ∧ farA w A' k, fun v W => ∃ b, v = .pointer (some ⟨b, 0, none⟩) ∧ w2.heap.size ≤ b ∧ W.heap[b]? = some (.cells #[.int .i64 0, .int .i64 0, .slice none 0 0] 58 (0, 0))] (fun i v => match i with | 11 => RegT.blS v | 12 => RegT.blL 2 v | 13 => RegT.blP v | _ => none) (fun i => match i with | 13 => true | _ => false) 14 ?hFR (by kernel_rfl) (by kernel_rfl) (by kernel_rfl) (by kernel_rfl) (by kernel_rfl) (by simp) ⟨fun _ _ _ h _ => h, fun _ _ _ h _ => h, fun _ _ _ h _ => h, fun _ _ _ h _ => h, fun _ _ _ h _ => h, fun _ _ _ h _ => h, fun _ _ _ h _ => h, fun _ _ _ h _ => h, fun _ _ _ h _ => h, fun _ _ _ h _ => h, fun _ _ _ h _ => h, fun _ _ _ ⟨A', c', h1, h2, h3, h4⟩ hb => ⟨A', c', h1, h2, Kd.C_below h3 hb, h4⟩, fun _ _ _ ⟨A', c', h1, h2, h3, h4⟩ hb => ⟨A', c', h1, h2, Kd.C_below h3 hb, h4⟩, fun _ _ _ ⟨b, h1, h2, h3⟩ hb => ⟨b, h1, h2, blk_below h3 hb⟩, trivial⟩ ?hSR ⟨?o0R, ?o1R, ?o2R, ?o3R, ?o4R, ?o5R, ?o6R, ?o7R, ?o8R, ?o9R, ?o10R, ?o11R, ?o12R, ?o13R, trivial⟩ ?hendR
        case hFR => intro f; (try simp only [List.take_succ_cons, List.take_zero, RegT.fillIn, RegT.fv, Act.put, List.setIfInBounds_toArray, List.set_cons_zero, List.set_cons_succ]); exact rfl
        case hSR => exact ⟨blk_drew HPB2.out, below_drew (Below.refl _ _)⟩
        case o0R =>
          intro f W1 hS hd K hK
          clear hd
          (go_simp; exact hK.out (.pointer (some ⟨pb, 0, none⟩)) _ hS (Below.refl _ _) rfl (fun _ (h : (none : Option Nat) = some _) => by cases h) _ (by rfl))
        case o1R =>
          intro f W1 hS hd K hK
          obtain ⟨e38, -⟩ := hd
          replace e38 : f 38 = .pointer (some ⟨pb, 0, none⟩) := e38
          have q0 : W1.cell? ⟨pb, 0, none⟩ = some (.int .i64 p.f0) := (blk_cell hS.1 0).trans rfl
          have q1 : W1.cell? ⟨pb, 1, none⟩ = some (.int .i64 p.f1) := (blk_cell hS.1 1).trans rfl
          (go_simp; exact hK.out (.int .i64 p.f0) _ hS (Below.refl _ _) rfl (fun _ (h : (none : Option Nat) = some _) => by cases h) _ (by first | (simp only [e38]; done) | (simp only [e38]; rfl) | rfl))
        case o2R =>
          intro f W1 hS hd K hK
          clear hd
          (go_simp; exact hK.out (.pointer (some ⟨pb, 1, none⟩)) _ hS (Below.refl _ _) rfl (fun _ (h : (none : Option Nat) = some _) => by cases h) _ (by rfl))
        case o3R =>
          intro f W1 hS hd K hK
          obtain ⟨e40, -⟩ := hd
          replace e40 : f 40 = .pointer (some ⟨pb, 1, none⟩) := e40
          have q0 : W1.cell? ⟨pb, 0, none⟩ = some (.int .i64 p.f0) := (blk_cell hS.1 0).trans rfl
          have q1 : W1.cell? ⟨pb, 1, none⟩ = some (.int .i64 p.f1) := (blk_cell hS.1 1).trans rfl
          (go_simp; exact hK.out (.int .i64 p.f1) _ hS (Below.refl _ _) rfl (fun _ (h : (none : Option Nat) = some _) => by cases h) _ (by first | (simp only [e40]; done) | (simp only [e40]; rfl) | rfl))
        case o4R =>
          intro f W1 hS hd K hK
          clear hd
          go_simp
          exact hK.out (.slice (some ⟨W1.heap.size, 0, none⟩) 0 0) _ (stepP hS ((Below.refl _ _).alloc (Nat.le_refl _) _)) ((Below.refl _ _).alloc (Nat.le_refl _) _) ⟨_, rfl⟩ (fun _ (h : (none : Option Nat) = some _) => by cases h) _ (by rfl)
        case o5R =>
          intro f W1 hS hd K hK
          clear hd
          (go_simp; exact hK.out (.slice B st.length cb) _ hS (Below.refl _ _) rfl (fun _ (h : (none : Option Nat) = some _) => by cases h) _ (by rfl))
        case o6R =>
          intro f W1 hS hd K hK
          clear hd
          (go_simp; exact hK.out (.slice B st.length cb) _ hS (Below.refl _ _) rfl (fun _ (h : (none : Option Nat) = some _) => by cases h) _ (by rfl))
        case o7R =>
          intro f W1 hS hd K hK
          obtain ⟨e44, -⟩ := hd
          replace e44 : f 44 = .slice B st.length cb := e44
          (go_simp; exact hK.out (.int .i64 (st.length : Int)) _ hS (Below.refl _ _) rfl (fun _ (h : (none : Option Nat) = some _) => by cases h) _ (by first | (simp only [e44]; done) | (simp only [e44]; rfl) | rfl))
        case o8R =>
          intro f W1 hS hd K hK
          clear hd
          (go_simp; exact hK.out (.int .i64 (k : Int)) _ hS (Below.refl _ _) rfl (fun _ (h : (none : Option Nat) = some _) => by cases h) _ (by rfl))
        case o9R =>
          intro f W1 hS hd K hK
          obtain ⟨e45, e46, -⟩ := hd
          replace e45 : f 45 = .int .i64 (st.length : Int) := e45
          replace e46 : f 46 = .int .i64 (k : Int) := e46
          have hw := sub_wrap st.length k hkn (by omega)
          (go_simp; exact hK.out (.int .i64 ((st.length : Int) - (k : Int))) _ hS (Below.refl _ _) rfl (fun _ (h : (none : Option Nat) = some _) => by cases h) _ (by first | (simp only [e45, e46, hw]; done) | (simp only [e45, e46, hw]; rfl) | rfl))
        case o10R =>
          intro f W1 hS hd K hK
          obtain ⟨e43, e47, -⟩ := hd
          replace e43 : f 43 = .slice B st.length cb := e43
          replace e47 : f 47 = .int .i64 ((st.length : Int) - (k : Int)) := e47
          (go_simp; exact hK.out (.slice B2 k d2) _ hS (Below.refl _ _) rfl (fun _ (h : (none : Option Nat) = some _) => by cases h) _ (by first | (simp only [e43, e47]; done) | (simp only [e43, e47]; rfl) | rfl))
        case o11R =>
          intro f W1 hS hd K hK
          obtain ⟨e42, e48, -⟩ := hd
          obtain ⟨b42, e42⟩ := e42
          replace e48 : f 48 = .slice B2 k d2 := e48
          refine AppC.step_full (AppC.elder (feet k58 (okB w)) w2) (by rfl) (.tmp 42) (.tmp 48) 56 58 (.agg #[.int .i64 0, .int .i64 0, .slice none 0 0]) 40 (by rfl) Tryd.underlying56 infoR rfl (by omega) (some ⟨b42, 0, none⟩) 0 [] B2 k d2 (rs.drop (st.length - k)) e42 e48 (AppC.C_empty _ _ _) (hcutRC _ hS.2) (by omega) ?_
          intro A1 c1 w1 hc hC hb hnew
          rw [List.nil_append] at hC
          simp only [Nat.zero_add] at hc hC ⊢
          exact hK.out (.slice A1 k c1) _ (stepP hS hb) hb ⟨A1, c1, rfl, hc, hC, far_new hnew (fun h => by omega) (by have := HBW2.out; have := hS.2.size; unfold okB at *; omega)⟩ (fun q hq => Or.inl (fresh_of hnew hq)) _ (by first | (simp only [e42, e48]; done) | (simp only [e42, e48]; rfl) | rfl)
        case o12R =>
          intro f W1 hS hd K hK
          obtain ⟨e39, e41, e49, -⟩ := hd
          replace e39 : f 39 = .int .i64 p.f0 := e39
          replace e41 : f 41 = .int .i64 p.f1 := e41
          obtain ⟨A49, c49, e49, hc49, hC49, hF49⟩ := e49
          have hil := inh_of (f := f) (x := .int .i64 p.f0) (y := .int .i64 p.f1) (i := 11) (d := 49) (A := A49) (k := k) (c := c49) e49
          go_simp
          exact hK.out (.agg #[.int .i64 p.f0, .int .i64 p.f1, .slice A49 k c49]) _ hS (Below.refl _ _) ⟨_, _, rfl, hc49, hC49, hF49⟩ (fun q hq => Or.inr ⟨rfl, (11, 49), by simp [RegT.deps, Region.binds], rfl, hil q hq⟩) _ (by first | (simp only [e39, e41, e49]; done) | (simp only [e39, e41, e49]; rfl) | rfl)
        case o13R =>
          intro f W1 hS hd K hK
          clear hd
          have hsz := hS.2.size
          have hnz := blk_new W1 (.cells #[.int .i64 0, .int .i64 0, .slice none 0 0] 58)
          go_simp
          exact hK.out (.pointer (some ⟨W1.heap.size, 0, none⟩)) _ (stepP hS ((Below.refl _ _).alloc (Nat.le_refl _) _)) ((Below.refl _ _).alloc (Nat.le_refl _) _) ⟨_, rfl, hsz, hnz⟩ (fun q hq => Or.inl (by have hq : some W1.heap.size = some q := hq; injection hq with hq; subst hq; exact ⟨Nat.le_refl _, by simp⟩)) _ (by rfl)
        case hendR =>
          intro f W1 hS hr hbl
          have e50 := hr 12 _ _ (by omega) rfl rfl
          obtain ⟨A50, c50, e50, hc50, hC50, hF50⟩ := e50
          have e10 := hr 13 _ _ (by omega) rfl rfl
          obtain ⟨b10, e10, hg10, hz10⟩ := e10
          have hap := fun q => hbl 12 13 _ _ 50 10 q (by decide) rfl (by omega) (by omega) rfl rfl rfl rfl
          simp only [e50, e10] at hap
          (try dsimp only)
          generalize f 50 = x50 at *
          subst e50
          generalize f 10 = x10 at *
          subst e10
          try simp only [List.drop_succ_cons, List.drop_zero]
          clear hcut hcutRC
          have hfz := fun i => blk_frozen hz10 i
          have hf0 := hfz 0
          have hf1 := hfz 1
          have hf2 := hfz 2
          have hy0 : W1.cell? ⟨b10, 0, none⟩ = some (.int .i64 0) := (blk_cell hz10 0).trans rfl
          have hy1 : W1.cell? ⟨b10, 1, none⟩ = some (.int .i64 0) := (blk_cell hz10 1).trans rfl
          have hy2 : W1.cell? ⟨b10, 2, none⟩ = some (.slice none 0 0) := (blk_cell hz10 2).trans rfl
          obtain ⟨hb3, hx3, hc3⟩ := boxed (x0 := .int .i64 p.f0) (x1 := .int .i64 p.f1) (x2 := .slice A50 k c50) hS.2 hg10 hz10 hC50 (ap_of hap)
          generalize hw3 : ((W1.setCell ⟨b10, 0, none⟩ (.int .i64 p.f0)).setCell ⟨b10, 1, none⟩ (.int .i64 p.f1)).setCell ⟨b10, 2, none⟩ (.slice A50 k c50) = w3 at hb3 hx3 hc3
          have hb23 := HB2.out.trans (hb3.mono HB2.out.size)
          have HI3 := Lib.hid (HI1.out.step hb23)
          have HX := Lib.hid (InX11.mk (w := w) (ws := w3) (p := p) (k := k) (st := st) (rs := rs) (A := A) (B := B) (x := ⟨p.f0, p.f1, st.drop (st.length - k)⟩) (y := ⟨p.f0, p.f1, rs.drop (st.length - k)⟩) (bx := b9) (by_ := b10) (Tx := A37) (tcx := c37) (Ty := A50) (tcy := c50) (W := w3) (Below.refl _ _) ⟨by have := HBW2.out; have := hb3.size; unfold okB at *; omega, Nat.le_refl _⟩ HI3.out.a.1 (by rw [HRS.out]; exact HI3.out.b.1) (blk_below HX2.out hb3) hx3 ⟨Kd.F_below HC2.out hb3, hc37, rfl, rfl⟩ ⟨F_of hc3 hF50, hc50, rfl, rfl⟩)
          clear hfz hb3 hx3 hc3 hap hbl hr hC50 hF50 hb23
          have hw3' := hw3
          go_wp2_with fail
          (try rw [hw3])
          clear hw3 hw3' hS hz10 hf0 hf1 hf2 hy0 hy1 hy2
          clear W1
          obtain ⟨x, hx⟩ : ∃ x : TTree, x = ⟨p.f0, p.f1, st.drop (st.length - k)⟩ := ⟨_, rfl⟩
          obtain ⟨y, hy⟩ : ∃ y : RTree, y = ⟨p.f0, p.f1, rs.drop (st.length - k)⟩ := ⟨_, rfl⟩
          rw [← hx, ← hy] at HX
          have HXE := Lib.hid hx
          have HYE := Lib.hid hy
          clear hx hy
          generalize hbx : b9 = bx at *
          generalize hby : b10 = by_ at *
          generalize hTx : A37 = Tx at *
          generalize hcx : c37 = tcx at *
          generalize hTy : A50 = Ty at *
          generalize hcy : c50 = tcy at *
          clear hbx hby hTx hcx hTy hcy
          have hcut := fun W => cut_head 53 55 Tryd.underlying53 HIT.out A st.length ca k hkn HI1.out.a.2 W
          have hcutR := fun W => cut_head 56 58 Tryd.underlying56 HIR.out B st.length cb k hkn HI1.out.b.2 W
          clear HI1 HI HB2 HX2 HC2 HPB HPB2 HWS HBW HBW2
          refine RegT.regionT (F := ?FZ) (InX11 w w3 p k st rs A B x y bx by_ Tx tcx Ty tcy) [fun v _ => v = .slice A st.length ca, fun v _ => v = .slice A st.length ca, fun v _ => v = .int .i64 (st.length : Int), fun v _ => v = .int .i64 (k : Int), fun v _ => v = .int .i64 ((st.length : Int) - (k : Int)), fun v _ => v = .slice A st.length ca, fun v _ => v = .int .i64 (st.length : Int), fun v _ => v = .int .i64 (k : Int), fun v _ => v = .int .i64 ((st.length : Int) - (k : Int)), fun v _ => v = .slice A (st.length - k) (st.length - k), fun v _ => v = .agg #[.int .i64 p.f0, .int .i64 p.f1, .slice Tx k tcx], fun v W => ∃ b, v = .slice (some ⟨b, 0, none⟩) 1 1 ∧ Kd.C (feet k55 (okB w)) W (some ⟨b, 0, none⟩) 1 [x], fun v W => ∃ A' c', v = .slice A' ((st.length - k) + 1) c' ∧ (st.length - k) + 1 ≤ c' ∧ Kd.C (feet k55 (okB w)) W A' ((st.length - k) + 1) (st.take (st.length - k) ++ [x]) ∧ farA w A' ((st.length - k) + 1), fun v _ => v = .slice B st.length cb, fun v _ => v = .slice B st.length cb, fun v _ => v = .int .i64 (st.length : Int), fun v _ => v = .int .i64 (k : Int), fun v _ => v = .int .i64 ((st.length : Int) - (k : Int)), fun v _ => v = .slice B st.length cb, fun v _ => v = .int .i64 (st.length : Int), fun v _ => v = .int .i64 (k : Int), fun v _ => v = .int .i64 ((st.length : Int) - (k : Int)), fun v _ => v = .slice B (st.length - k) (st.length - k), fun v _ => v = .agg #[.int .i64 p.f0, .int .i64 p.f1, .slice Ty k tcy], fun v W => ∃ b, v = .slice (some ⟨b, 0, none⟩) 1 1 ∧ Kd.C (feet k58 (okB w)) W (some ⟨b, 0, none⟩) 1 [y], fun v W => ∃ A' c', v = .slice A' ((st.length - k) + 1) c' ∧ (st.length - k) + 1 ≤ c' ∧ Kd.C (feet k58 (okB w)) W A' ((st.length - k) + 1) (rs.take (st.length - k) ++ [y]) ∧ farA w A' ((st.length - k) + 1)] (fun i v => match i with  | _ => none) (fun i => match i with  | _ => false) 26 ?hFZ (by kernel_rfl) (by kernel_rfl) (by kernel_rfl) (by kernel_rfl) (by kernel_rfl) (by simp) ⟨fun _ _ _ h _ => h, fun _ _ _ h _ => h, fun _ _ _ h _ => h, fun _ _ _ h _ => h, fun _ _ _ h _ => h, fun _ _ _ h _ => h, fun _ _ _ h _ => h, fun _ _ _ h _ => h, fun _ _ _ h _ => h, fun _ _ _ h _ => h, fun _ _ _ h _ => h, fun _ _ _ ⟨b, h1, h2⟩ hb => ⟨b, h1, Kd.C_below h2 hb⟩, fun _ _ _ ⟨A', c', h1, h2, h3, h4⟩ hb => ⟨A', c', h1, h2, Kd.C_below h3 hb, h4⟩, fun _ _ _ h _ => h, fun _ _ _ h _ => h, fun _ _ _ h _ => h, fun _ _ _ h _ => h, fun _ _ _ h _ => h, fun _ _ _ h _ => h, fun _ _ _ h _ => h, fun _ _ _ h _ => h, fun _ _ _ h _ => h, fun _ _ _ h _ => h, fun _ _ _ h _ => h, fun _ _ _ ⟨b, h1, h2⟩ hb => ⟨b, h1, Kd.C_below h2 hb⟩, fun _ _ _ ⟨A', c', h1, h2, h3, h4⟩ hb => ⟨A', c', h1, h2, Kd.C_below h3 hb, h4⟩, trivial⟩ ?hSZ ⟨?o0Z, ?o1Z, ?o2Z, ?o3Z, ?o4Z, ?o5Z, ?o6Z, ?o7Z, ?o8Z, ?o9Z, ?o10Z, ?o11Z, ?o12Z, ?o13Z, ?o14Z, ?o15Z, ?o16Z, ?o17Z, ?o18Z, ?o19Z, ?o20Z, ?o21Z, ?o22Z, ?o23Z, ?o24Z, ?o25Z, trivial⟩ ?hendZ
          case hFZ => intro f; (try simp only [List.take_succ_cons, List.take_zero, RegT.fillIn, RegT.fv, Act.put, List.setIfInBounds_toArray, List.set_cons_zero, List.set_cons_succ]); exact rfl
          case hSZ => exact HX.out.step (below_drew (Below.refl _ _))
          case o0Z =>
            intro f W1 hS hd K hK
            clear hd
            (go_simp; exact hK.out (.slice A st.length ca) _ hS (Below.refl _ _) rfl (fun _ (h : (none : Option Nat) = some _) => by cases h) _ (by rfl))
          case o1Z =>
            intro f W1 hS hd K hK
            clear hd
            (go_simp; exact hK.out (.slice A st.length ca) _ hS (Below.refl _ _) rfl (fun _ (h : (none : Option Nat) = some _) => by cases h) _ (by rfl))
          case o2Z =>
            intro f W1 hS hd K hK
            obtain ⟨e52, -⟩ := hd
            replace e52 : f 52 = .slice A st.length ca := e52
            (go_simp; exact hK.out (.int .i64 (st.length : Int)) _ hS (Below.refl _ _) rfl (fun _ (h : (none : Option Nat) = some _) => by cases h) _ (by first | (simp only [e52]; done) | (simp only [e52]; rfl) | rfl))
          case o3Z =>
            intro f W1 hS hd K hK
            clear hd
            (go_simp; exact hK.out (.int .i64 (k : Int)) _ hS (Below.refl _ _) rfl (fun _ (h : (none : Option Nat) = some _) => by cases h) _ (by rfl))
          case o4Z =>
            intro f W1 hS hd K hK
            obtain ⟨e53, e54, -⟩ := hd
            replace e53 : f 53 = .int .i64 (st.length : Int) := e53
            replace e54 : f 54 = .int .i64 (k : Int) := e54
            have hw := sub_wrap st.length k hkn (by omega)
            (go_simp; exact hK.out (.int .i64 ((st.length : Int) - (k : Int))) _ hS (Below.refl _ _) rfl (fun _ (h : (none : Option Nat) = some _) => by cases h) _ (by first | (simp only [e53, e54, hw]; done) | (simp only [e53, e54, hw]; rfl) | rfl))
          case o5Z =>
            intro f W1 hS hd K hK
            clear hd
            (go_simp; exact hK.out (.slice A st.length ca) _ hS (Below.refl _ _) rfl (fun _ (h : (none : Option Nat) = some _) => by cases h) _ (by rfl))
          case o6Z =>
            intro f W1 hS hd K hK
            obtain ⟨e56, -⟩ := hd
            replace e56 : f 56 = .slice A st.length ca := e56
            (go_simp; exact hK.out (.int .i64 (st.length : Int)) _ hS (Below.refl _ _) rfl (fun _ (h : (none : Option Nat) = some _) => by cases h) _ (by first | (simp only [e56]; done) | (simp only [e56]; rfl) | rfl))
          case o7Z =>
            intro f W1 hS hd K hK
            clear hd
            (go_simp; exact hK.out (.int .i64 (k : Int)) _ hS (Below.refl _ _) rfl (fun _ (h : (none : Option Nat) = some _) => by cases h) _ (by rfl))
          case o8Z =>
            intro f W1 hS hd K hK
            obtain ⟨e57, e58, -⟩ := hd
            replace e57 : f 57 = .int .i64 (st.length : Int) := e57
            replace e58 : f 58 = .int .i64 (k : Int) := e58
            have hw := sub_wrap st.length k hkn (by omega)
            (go_simp; exact hK.out (.int .i64 ((st.length : Int) - (k : Int))) _ hS (Below.refl _ _) rfl (fun _ (h : (none : Option Nat) = some _) => by cases h) _ (by first | (simp only [e57, e58, hw]; done) | (simp only [e57, e58, hw]; rfl) | rfl))
          case o9Z =>
            intro f W1 hS hd K hK
            obtain ⟨e51, e55, e59, -⟩ := hd
            replace e51 : f 51 = .slice A st.length ca := e51
            replace e55 : f 55 = .int .i64 ((st.length : Int) - (k : Int)) := e55
            replace e59 : f 59 = .int .i64 ((st.length : Int) - (k : Int)) := e59
            (go_simp; exact hK.out (.slice A (st.length - k) (st.length - k)) _ hS (Below.refl _ _) rfl (fun _ (h : (none : Option Nat) = some _) => by cases h) _ (by first | (simp only [e51, e55, e59]; done) | (simp only [e51, e55, e59]; rfl) | rfl))
          case o10Z =>
            intro f W1 hS hd K hK
            clear hd
            have q0 := hS.x0
            have q1 := hS.x1
            have q2 := hS.x2
            have q3 := hS.y0
            have q4 := hS.y1
            have q5 := hS.y2
            (go_simp; exact hK.out (.agg #[.int .i64 p.f0, .int .i64 p.f1, .slice Tx k tcx]) _ hS (Below.refl _ _) rfl (fun _ (h : (none : Option Nat) = some _) => by cases h) _ (by rfl))
          case o11Z =>
            intro f W1 hS hd K hK
            obtain ⟨e61, -⟩ := hd
            replace e61 : f 61 = .agg #[.int .i64 p.f0, .int .i64 p.f1, .slice Tx k tcx] := e61
            have h1 := AppC.one_C (feet k55 (okB w)) W1 55 x [.int .i64 p.f0, .int .i64 p.f1, .slice Tx k tcx] hS.xk
            go_simp
            exact hK.out (.slice (some ⟨W1.heap.size, 0, none⟩) 1 1) _ (InX11.step hS ((Below.refl _ _).alloc (Nat.le_refl _) _)) ((Below.refl _ _).alloc (Nat.le_refl _) _) ⟨_, rfl, h1⟩ (fun _ (h : (none : Option Nat) = some _) => by cases h) _ (by first | (simp only [e61]; done) | (simp only [e61]; rfl) | rfl)
          case o12Z =>
            intro f W1 hS hd K hK
            obtain ⟨e60, e62, -⟩ := hd
            replace e60 : f 60 = .slice A (st.length - k) (st.length - k) := e60
            obtain ⟨b62, e62, hC62⟩ := e62
            refine AppC.step_full (feet k55 (okB w)) (by rfl) (.tmp 60) (.tmp 62) 53 55 (.agg #[.int .i64 0, .int .i64 0, .slice none 0 0]) 40 (by rfl) Tryd.underlying53 infoT rfl (by omega) A (st.length - k) (st.take (st.length - k)) (some ⟨b62, 0, none⟩) 1 1 [x] e60 e62 (hS.sk k) hC62 (by omega) ?_
            intro A1 c1 w1 hc hC hb hnew
            exact hK.out (.slice A1 ((st.length - k) + 1) c1) _ (InX11.step hS hb) hb ⟨A1, c1, rfl, hc, hC, far_new hnew (fun _ => by omega) (by have := hS.big; unfold okB at *; omega)⟩ (fun _ (h : (none : Option Nat) = some _) => by cases h) _ (by first | (simp only [e60, e62]; done) | (simp only [e60, e62]; rfl) | rfl)
          case o13Z =>
            intro f W1 hS hd K hK
            clear hd
            (go_simp; exact hK.out (.slice B st.length cb) _ hS (Below.refl _ _) rfl (fun _ (h : (none : Option Nat) = some _) => by cases h) _ (by rfl))
          case o14Z =>
            intro f W1 hS hd K hK
            clear hd
            (go_simp; exact hK.out (.slice B st.length cb) _ hS (Below.refl _ _) rfl (fun _ (h : (none : Option Nat) = some _) => by cases h) _ (by rfl))
          case o15Z =>
            intro f W1 hS hd K hK
            obtain ⟨e65, -⟩ := hd
            replace e65 : f 65 = .slice B st.length cb := e65
            (go_simp; exact hK.out (.int .i64 (st.length : Int)) _ hS (Below.refl _ _) rfl (fun _ (h : (none : Option Nat) = some _) => by cases h) _ (by first | (simp only [e65]; done) | (simp only [e65]; rfl) | rfl))
          case o16Z =>
            intro f W1 hS hd K hK
            clear hd
            (go_simp; exact hK.out (.int .i64 (k : Int)) _ hS (Below.refl _ _) rfl (fun _ (h : (none : Option Nat) = some _) => by cases h) _ (by rfl))
          case o17Z =>
            intro f W1 hS hd K hK
            obtain ⟨e66, e67, -⟩ := hd
            replace e66 : f 66 = .int .i64 (st.length : Int) := e66
            replace e67 : f 67 = .int .i64 (k : Int) := e67
            have hw := sub_wrap st.length k hkn (by omega)
            (go_simp; exact hK.out (.int .i64 ((st.length : Int) - (k : Int))) _ hS (Below.refl _ _) rfl (fun _ (h : (none : Option Nat) = some _) => by cases h) _ (by first | (simp only [e66, e67, hw]; done) | (simp only [e66, e67, hw]; rfl) | rfl))
          case o18Z =>
            intro f W1 hS hd K hK
            clear hd
            (go_simp; exact hK.out (.slice B st.length cb) _ hS (Below.refl _ _) rfl (fun _ (h : (none : Option Nat) = some _) => by cases h) _ (by rfl))
          case o19Z =>
            intro f W1 hS hd K hK
            obtain ⟨e69, -⟩ := hd
            replace e69 : f 69 = .slice B st.length cb := e69
            (go_simp; exact hK.out (.int .i64 (st.length : Int)) _ hS (Below.refl _ _) rfl (fun _ (h : (none : Option Nat) = some _) => by cases h) _ (by first | (simp only [e69]; done) | (simp only [e69]; rfl) | rfl))
          case o20Z =>
            intro f W1 hS hd K hK
            clear hd
            (go_simp; exact hK.out (.int .i64 (k : Int)) _ hS (Below.refl _ _) rfl (fun _ (h : (none : Option Nat) = some _) => by cases h) _ (by rfl))
          case o21Z =>
            intro f W1 hS hd K hK
            obtain ⟨e70, e71, -⟩ := hd
            replace e70 : f 70 = .int .i64 (st.length : Int) := e70
            replace e71 : f 71 = .int .i64 (k : Int) := e71
            have hw := sub_wrap st.length k hkn (by omega)
            (go_simp; exact hK.out (.int .i64 ((st.length : Int) - (k : Int))) _ hS (Below.refl _ _) rfl (fun _ (h : (none : Option Nat) = some _) => by cases h) _ (by first | (simp only [e70, e71, hw]; done) | (simp only [e70, e71, hw]; rfl) | rfl))
          case o22Z =>
            intro f W1 hS hd K hK
            obtain ⟨e64, e68, e72, -⟩ := hd
            replace e64 : f 64 = .slice B st.length cb := e64
            replace e68 : f 68 = .int .i64 ((st.length : Int) - (k : Int)) := e68
            replace e72 : f 72 = .int .i64 ((st.length : Int) - (k : Int)) := e72
            (go_simp; exact hK.out (.slice B (st.length - k) (st.length - k)) _ hS (Below.refl _ _) rfl (fun _ (h : (none : Option Nat) = some _) => by cases h) _ (by first | (simp only [e64, e68, e72]; done) | (simp only [e64, e68, e72]; rfl) | rfl))
          case o23Z =>
            intro f W1 hS hd K hK
            clear hd
            have q0 := hS.x0
            have q1 := hS.x1
            have q2 := hS.x2
            have q3 := hS.y0
            have q4 := hS.y1
            have q5 := hS.y2
            (go_simp; exact hK.out (.agg #[.int .i64 p.f0, .int .i64 p.f1, .slice Ty k tcy]) _ hS (Below.refl _ _) rfl (fun _ (h : (none : Option Nat) = some _) => by cases h) _ (by rfl))
          case o24Z =>
            intro f W1 hS hd K hK
            obtain ⟨e74, -⟩ := hd
            replace e74 : f 74 = .agg #[.int .i64 p.f0, .int .i64 p.f1, .slice Ty k tcy] := e74
            have h1 := AppC.one_C (feet k58 (okB w)) W1 58 y [.int .i64 p.f0, .int .i64 p.f1, .slice Ty k tcy] hS.yk
            go_simp
            exact hK.out (.slice (some ⟨W1.heap.size, 0, none⟩) 1 1) _ (InX11.step hS ((Below.refl _ _).alloc (Nat.le_refl _) _)) ((Below.refl _ _).alloc (Nat.le_refl _) _) ⟨_, rfl, h1⟩ (fun _ (h : (none : Option Nat) = some _) => by cases h) _ (by first | (simp only [e74]; done) | (simp only [e74]; rfl) | rfl)
          case o25Z =>
            intro f W1 hS hd K hK
            obtain ⟨e73, e75, -, -⟩ := hd
            replace e73 : f 73 = .slice B (st.length - k) (st.length - k) := e73
            obtain ⟨b75, e75, hC75⟩ := e75
            refine AppC.step_full (feet k58 (okB w)) (by rfl) (.tmp 73) (.tmp 75) 56 58 (.agg #[.int .i64 0, .int .i64 0, .slice none 0 0]) 40 (by rfl) Tryd.underlying56 infoR rfl (by omega) B (st.length - k) (rs.take (st.length - k)) (some ⟨b75, 0, none⟩) 1 1 [y] e73 e75 (hS.rk k) hC75 (by omega) ?_
            intro A1 c1 w1 hc hC hb hnew
            exact hK.out (.slice A1 ((st.length - k) + 1) c1) _ (InX11.step hS hb) hb ⟨A1, c1, rfl, hc, hC, far_new hnew (fun _ => by omega) (by have := hS.big; unfold okB at *; omega)⟩ (fun _ (h : (none : Option Nat) = some _) => by cases h) _ (by first | (simp only [e73, e75]; done) | (simp only [e73, e75]; rfl) | rfl)
          case hendZ =>
            intro f W1 hS hr hbl
            have e63 := hr 12 _ _ (by omega) rfl rfl
            obtain ⟨A63, c63, e63, hc63, hC63, hF63⟩ := e63
            have e76 := hr 25 _ _ (by omega) rfl rfl
            obtain ⟨B76, c76, e76, hc76, hC76, hF76⟩ := e76
            (try dsimp only)
            generalize f 63 = x63 at *
            subst e63
            generalize f 76 = x76 at *
            subst e76
            try simp only [List.drop_succ_cons, List.drop_zero]
            clear hcut hcutR
            have HI4 : Hid (InBd w (bStep st p) A63 c63 B76 c76 W1) := Lib.hid (by
              have hl : (bStep st p).length = st.length - k + 1 := by simp only [bStep, ← HKB.out, List.length_append, List.length_take, List.length_singleton]; omega
              have ht : toRs (bStep st p) = rs.take (st.length - k) ++ [y] := by rw [toRs_map, bStep, ← HKB.out, List.map_append, HYE.out, HRS.out, toRs_map, List.map_take]; simp [toR, toRs_map, List.map_drop]
              refine ⟨HI3.out.bel.trans (hS.bel.mono HI3.out.bel.size), ?_, ?_, ?_, ?_⟩
              · exact blk_below HI3.out.z2 hS.bel
              · exact blk_below HI3.out.z3 hS.bel
              · rw [hl]
                refine ⟨?_, hc63⟩
                have := F_of hC63 hF63
                rw [HXE.out] at this
                unfold bStep
                rw [← HKB.out]
                exact this
              · rw [hl, ht]
                exact ⟨F_of hC76 hF76, hc76⟩)
            have HL4 : Hid ((bStep st p).length = st.length - k + 1) := Lib.hid (by simp only [bStep, ← HKB.out, List.length_append, List.length_take, List.length_singleton]; omega)
            rw [← HL4.out]
            have hjr : (j : Int) + 1 ≤ 1000000 := by omega
            clear hS hr hbl hC63 hC76 hF63 hF76 HX HXE HYE HRS HI3 HKB
            go_wp2
            case roundEnd =>
              refine ⟨⟨j + 1, bStep st p, A63, c63, B76, c76, rfl, rfl, by go_num, HJ.out, HO2, Lib.hid (by have := HL4.out; have := HSJ.out; omega), HI4⟩, ?_⟩
              have := HJ.out
              simp [intOf]
              omega
    · obtain rfl : j = l.length := by omega
      have HF2 : Hid (st = fin) := Lib.hid (by have := HO.out; rwa [List.drop_length, bAll] at this)
      have hst0 : st.length ≠ 0 := by rw [HF2.out]; exact fun h => HNE.out (List.eq_nil_of_length_eq_zero h)
      obtain ⟨m, hm⟩ : ∃ m, st.length = m + 1 := ⟨st.length - 1, by omega⟩
      have hn : st.length ≤ 1000 := by have := HSJ.out; omega
      have hst1 : ((st.length : Int) == 0) = false := by simp only [beq_eq_false_iff_ne, ne_eq]; omega
      have HM := Lib.hid hm
      obtain ⟨ad, T, tc, eA, x0, x1, x2, htc, hTt, hfa⟩ := at_farT HI.out.a.1 m (by omega)
      obtain ⟨bd, R, rc, eB, y0, y1, y2, hrc, hRr, hfb⟩ := at_farR HI.out.b.1 m (by omega)
      obtain ⟨t, ht⟩ : ∃ t, t = st.getD m z55 := ⟨_, rfl⟩
      have hur : (toRs st).getD m z58 = toR t := by
        have h1 : m < st.length := by omega
        rw [ht, toRs_map, List.getD_eq_getElem?_getD, List.getD_eq_getElem?_getD, List.getElem?_map, List.getElem?_eq_getElem h1]; rfl
      have HLA : Hid (fin.getLast? = some t) := Lib.hid (by
        have h1 : m < st.length := by omega
        rw [← HF2.out, List.getLast?_eq_getElem?, ht, List.getD_eq_getElem?_getD, show st.length - 1 = m by omega, List.getElem?_eq_getElem h1]; rfl)
      rw [← ht] at x0 x1 x2 htc hTt
      rw [hur] at y0 y1 y2 hrc hRr
      subst eA
      subst eB
      have HE := Lib.hid (InEnd.mk (w := w) (t := t) (u := toR t) HI.out.bel ⟨_, _, _, HI.out.z2⟩ HI.out.z3 x0 x1 x2 y0 y1 y2 ⟨hfa, hfb⟩ ⟨hTt, htc⟩ ⟨hRr, hrc⟩)
      have hj0 : 0 ≤ (m : Int) := Int.natCast_nonneg _
      have hj1 : (m : Int) < (st.length : Int) := by omega
      clear x0 x1 x2 y0 y1 y2 hfa hfb hTt htc hRr hrc HO HI ht hur hm hst0 hj hjl
      go_wp2_with fail
      clear hst1
      (try generalize ((st.length : Int) == 0) = bb0)
      refine RegT.regionE (E := (fun W W' => W.heap.size ≤ W'.heap.size ∧ (W.heap[w.heap.size]? = some (.cells #[.int .i64 t.f0, .int .i64 t.f1, .slice T t.f2.length tc] 55 (0, 0)) → W'.heap[w.heap.size]? = some (.cells #[.int .i64 t.f0, .int .i64 t.f1, .slice T t.f2.length tc] 55 (0, 0))))) (fun _ _ h => h.1) (F := ?FE) (InEnd w t (toR t) (ad.add (m * 3)) (bd.add (m * 3)) T tc R rc) [fun v _ => v = .slice (some ad) st.length ca, fun v _ => v = .slice (some ad) st.length ca, fun v _ => v = .int .i64 (st.length : Int), fun v _ => v = .int .i64 (m : Int), fun v _ => v = .pointer (some (ad.add (m * 3))), fun v _ => v = .agg #[.int .i64 t.f0, .int .i64 t.f1, .slice T t.f2.length tc], fun v _ => v = .slice (some bd) st.length cb, fun v _ => v = .slice (some bd) st.length cb, fun v _ => v = .int .i64 (st.length : Int), fun v _ => v = .int .i64 (m : Int), fun v _ => v = .pointer (some (bd.add (m * 3))), fun v _ => v = .agg #[.int .i64 (toR t).f0, .int .i64 (toR t).f1, .slice R (toR t).f2.length rc], fun _ W => W.heap[w.heap.size]? = some (.cells #[.int .i64 t.f0, .int .i64 t.f1, .slice T t.f2.length tc] 55 (0, 0))] (fun i v => match i with  | _ => none) (fun i => match i with  | _ => false) 13 ?hFE (by kernel_rfl) (by kernel_rfl) (by kernel_rfl) (by kernel_rfl) (by kernel_rfl) (by simp) ⟨fun _ _ _ h _ => h, fun _ _ _ h _ => h, fun _ _ _ h _ => h, fun _ _ _ h _ => h, fun _ _ _ h _ => h, fun _ _ _ h _ => h, fun _ _ _ h _ => h, fun _ _ _ h _ => h, fun _ _ _ h _ => h, fun _ _ _ h _ => h, fun _ _ _ h _ => h, fun _ _ _ h _ => h, fun _ _ _ h hb => hb.2 h, trivial⟩ ?hSE ⟨?o0E, ?o1E, ?o2E, ?o3E, ?o4E, ?o5E, ?o6E, ?o7E, ?o8E, ?o9E, ?o10E, ?o11E, ?o12E, trivial⟩ ?hendE
      case hFE => intro f; (try simp only [List.take_succ_cons, List.take_zero, RegT.fillIn, RegT.fv, Act.put, List.setIfInBounds_toArray, List.set_cons_zero, List.set_cons_succ]); exact rfl
      case hSE => exact HE.out.drew
      case o0E =>
        intro f W1 hS hd K hK
        clear hd
        (go_simp; exact hK.out (.slice (some ad) st.length ca) _ hS ⟨Nat.le_refl _, fun h => h⟩ rfl (fun _ (h : (none : Option Nat) = some _) => by cases h) _ (by rfl))
      case o1E =>
        intro f W1 hS hd K hK
        clear hd
        (go_simp; exact hK.out (.slice (some ad) st.length ca) _ hS ⟨Nat.le_refl _, fun h => h⟩ rfl (fun _ (h : (none : Option Nat) = some _) => by cases h) _ (by rfl))
      case o2E =>
        intro f W1 hS hd K hK
        obtain ⟨e84, -⟩ := hd
        replace e84 : f 84 = .slice (some ad) st.length ca := e84
        (go_simp; exact hK.out (.int .i64 (st.length : Int)) _ hS ⟨Nat.le_refl _, fun h => h⟩ rfl (fun _ (h : (none : Option Nat) = some _) => by cases h) _ (by first | (simp only [e84]; done) | (simp only [e84]; rfl) | rfl))
      case o3E =>
        intro f W1 hS hd K hK
        obtain ⟨e85, -⟩ := hd
        replace e85 : f 85 = .int .i64 (st.length : Int) := e85
        have hw : IntKind.i64.wrap ((st.length : Int) - 1) = (m : Int) := by rw [HM.out, IntWalk.i64_in _ (by omega)]; omega
        (go_simp; exact hK.out (.int .i64 (m : Int)) _ hS ⟨Nat.le_refl _, fun h => h⟩ rfl (fun _ (h : (none : Option Nat) = some _) => by cases h) _ (by first | (simp only [e85, hw]; done) | (simp only [e85, hw]; rfl) | rfl))
      case o4E =>
        intro f W1 hS hd K hK
        obtain ⟨e83, e86, -⟩ := hd
        replace e83 : f 83 = .slice (some ad) st.length ca := e83
        replace e86 : f 86 = .int .i64 (m : Int) := e86
        (go_simp; exact hK.out (.pointer (some (ad.add (m * 3)))) _ hS ⟨Nat.le_refl _, fun h => h⟩ rfl (fun _ (h : (none : Option Nat) = some _) => by cases h) _ (by first | (simp only [e83, e86]; done) | (simp only [e83, e86]; rfl) | rfl))
      case o5E =>
        intro f W1 hS hd K hK
        obtain ⟨e87, -⟩ := hd
        replace e87 : f 87 = .pointer (some (ad.add (m * 3))) := e87
        have q0 := hS.x0
        have q1 := hS.x1
        have q2 := hS.x2
        have q3 := hS.y0
        have q4 := hS.y1
        have q5 := hS.y2
        (go_simp; exact hK.out (.agg #[.int .i64 t.f0, .int .i64 t.f1, .slice T t.f2.length tc]) _ hS ⟨Nat.le_refl _, fun h => h⟩ rfl (fun _ (h : (none : Option Nat) = some _) => by cases h) _ (by first | (simp only [e87]; done) | (simp only [e87]; rfl) | rfl))
      case o6E =>
        intro f W1 hS hd K hK
        clear hd
        (go_simp; exact hK.out (.slice (some bd) st.length cb) _ hS ⟨Nat.le_refl _, fun h => h⟩ rfl (fun _ (h : (none : Option Nat) = some _) => by cases h) _ (by rfl))
      case o7E =>
        intro f W1 hS hd K hK
        clear hd
        (go_simp; exact hK.out (.slice (some bd) st.length cb) _ hS ⟨Nat.le_refl _, fun h => h⟩ rfl (fun _ (h : (none : Option Nat) = some _) => by cases h) _ (by rfl))
      case o8E =>
        intro f W1 hS hd K hK
        obtain ⟨e90, -⟩ := hd
        replace e90 : f 90 = .slice (some bd) st.length cb := e90
        (go_simp; exact hK.out (.int .i64 (st.length : Int)) _ hS ⟨Nat.le_refl _, fun h => h⟩ rfl (fun _ (h : (none : Option Nat) = some _) => by cases h) _ (by first | (simp only [e90]; done) | (simp only [e90]; rfl) | rfl))
      case o9E =>
        intro f W1 hS hd K hK
        obtain ⟨e91, -⟩ := hd
        replace e91 : f 91 = .int .i64 (st.length : Int) := e91
        have hw : IntKind.i64.wrap ((st.length : Int) - 1) = (m : Int) := by rw [HM.out, IntWalk.i64_in _ (by omega)]; omega
        (go_simp; exact hK.out (.int .i64 (m : Int)) _ hS ⟨Nat.le_refl _, fun h => h⟩ rfl (fun _ (h : (none : Option Nat) = some _) => by cases h) _ (by first | (simp only [e91, hw]; done) | (simp only [e91, hw]; rfl) | rfl))
      case o10E =>
        intro f W1 hS hd K hK
        obtain ⟨e89, e92, -⟩ := hd
        replace e89 : f 89 = .slice (some bd) st.length cb := e89
        replace e92 : f 92 = .int .i64 (m : Int) := e92
        (go_simp; exact hK.out (.pointer (some (bd.add (m * 3)))) _ hS ⟨Nat.le_refl _, fun h => h⟩ rfl (fun _ (h : (none : Option Nat) = some _) => by cases h) _ (by first | (simp only [e89, e92]; done) | (simp only [e89, e92]; rfl) | rfl))
      case o11E =>
        intro f W1 hS hd K hK
        obtain ⟨e93, -⟩ := hd
        replace e93 : f 93 = .pointer (some (bd.add (m * 3))) := e93
        have q0 := hS.x0
        have q1 := hS.x1
        have q2 := hS.x2
        have q3 := hS.y0
        have q4 := hS.y1
        have q5 := hS.y2
        (go_simp; exact hK.out (.agg #[.int .i64 (toR t).f0, .int .i64 (toR t).f1, .slice R (toR t).f2.length rc]) _ hS ⟨Nat.le_refl _, fun h => h⟩ rfl (fun _ (h : (none : Option Nat) = some _) => by cases h) _ (by first | (simp only [e93]; done) | (simp only [e93]; rfl) | rfl))
      case o12E =>
        intro f W1 hS hd K hK
        obtain ⟨e88, -, -, -, -, -, -, -⟩ := hd
        replace e88 : f 88 = .agg #[.int .i64 t.f0, .int .i64 t.f1, .slice T t.f2.length tc] := e88
        obtain ⟨z0, z1, z2, hz⟩ := hS.z2
        have hfz := fun i => blk_frozen hz i
        have hf0 := hfz 0
        have hf1 := hfz 1
        have hf2 := hfz 2
        have hy0 : W1.cell? ⟨w.heap.size, 0, none⟩ = some z0 := (blk_cell hz 0).trans rfl
        have hy1 : W1.cell? ⟨w.heap.size, 1, none⟩ = some z1 := (blk_cell hz 1).trans rfl
        have hy2 : W1.cell? ⟨w.heap.size, 2, none⟩ = some z2 := (blk_cell hz 2).trans rfl
        have hh := blk_set (blk_set (blk_set hz 0 (.int .i64 t.f0)) 1 (.int .i64 t.f1)) 2 (.slice T t.f2.length tc)
        have hS3 := ((hS.set 0 (.int .i64 t.f0) (by decide)).set 1 (.int .i64 t.f1) (by decide)).set 2 (.slice T t.f2.length tc) (by decide)
        clear hfz
        go_simp
        exact hK.out undef _ hS3 ⟨by simp, fun _ => hh⟩ hh (fun _ (h : (none : Option Nat) = some _) => by cases h) _ (by first | (simp only [e88]; done) | (simp only [e88]; rfl) | rfl)
      case hendE =>
        intro f W1 hS hr hrn hbl
        have e94 := hr 11 _ _ (by omega) rfl rfl
        replace e94 : f 94 = .agg #[.int .i64 (toR t).f0, .int .i64 (toR t).f1, .slice R (toR t).f2.length rc] := e94
        (try dsimp only)
        generalize f 94 = x94 at *
        subst e94
        try simp only [List.drop_succ_cons, List.drop_zero]
        obtain ⟨_, hz2⟩ := hrn 12 _ (by omega) rfl rfl
        replace hz2 : W1.heap[w.heap.size]? = some (.cells #[.int .i64 t.f0, .int .i64 t.f1, .slice T t.f2.length tc] 55 (0, 0)) := hz2
        have hz := hS.z3
        have hfz := fun i => blk_frozen hz i
        have hf0 := hfz 0
        have hf1 := hfz 1
        have hf2 := hfz 2
        have hy0 : W1.cell? ⟨w.heap.size + 1, 0, none⟩ = some (.int .i64 0) := (blk_cell hz 0).trans rfl
        have hy1 : W1.cell? ⟨w.heap.size + 1, 1, none⟩ = some (.int .i64 0) := (blk_cell hz 1).trans rfl
        have hy2 : W1.cell? ⟨w.heap.size + 1, 2, none⟩ = some (.slice none 0 0) := (blk_cell hz 2).trans rfl
        have hh := blk_set (blk_set (blk_set hz 0 (.int .i64 (toR t).f0)) 1 (.int .i64 (toR t).f1)) 2 (.slice R (toR t).f2.length rc)
        have hh2 := blk_far (blk_far (blk_far hz2 (p := ⟨w.heap.size + 1, 0, none⟩) (by simp) (.int .i64 (toR t).f0)) (p := ⟨w.heap.size + 1, 1, none⟩) (by simp) (.int .i64 (toR t).f1)) (p := ⟨w.heap.size + 1, 2, none⟩) (by simp) (.slice R (toR t).f2.length rc)
        have hfar : ∀ (i k : Nat), okB w k → k ≠ (⟨w.heap.size + 1, i, none⟩ : Addr).block := fun i k hk e => by unfold okB at hk; simp only at e; omega
        have hT3 := Kd.F_now (Kd.F_far (Kd.F_far (Kd.F_far hS.c.1 (p := ⟨w.heap.size + 1, 0, none⟩) (hfar 0) (.int .i64 (toR t).f0)) (p := ⟨w.heap.size + 1, 1, none⟩) (hfar 1) (.int .i64 (toR t).f1)) (p := ⟨w.heap.size + 1, 2, none⟩) (hfar 2) (.slice R (toR t).f2.length rc))
        have hR3 := Kd.F_now (Kd.F_far (Kd.F_far (Kd.F_far hS.r.1 (p := ⟨w.heap.size + 1, 0, none⟩) (hfar 0) (.int .i64 (toR t).f0)) (p := ⟨w.heap.size + 1, 1, none⟩) (hfar 1) (.int .i64 (toR t).f1)) (p := ⟨w.heap.size + 1, 2, none⟩) (hfar 2) (.slice R (toR t).f2.length rc))
        have hb3 : Below w.heap.size w (((W1.setCell ⟨w.heap.size + 1, 0, none⟩ (.int .i64 (toR t).f0)).setCell ⟨w.heap.size + 1, 1, none⟩ (.int .i64 (toR t).f1)).setCell ⟨w.heap.size + 1, 2, none⟩ (.slice R (toR t).f2.length rc)) := ((hS.bel.setCell (by simp) _).setCell (by simp) _).setCell (by simp) _
        have HH := Lib.hid hh
        have HH2 := Lib.hid hh2
        have HT3 := Lib.hid hT3
        have HR3 := Lib.hid hR3
        have HB3 := Lib.hid hb3
        have HTC := Lib.hid hS.c.2
        have HRC := Lib.hid hS.r.2
        clear hh hh2 hT3 hR3 hb3 hfar hfz hz2 hr hrn hbl hS
        go_wp2
        refine bodyPost_ret (results_two rfl _ _ w.heap.size (w.heap.size + 1) 55 58 _ _ _ _ rfl HH2.out Tryd.underlying55 rfl (by kernel_rfl) rfl HH.out Tryd.underlying58 rfl (by kernel_rfl)) rfl ?_
        exact ⟨t, T, tc, R, rc, HLA.out, rfl, ⟨HT3.out, HTC.out⟩, ⟨HR3.out, HRC.out⟩, HB3.out⟩
end Go.Proofs.YtmdjmbdeeodehaaDoor.G
end
section
set_option linter.unusedVariables false
set_option linter.unusedSimpArgs false
namespace Go.Proofs.YtmdjmbdeeodehaaDoor.G
open Go Go.Proofs Go.Proofs.YtmdjmbdeeodehaaDoor Go.RowKit Go.Proofs.YtmdjmbdeeodehaaDoorW.PrintWords Go.Proofs.YtmdjmbdeeodehaaDoorW.PrintLast Go.Proofs.YtmdjmbdeeodehaaDoorW.PrintMore Go.Proofs.YtmdjmbdeeodehaaDoor.Pure
set_option maxHeartbeats 2000000 in
set_option maxRecDepth 100000 in
theorem leaf_calls (s : Int) (w : World) : Calls Tryd.prog 99 #[.int .i64 s] w fun e w' => e = .returned (.agg #[.int .i64 (-1), .int .i64 s, .slice none 0 0]) ∧ Below w.heap.size w w' := by
  have hu := Tryd.underlying55
  go_enter Tryd.func99, Tryd.ntmps99
  go_wp2
  refine bodyPost_ret (results_cell_row rfl _ _ w.heap.size 55 #[.int .i64 (-1), .int .i64 s, .slice none 0 0] (0, 0) _ rfl (blk_new w _) Tryd.underlying55 rfl (by kernel_rfl)) rfl ?_
  exact ⟨rfl, (Below.refl _ w).alloc (Nat.le_refl _) _⟩
set_option maxHeartbeats 2000000 in
set_option maxRecDepth 100000 in
theorem tclone_calls {α : Type} (d : Kd α) (hsz : d.sz = 3) (A : Option Addr) (c : Nat) (l : List α) (n : Nat) (hl : n ≤ 1000000) (hc : n ≤ c) (w : World) (hr : Kd.C d w A n l) :
    Calls Tryd.prog 145 #[.slice A n c] w fun e w' => ∃ (A1 : Option Addr) (c1 : Nat), e = .returned (.slice A1 n c1) ∧ n ≤ c1 ∧ Kd.C d w' A1 n l ∧ Below w.heap.size w w' ∧ ∀ ad, A1 = some ad → n ≠ 0 → w.heap.size ≤ ad.block := by
  have HR := Lib.hid hr
  have hi : (Tryd.prog.info? 55).map (fun i => (i.zero, i.size, i.bytes)) = some (some (.agg #[.int .i64 0, .int .i64 0, .slice none 0 0]), d.sz, 40) := by rw [hsz]; exact infoT
  have HIN := Lib.hid hi
  have HZ : Hid ((Value.agg #[.int .i64 0, .int .i64 0, .slice none 0 0]).cells.size = d.sz) := Lib.hid (by rw [hsz]; rfl)
  clear hr hi hsz
  cases A with
  | none =>
    have hz : n = 0 := by
      rcases Nat.eq_zero_or_pos n with h | h
      · exact h
      · obtain ⟨ad, h, _⟩ := HR.out.2.2 h; cases h
    subst hz
    obtain rfl : l = [] := List.length_eq_zero_iff.1 HR.out.1
    have hnil := fun W : World => Lib.run_eql_slice_nil (P := Tryd.prog) W 53 55 none 0 c 0 0 Tryd.underlying53
    clear hc hl HIN HZ
    go_enter Tryd.func145, Tryd.ntmps145
    go_wp2
    refine bodyPost_ret (v := .slice none 0 0) (by simp [results, Tryd.results145, go_sem]) rfl ⟨_, _, rfl, Nat.le_refl _, AppC.C_empty _ _ _, Below.refl _ _, fun _ h => by cases h⟩
  | some ad =>
    have hnil := fun W : World => Lib.run_eql_slice_nil (P := Tryd.prog) W 53 55 (some ad) n c 0 0 Tryd.underlying53
    have hB0 : Below w.heap.size w (w.alloc (.cells #[] 55)) := (Below.refl _ _).alloc (Nat.le_refl _) _
    have HB0 := Lib.hid hB0
    have HRR := Lib.hid (Kd.C_below HR.out hB0)
    clear hB0
    go_enter Tryd.func145, Tryd.ntmps145
    go_wp2_with ((with_reducible refine gate_dst (N := 7) rfl ?_); refine AppC.row_full d rfl (.tmp 5) (.tmp 6) 53 55 (.agg #[.int .i64 0, .int .i64 0, .slice none 0 0]) 40 rfl Tryd.underlying53 HIN.out HZ.out (by decide) (some ⟨w.heap.size, 0, none⟩) 0 [] (some ad) n c l rfl rfl (AppC.C_empty _ _ _) HRR.out (by omega) ?_; intro A1 c1 w1 hc1 hC hb hnew)
    rw [List.nil_append] at hC
    simp only [Nat.zero_add] at hc1 hC ⊢
    have HC := Lib.hid hC
    have HB := Lib.hid (HB0.out.trans (hb.mono HB0.out.size))
    have HN : Hid (∀ ad, A1 = some ad → n ≠ 0 → w.heap.size ≤ ad.block) := Lib.hid (fun ad e hn => by
      obtain ⟨h1, _⟩ := hnew (by omega)
      rw [h1] at e
      injection e with e
      rw [← e]
      simp)
    clear hnil hC hb hnew HRR HIN HZ HB0
    go_wp2
    refine bodyPost_ret (v := .slice A1 n c1) (by simp [results, Tryd.results145, go_sem]) rfl ⟨_, _, rfl, hc1, HC.out, HB.out, HN.out⟩
set_option maxHeartbeats 2000000 in
set_option maxRecDepth 100000 in
theorem node_calls (r : Int) (A : Option Addr) (c : Nat) (l : List TTree) (hl : l.length ≤ 1000000) (hc : l.length ≤ c) (w : World) (hr : Kd.C k55 w A l.length l) :
    Calls Tryd.prog 98 #[.int .i64 r, .slice A l.length c] w fun e w' => ∃ (A1 : Option Addr) (c1 : Nat), e = .returned (.agg #[.int .i64 r, .int .i64 0, .slice A1 l.length c1]) ∧ l.length ≤ c1 ∧ Kd.C k55 w' A1 l.length l ∧ Below w.heap.size w w' := by
  have hu := Tryd.underlying55
  have hB0 : Below w.heap.size w (w.alloc (.cells #[.int .i64 0, .int .i64 0, .slice none 0 0] 55)) := (Below.refl _ _).alloc (Nat.le_refl _) _
  have HE := Lib.hid (AppC.C_elder (d := k55) hr hB0)
  have HZ := Lib.hid (blk_new w (.cells #[.int .i64 0, .int .i64 0, .slice none 0 0] 55))
  have HB0 := Lib.hid hB0
  clear hr hB0
  go_enter Tryd.func98, Tryd.ntmps98
  go_wp2_with fail
  refine (tclone_calls (AppC.elder k55 w) rfl A c l l.length hl hc _ HE.out).mono ?_
  rintro e w2 ⟨A1, c1, rfl, hc1, hC, hb, hfar⟩
  have hz := blk_below HZ.out hb
  have hfz := fun i => blk_frozen hz i
  have hf0 := hfz 0
  have hf1 := hfz 1
  have hf2 := hfz 2
  have hy0 : w2.cell? ⟨w.heap.size, 0, none⟩ = some (.int .i64 0) := (blk_cell hz 0).trans rfl
  have hy1 : w2.cell? ⟨w.heap.size, 1, none⟩ = some (.int .i64 0) := (blk_cell hz 1).trans rfl
  have hy2 : w2.cell? ⟨w.heap.size, 2, none⟩ = some (.slice none 0 0) := (blk_cell hz 2).trans rfl
  have HH := Lib.hid (blk_set (blk_set (blk_set hz 0 (.int .i64 r)) 1 (.int .i64 0)) 2 (.slice A1 l.length c1))
  have hne : ∀ ad, A1 = some ad → l.length ≠ 0 → ad.block ≠ w.heap.size := fun ad e hn => by have := hfar ad e hn; simp at this; omega
  have hb3 : Below w.heap.size w (((w2.setCell ⟨w.heap.size, 0, none⟩ (.int .i64 r)).setCell ⟨w.heap.size, 1, none⟩ (.int .i64 0)).setCell ⟨w.heap.size, 2, none⟩ (.slice A1 l.length c1)) := (((HB0.out.trans (hb.mono HB0.out.size)).setCell (Nat.le_refl _) _).setCell (Nat.le_refl _) _).setCell (Nat.le_refl _) _
  have HC := Lib.hid (AppC.elder_C (AppC.elder_far (AppC.elder_far (AppC.elder_far hC hne 0 (.int .i64 r)) hne 1 (.int .i64 0)) hne 2 (.slice A1 l.length c1)) hb3)
  have HB := Lib.hid hb3
  clear hfz hz hb hC hfar hne hb3 HB0 HE HZ
  go_wp2
  refine bodyPost_ret (results_cell_row rfl _ _ w.heap.size 55 #[.int .i64 r, .int .i64 0, .slice A1 l.length c1] (0, 0) _ rfl HH.out Tryd.underlying55 rfl (by kernel_rfl)) rfl ?_
  exact ⟨_, _, rfl, hc1, HC.out, HB.out⟩
theorem bAll_nil : ∀ (l : List SPart) (st : List TTree), bAll l st = [] → l = [] ∧ st = []
  | [], st, h => ⟨rfl, h⟩
  | p :: l, st, h => by
    have h1 := (bAll_nil l (bStep st p) h).2
    exact absurd h1 (by simp [bStep])
set_option maxHeartbeats 4000000 in
set_option maxRecDepth 100000 in
theorem build_none (Pp : Option Addr) (pc : Nat) (w : World) :
    Calls Tryd.prog 29 #[.slice Pp 0 pc] w fun e w' => e = .returned (.tuple #[.agg #[.int .i64 (-1), .int .i64 (-1), .slice none 0 0], .agg #[.int .i64 (-1), .int .i64 (-1), .slice none 0 0]]) ∧ Below w.heap.size w w' := by
  have hu := Tryd.underlying55
  have hu2 := Tryd.underlying58
  have hB0 : Below w.heap.size w ((w.alloc (.cells #[.int .i64 0, .int .i64 0, .slice none 0 0] 55)).alloc (.cells #[.int .i64 0, .int .i64 0, .slice none 0 0] 58)) := ((Below.refl _ w).alloc (Nat.le_refl _) _).alloc (by simp) _
  have hz2 := blk_alloc (blk_new w (.cells #[.int .i64 0, .int .i64 0, .slice none 0 0] 55)) (.cells #[.int .i64 0, .int .i64 0, .slice none 0 0] 58)
  have hz3 := blk_new (w.alloc (.cells #[.int .i64 0, .int .i64 0, .slice none 0 0] 55)) (.cells #[.int .i64 0, .int .i64 0, .slice none 0 0] 58)
  rw [show (w.alloc (.cells #[.int .i64 0, .int .i64 0, .slice none 0 0] 55)).heap.size = w.heap.size + 1 by simp] at hz3
  have HZ2 := Lib.hid hz2
  have HZ3 := Lib.hid hz3
  have HB0 := Lib.hid hB0
  clear hz2 hz3 hB0
  go_enter Tryd.func29, Tryd.ntmps29
  go_wp2_with fail
  go_loopw [4, 5, 13] (fun a b i wr => a = .slice none 0 0 ∧ b = .slice none 0 0 ∧ i = .int .i64 0 ∧ wr = ((w.alloc (.cells #[.int .i64 0, .int .i64 0, .slice none 0 0] 55)).alloc (.cells #[.int .i64 0, .int .i64 0, .slice none 0 0] 58))) (fun _ _ i _ => 0)
  case atStart => exact ⟨rfl, rfl, rfl, rfl⟩
  case round =>
    obtain ⟨rfl, rfl, rfl, rfl⟩ := hrel
    generalize hws : (w.alloc (.cells #[.int .i64 0, .int .i64 0, .slice none 0 0] 55)).alloc (.cells #[.int .i64 0, .int .i64 0, .slice none 0 0] 58) = ws at *
    clear hws
    go_wp2_with fail
    refine (leaf_calls (-1) _).mono ?_
    rintro e w2 ⟨rfl, hb⟩
    have hz2 := blk_below HZ2.out hb
    have hz3 := blk_below HZ3.out hb
    have hfz := fun i => blk_frozen hz2 i
    have hf0 := hfz 0
    have hf1 := hfz 1
    have hf2 := hfz 2
    have hgz := fun i => blk_frozen hz3 i
    have hg0 := hgz 0
    have hg1 := hgz 1
    have hg2 := hgz 2
    have hx0 : w2.cell? ⟨w.heap.size, 0, none⟩ = some (.int .i64 0) := (blk_cell hz2 0).trans rfl
    have hx1 : w2.cell? ⟨w.heap.size, 1, none⟩ = some (.int .i64 0) := (blk_cell hz2 1).trans rfl
    have hx2 : w2.cell? ⟨w.heap.size, 2, none⟩ = some (.slice none 0 0) := (blk_cell hz2 2).trans rfl
    have hy0 : w2.cell? ⟨w.heap.size + 1, 0, none⟩ = some (.int .i64 0) := (blk_cell hz3 0).trans rfl
    have hy1 : w2.cell? ⟨w.heap.size + 1, 1, none⟩ = some (.int .i64 0) := (blk_cell hz3 1).trans rfl
    have hy2 : w2.cell? ⟨w.heap.size + 1, 2, none⟩ = some (.slice none 0 0) := (blk_cell hz3 2).trans rfl
    have h2 := blk_set (blk_set (blk_set hz2 0 (.int .i64 (-1))) 1 (.int .i64 (-1))) 2 (.slice none 0 0)
    have h3 := blk_far (blk_far (blk_far hz3 (p := ⟨w.heap.size, 0, none⟩) (by simp) (.int .i64 (-1))) (p := ⟨w.heap.size, 1, none⟩) (by simp) (.int .i64 (-1))) (p := ⟨w.heap.size, 2, none⟩) (by simp) (.slice none 0 0)
    have H2 := Lib.hid (blk_far (blk_far (blk_far h2 (p := ⟨w.heap.size + 1, 0, none⟩) (by simp) (.int .i64 (-1))) (p := ⟨w.heap.size + 1, 1, none⟩) (by simp) (.int .i64 (-1))) (p := ⟨w.heap.size + 1, 2, none⟩) (by simp) (.slice none 0 0))
    have H3 := Lib.hid (blk_set (blk_set (blk_set h3 0 (.int .i64 (-1))) 1 (.int .i64 (-1))) 2 (.slice none 0 0))
    have hbb : Below w.heap.size w ((((((w2.setCell ⟨w.heap.size, 0, none⟩ (.int .i64 (-1))).setCell ⟨w.heap.size, 1, none⟩ (.int .i64 (-1))).setCell ⟨w.heap.size, 2, none⟩ (.slice none 0 0)).setCell ⟨w.heap.size + 1, 0, none⟩ (.int .i64 (-1))).setCell ⟨w.heap.size + 1, 1, none⟩ (.int .i64 (-1))).setCell ⟨w.heap.size + 1, 2, none⟩ (.slice none 0 0)) := ((((((HB0.out.trans (hb.mono HB0.out.size)).setCell (Nat.le_refl _) _).setCell (Nat.le_refl _) _).setCell (Nat.le_refl _) _).setCell (by simp) _).setCell (by simp) _).setCell (by simp) _
    have HB := Lib.hid hbb
    clear hbb
    clear hfz hgz hz2 hz3 h2 h3 hb HB0 HZ2 HZ3
    go_wp2
    refine bodyPost_ret (results_two rfl _ _ w.heap.size (w.heap.size + 1) 55 58 #[.int .i64 (-1), .int .i64 (-1), .slice none 0 0] #[.int .i64 (-1), .int .i64 (-1), .slice none 0 0] _ _ rfl H2.out Tryd.underlying55 rfl (by kernel_rfl) rfl H3.out Tryd.underlying58 rfl (by kernel_rfl)) rfl ?_
    exact ⟨rfl, HB.out⟩
end Go.Proofs.YtmdjmbdeeodehaaDoor.G
end
section
set_option linter.unusedVariables false
set_option linter.unusedSimpArgs false
namespace Go.Proofs.YtmdjmbdeeodehaaDoor.G
open Go Go.Proofs Go.RowKit Go.Proofs.YtmdjmbdeeodehaaDoorW.PrintWords Go.Proofs.YtmdjmbdeeodehaaDoorW.PrintLast Go.Proofs.YtmdjmbdeeodehaaDoorW.PrintMore Go.Proofs.YtmdjmbdeeodehaaDoor.Pure
structure InT (w : World) (A0 : Option Addr) (c0 : Nat) (l0 : List ByteArray) (A1 : Option Addr) (c1 : Nat) (l1 : List ByteArray) (a2 : Int) (A3 : Option Addr) (c3 : Nat) (l3 : List GRule) (t : TTree) (T : Option Addr) (tc : Nat) (W : World) : Prop where
  g : InB w A0 c0 l0 A1 c1 l1 a2 A3 c3 l3 W
  tb : W.heap[w.heap.size + 1]? = some (.cells #[.int .i64 t.f0, .int .i64 t.f1, .slice T t.f2.length tc] 55 (0, 0))
  tr : Kd.C k55 W T t.f2.length t.f2
section
variable {w : World} {A0 : Option Addr} {c0 : Nat} {l0 : List ByteArray} {A1 : Option Addr} {c1 : Nat} {l1 : List ByteArray} {a2 : Int} {A3 : Option Addr} {c3 : Nat} {l3 : List GRule} {t : TTree} {T : Option Addr} {tc : Nat} {W W' : World}
theorem InT.step (h : InT w A0 c0 l0 A1 c1 l1 a2 A3 c3 l3 t T tc W) (hb : Below W.heap.size W W') : InT w A0 c0 l0 A1 c1 l1 a2 A3 c3 l3 t T tc W' := ⟨h.g.step hb, blk_below h.tb hb, Kd.C_below h.tr hb⟩
theorem InT.t0 (h : InT w A0 c0 l0 A1 c1 l1 a2 A3 c3 l3 t T tc W) : W.cell? ⟨w.heap.size + 1, 0, none⟩ = some (.int .i64 t.f0) := (blk_cell h.tb 0).trans rfl
theorem InT.t1 (h : InT w A0 c0 l0 A1 c1 l1 a2 A3 c3 l3 t T tc W) : W.cell? ⟨w.heap.size + 1, 1, none⟩ = some (.int .i64 t.f1) := (blk_cell h.tb 1).trans rfl
theorem InT.t2 (h : InT w A0 c0 l0 A1 c1 l1 a2 A3 c3 l3 t T tc W) : W.cell? ⟨w.heap.size + 1, 2, none⟩ = some (.slice T t.f2.length tc) := (blk_cell h.tb 2).trans rfl
theorem InT.mk0 (w : World) (hr0 : Kd.C Kd.string w A0 l0.length l0) (hr1 : Kd.C Kd.string w A1 l1.length l1) (hr3 : Kd.C k32 w A3 l3.length l3) (ht : Kd.C k55 w T t.f2.length t.f2) :
    InT w A0 c0 l0 A1 c1 l1 a2 A3 c3 l3 t T tc ((w.alloc (.cells #[.slice A0 l0.length c0, .slice A1 l1.length c1, .int .i64 a2, .slice A3 l3.length c3] 25)).alloc (.cells #[.int .i64 t.f0, .int .i64 t.f1, .slice T t.f2.length tc] 55)) := by
  have h1 : Below w.heap.size w ((w.alloc (.cells #[.slice A0 l0.length c0, .slice A1 l1.length c1, .int .i64 a2, .slice A3 l3.length c3] 25)).alloc (.cells #[.int .i64 t.f0, .int .i64 t.f1, .slice T t.f2.length tc] 55)) := ((Below.refl _ w).alloc (Nat.le_refl _) _).alloc (by simp) _
  refine ⟨⟨⟨blk_alloc (blk_new w _) _, Kd.C_below hr0 h1, Kd.C_below hr1 h1, Kd.C_below hr3 h1⟩, h1⟩, ?_, Kd.C_below ht h1⟩
  have := blk_new (w.alloc (.cells #[.slice A0 l0.length c0, .slice A1 l1.length c1, .int .i64 a2, .slice A3 l3.length c3] 25)) (.cells #[.int .i64 t.f0, .int .i64 t.f1, .slice T t.f2.length tc] 55)
  rwa [show (w.alloc (.cells #[.slice A0 l0.length c0, .slice A1 l1.length c1, .int .i64 a2, .slice A3 l3.length c3] 25)).heap.size = w.heap.size + 1 by simp] at this
end
structure InK (w : World) (A0 : Option Addr) (c0 : Nat) (l0 : List ByteArray) (A1 : Option Addr) (c1 : Nat) (l1 : List ByteArray) (a2 : Int) (A3 : Option Addr) (c3 : Nat) (l3 : List GRule) (t : TTree) (T : Option Addr) (tc : Nat) (kb : Nat) (k : TTree) (K : Option Addr) (kc : Nat) (W : World) : Prop where
  i : InT w A0 c0 l0 A1 c1 l1 a2 A3 c3 l3 t T tc W
  kb : W.heap[kb]? = some (.cells #[.int .i64 k.f0, .int .i64 k.f1, .slice K k.f2.length kc] 55 (0, 0))
  kr : Kd.C k55 W K k.f2.length k.f2
section
variable {w : World} {A0 : Option Addr} {c0 : Nat} {l0 : List ByteArray} {A1 : Option Addr} {c1 : Nat} {l1 : List ByteArray} {a2 : Int} {A3 : Option Addr} {c3 : Nat} {l3 : List GRule} {t : TTree} {T : Option Addr} {tc : Nat} {kb : Nat} {k : TTree} {K : Option Addr} {kc : Nat} {W W' : World}
theorem InK.step (h : InK w A0 c0 l0 A1 c1 l1 a2 A3 c3 l3 t T tc kb k K kc W) (hb : Below W.heap.size W W') : InK w A0 c0 l0 A1 c1 l1 a2 A3 c3 l3 t T tc kb k K kc W' := ⟨h.i.step hb, blk_below h.kb hb, Kd.C_below h.kr hb⟩
theorem InK.k0 (h : InK w A0 c0 l0 A1 c1 l1 a2 A3 c3 l3 t T tc kb k K kc W) : W.cell? ⟨kb, 0, none⟩ = some (.int .i64 k.f0) := (blk_cell h.kb 0).trans rfl
theorem InK.k1 (h : InK w A0 c0 l0 A1 c1 l1 a2 A3 c3 l3 t T tc kb k K kc W) : W.cell? ⟨kb, 1, none⟩ = some (.int .i64 k.f1) := (blk_cell h.kb 1).trans rfl
theorem InK.k2 (h : InK w A0 c0 l0 A1 c1 l1 a2 A3 c3 l3 t T tc kb k K kc W) : W.cell? ⟨kb, 2, none⟩ = some (.slice K k.f2.length kc) := (blk_cell h.kb 2).trans rfl
end
theorem fitT_eq (l3 : List GRule) (t : TTree) : fitT l3 t = if t.f0 < 0 ∨ (l3.length : Int) ≤ t.f0 ∨ t.f1 ≠ 0 then 8 else if t.f2.length ≠ (ruleAt l3 t.f0).f1.length then 9 else fitTs l3 (ruleAt l3 t.f0).f1 t.f2 := by cases t; simp [fitT]
set_option maxHeartbeats 16000000 in
set_option maxRecDepth 100000 in
theorem nodeWrong_calls : ∀ (n : Nat) (A0 : Option Addr) (c0 : Nat) (l0 : List ByteArray) (A1 : Option Addr) (c1 : Nat) (l1 : List ByteArray) (a2 : Int) (A3 : Option Addr) (c3 : Nat) (l3 : List GRule) (hn : l3.length ≤ 1000000) (hok : l3.all ruleOk = true) (t : TTree) (T : Option Addr) (tc : Nat) (htn : cntT t ≤ n)
    (w : World) (hr0 : Kd.C Kd.string w A0 l0.length l0) (hr1 : Kd.C Kd.string w A1 l1.length l1) (hr3 : Kd.C k32 w A3 l3.length l3) (ht : Kd.C k55 w T t.f2.length t.f2),
    Calls Tryd.prog 101 #[.agg #[.slice A0 l0.length c0, .slice A1 l1.length c1, .int .i64 a2, .slice A3 l3.length c3], .agg #[.int .i64 t.f0, .int .i64 t.f1, .slice T t.f2.length tc]] w fun e w' => e = .returned (.int .i64 (fitT l3 t)) ∧ Below w.heap.size w w' := by
  intro n
  induction n with
  | zero => intro A0 c0 l0 A1 c1 l1 a2 A3 c3 l3 hn hok t T tc htn; have := cntT_pos t; omega
  | succ n ih =>
    intro A0 c0 l0 A1 c1 l1 a2 A3 c3 l3 hn hok t T tc htn w hr0 hr1 hr3 ht
    have hu := Tryd.underlying25
    have hu2 := Tryd.underlying55
    have hI : InT w A0 c0 l0 A1 c1 l1 a2 A3 c3 l3 t T tc _ := InT.mk0 w hr0 hr1 hr3 ht
    have HIH := Lib.hid ih
    have HTN := Lib.hid htn
    have HOK := Lib.hid hok
    have hz3 := hI.g.c3
    have ht0 := hI.t0
    have ht1 := hI.t1
    have ht2 := hI.t2
    have HI := Lib.hid hI
    have HF := Lib.hid (fitT_eq l3 t)
    generalize hrs : fitT l3 t = rs at *
    have HRS := Lib.hid hrs
    clear hr0 hr1 hr3 ht hI ih htn hok hrs
    by_cases h0 : t.f0 < 0
    · have h0b : decide (t.f0 < 0) = true := decide_eq_true h0
      have HE : Hid (rs = 8) := Lib.hid (by rw [HF.out, if_pos (Or.inl h0)])
      clear h0
      go_enter Tryd.func101, Tryd.ntmps101
      go_wp2
      go_ret
      rw [HE.out]
      exact ⟨rfl, HI.out.g.bel⟩
    have h0b : decide (t.f0 < 0) = false := decide_eq_false h0
    by_cases h1 : (l3.length : Int) ≤ t.f0
    · have h1b : decide (t.f0 ≥ (l3.length : Int)) = true := decide_eq_true h1
      have HE : Hid (rs = 8) := Lib.hid (by rw [HF.out, if_pos (Or.inr (Or.inl h1))])
      clear h0 h1
      go_enter Tryd.func101, Tryd.ntmps101
      go_wp2
      go_ret
      rw [HE.out]
      exact ⟨rfl, HI.out.g.bel⟩
    have h1b : decide (t.f0 ≥ (l3.length : Int)) = false := decide_eq_false h1
    by_cases h2 : t.f1 ≠ 0
    · have h2b : (t.f1 != 0) = true := bne_iff_ne.2 h2
      have HE : Hid (rs = 8) := Lib.hid (by rw [HF.out, if_pos (Or.inr (Or.inr h2))])
      clear h0 h1 h2
      go_enter Tryd.func101, Tryd.ntmps101
      go_wp2
      go_ret
      rw [HE.out]
      exact ⟨rfl, HI.out.g.bel⟩
    have h2b : (t.f1 != 0) = false := by rw [Decidable.not_not.1 h2]; rfl
    obtain ⟨q, hq⟩ : ∃ q : Nat, t.f0 = q := ⟨t.f0.toNat, by omega⟩
    obtain ⟨ad, R, rc, eA, hx0, hx1, hrc, hR⟩ := at_T32 HI.out.g.r3 t.f0 (by omega) (by omega)
    subst eA
    obtain ⟨r, hr⟩ : ∃ r, r = ruleAt l3 t.f0 := ⟨_, rfl⟩
    have hrk : ruleOk r = true := by
      have hlt : q < l3.length := by omega
      have : r = l3[q] := by rw [hr]; simp only [rd_T32, hq, Int.toNat_natCast, List.getD_eq_getElem?_getD, List.getElem?_eq_getElem hlt, Option.getD_some]
      rw [this]
      exact List.all_eq_true.1 HOK.out _ (List.getElem_mem _)
    simp only [← show r = rd_T32 l3 t.f0 from hr] at hx0 hx1 hrc hR
    have HE : Hid (rs = if t.f2.length ≠ r.f1.length then 9 else fitTs l3 r.f1 t.f2) := Lib.hid (by rw [HF.out, if_neg (by omega), ← hr])
    have HR := Lib.hid hR
    have HRK := Lib.hid hrk
    have HRC := Lib.hid hrc
    have hp0 : 0 ≤ t.f0 := by omega
    have hp1 : t.f0 < (l3.length : Int) := by omega
    have hrl : r.f1.length ≤ 1000000 := by
      simp only [ruleOk, Bool.and_eq_true, decide_eq_true_eq] at hrk
      exact hrk.1.2
    have htl : t.f2.length ≤ 9223372036854775807 := Kd.C_max HI.out.tr
    clear h0 h1 h2 hr hR hrk hrc HF
    have HQ := Lib.hid hq
    clear hq
    by_cases h3 : t.f2.length ≠ r.f1.length
    · have h3b : ((t.f2.length : Int) != (r.f1.length : Int)) = true := bne_iff_ne.2 (by omega)
      have HE2 : Hid (rs = 9) := Lib.hid (by rw [HE.out, if_pos h3])
      clear h3
      go_enter Tryd.func101, Tryd.ntmps101
      go_wp2
      go_ret
      rw [HE2.out]
      exact ⟨rfl, HI.out.g.bel⟩
    have h3b : ((t.f2.length : Int) != (r.f1.length : Int)) = false := by rw [Decidable.not_not.1 h3]; simp
    have HLL : Hid (t.f2.length = r.f1.length) := Lib.hid (Decidable.not_not.1 h3)
    have HE2 : Hid (rs = fitTs l3 r.f1 t.f2) := Lib.hid (by rw [HE.out, if_neg h3])
    clear h3
    go_enter Tryd.func101, Tryd.ntmps101
    go_wp2
    generalize hwB : ((w.alloc (.cells #[.slice A0 l0.length c0, .slice A1 l1.length c1, .int .i64 a2, .slice (some ad) l3.length c3] 25)).alloc (.cells #[.int .i64 t.f0, .int .i64 t.f1, .slice T t.f2.length tc] 55)) = wB at *
    clear hwB hz3 ht0 ht1 ht2 hx0 hx1
    go_loopw [41] (fun i wr => ∃ j : Nat, j ≤ r.f1.length ∧ i = .int .i64 j ∧ Hid (fitTs l3 (r.f1.drop j) (t.f2.drop j) = rs) ∧ Below wB.heap.size wB wr) (fun i _ => r.f1.length - (intOf i).toNat)
    case atStart => exact ⟨0, Nat.zero_le _, rfl, Lib.hid HE2.out.symm, Below.refl _ _⟩
    case round =>
      obtain ⟨j, hj, rfl, HRS2, hB⟩ := hrel
      by_cases hjl : j < r.f1.length
      · have hjt : j < t.f2.length := by rw [HLL.out]; exact hjl
        obtain ⟨kad, K2, kc, e1, hk0, hk1, hk2, hkc, hkr⟩ := at_T55 (Kd.C_below HI.out.tr hB) (j : Int) (by omega) (by omega)
        subst e1
        obtain ⟨sad, e2, hs0⟩ := Kd.at_int (Kd.C_below HR.out hB) (j : Int) (by omega) (by omega)
        subst e2
        obtain ⟨k, hk⟩ : ∃ k, k = t.f2[j] := ⟨_, rfl⟩
        obtain ⟨s, hs⟩ : ∃ s, s = r.f1[j] := ⟨_, rfl⟩
        have hrds : Go.Proofs.YtmdjmbdeeodehaaDoorW.PrintWords.rd r.f1 (j : Int) = s := by rw [hs]; simp only [Go.Proofs.YtmdjmbdeeodehaaDoorW.PrintWords.rd, Int.toNat_natCast, List.getD_eq_getElem?_getD, List.getElem?_eq_getElem hjl, Option.getD_some]
        rw [rdT_at _ j hjt, ← hk] at hk0 hk1 hk2 hkc hkr
        rw [hrds] at hs0
        rw [Int.toNat_natCast] at hk0 hk1 hk2 hs0
        have HRS3 : Hid (fitTs l3 (s :: r.f1.drop (j + 1)) (k :: t.f2.drop (j + 1)) = rs) := Lib.hid (by rw [hk, hs, ← List.drop_eq_getElem_cons hjt, ← List.drop_eq_getElem_cons hjl]; exact HRS2.out)
        have hcnt : cntT k ≤ n := by
          have h1 := cntTs_mem (List.getElem_mem hjt)
          have h2 := cntT_eq t
          have h3 := HTN.out
          rw [← hk] at h1; omega
        have HCN := Lib.hid hcnt
        have hsym : symOk s = true := by
          have h1 := HRK.out
          simp only [ruleOk, Bool.and_eq_true] at h1
          exact List.all_eq_true.1 h1.2 s (by rw [hs]; exact List.getElem_mem _)
        have HSY := Lib.hid hsym
        have HKR := Lib.hid hkr
        have hj0 : 0 ≤ (j : Int) := Int.natCast_nonneg _
        have hj1 : (j : Int) < (r.f1.length : Int) := by omega
        have hj2 : (j : Int) < (t.f2.length : Int) := by omega
        have hz2 : wr.cell? ⟨w.heap.size + 1, 2, none⟩ = some (.slice (some kad) t.f2.length tc) := (HI.out.step hB).t2
        have HJ := Lib.hid hjl
        clear hk hs hrds hcnt hsym hkr hjl hjt hj
        go_wp2_with fail
        have hK : InK w A0 c0 l0 A1 c1 l1 a2 (some ad) c3 l3 t (some kad) tc wr.heap.size k K2 kc (wr.alloc (.cells #[.int .i64 k.f0, .int .i64 k.f1, .slice K2 k.f2.length kc] 55)) :=
          ⟨(HI.out.step hB).step ((Below.refl _ _).alloc (Nat.le_refl _) _), blk_new _ _, Kd.C_alloc HKR.out _⟩
        have hB1 : Below wB.heap.size wB (wr.alloc (.cells #[.int .i64 k.f0, .int .i64 k.f1, .slice K2 k.f2.length kc] 55)) := hB.alloc hB.size _
        generalize hW1 : wr.alloc (.cells #[.int .i64 k.f0, .int .i64 k.f1, .slice K2 k.f2.length kc] 55) = W1 at *
        generalize hkb : wr.heap.size = kb at *
        clear hW1 hkb hz2 hk0 hk1 hk2 hs0
        obtain ⟨bk, hbk⟩ : ∃ b : Bool, b = decide (k.f0 < 0) := ⟨_, rfl⟩
        obtain ⟨bs, hbs⟩ : ∃ b : Bool, b = decide (s < 0) := ⟨_, rfl⟩
        have HBK : Hid (tree_Tree_leaf.f k.f0 k.f1 k.f2 = some bk) := Lib.hid (by rw [hbk]; rfl)
        have HBS : Hid (gram_Sym_IsTerm.f s = some bs) := Lib.hid (by rw [hbs]; rfl)
        have HRS4 : Hid ((if bk ≠ bs then 9 else if s < 0 then (if k.f1 ≠ s ∨ k.f0 ≠ -1 ∨ 0 < k.f2.length then 9 else fitTs l3 (r.f1.drop (j + 1)) (t.f2.drop (j + 1))) else if fitT l3 k ≠ 0 then fitT l3 k else if (ruleAt l3 k.f0).f0 ≠ s then 9 else fitTs l3 (r.f1.drop (j + 1)) (t.f2.drop (j + 1))) = rs) := Lib.hid (by rw [hbk, hbs, ← fitTs]; exact HRS3.out)
        have HKB := Lib.hid hbk
        have HSB := Lib.hid hbs
        clear hbk hbs
        refine (tree_Tree_leaf.calls k.f0 k.f1 K2 kc k.f2 bk _ hK.kr hkc HBK.out).mono ?_
        rintro e w5 ⟨rfl, hb5⟩
        have HK := Lib.hid (hK.step hb5)
        have HB1 := Lib.hid (hB1.trans (hb5.mono hB1.size))
        clear hb5 hK hB1
        by_cases hne : bk ≠ bs
        · have HE3 : Hid (rs = 9) := Lib.hid (by rw [← HRS4.out, if_pos hne])
          go_wp2_with fail
          refine (gram_Sym_IsTerm.calls s bs _ HBS.out).mono ?_
          rintro e w6 ⟨rfl, hd6⟩
          have HB2 := Lib.hid (HK.out.step hd6.below).i.g.bel
          clear hd6
          cases bk <;> cases bs <;> first | exact absurd rfl hne | skip
          all_goals
            clear hne
            go_wp2
            go_ret
            rw [HE3.out]
            exact ⟨rfl, HB2.out⟩
        obtain rfl : bk = bs := Decidable.not_not.1 hne
        clear hne
        go_wp2_with fail
        refine (gram_Sym_IsTerm.calls s bk _ HBS.out).mono ?_
        rintro e w6 ⟨rfl, hd6⟩
        have hK6 := Lib.hid (HK.out.step hd6.below)
        have HB6 := Lib.hid (HB1.out.trans (hd6.below.mono HB1.out.size))
        clear hd6 HK HB1
        by_cases hs0 : s < 0
        · obtain rfl : bk = true := by rw [HSB.out]; exact decide_eq_true hs0
          have HE3 : Hid ((if k.f1 ≠ s ∨ k.f0 ≠ -1 ∨ 0 < k.f2.length then 9 else fitTs l3 (r.f1.drop (j + 1)) (t.f2.drop (j + 1))) = rs) := Lib.hid (by have := HRS4.out; rwa [if_neg (by simp), if_pos hs0] at this)
          go_wp2_with fail
          refine (gram_Sym_IsTerm.calls s true _ HBS.out).mono ?_
          rintro e w7 ⟨rfl, hd7⟩
          have hK7 := hK6.out.step hd7.below
          have hB7 := HB6.out.trans (hd7.below.mono HB6.out.size)
          have hk0 := hK7.k0
          have hk1 := hK7.k1
          have hk2 := hK7.k2
          have HK7 := Lib.hid hK7
          have HB7 := Lib.hid hB7
          clear hd7 hK6 HB6 hK7 hB7
          by_cases hy : k.f1 ≠ s
          · have hyb : (k.f1 != s) = true := bne_iff_ne.2 hy
            have HE4 : Hid (rs = 9) := Lib.hid (by rw [← HE3.out, if_pos (Or.inl hy)])
            clear hy hs0
            go_wp2
            go_ret
            rw [HE4.out]
            exact ⟨rfl, HK7.out.i.g.bel⟩
          have hyb : (k.f1 != s) = false := by rw [Decidable.not_not.1 hy]; simp
          by_cases hlw : k.f0 ≠ -1 ∨ 0 < k.f2.length
          · have HLW : Hid (tree_leafWrong.f k.f0 k.f1 k.f2 = some 9) := Lib.hid (by
              unfold tree_leafWrong.f
              by_cases h : k.f0 = -1
              · rw [if_pos h, if_pos (by omega)]
              · rw [if_neg h])
            have HE4 : Hid (rs = 9) := Lib.hid (by rw [← HE3.out, if_pos (Or.inr hlw)])
            clear hy hs0 hlw
            go_wp2_with fail
            refine (tree_leafWrong.calls k.f0 k.f1 K2 kc k.f2 9 _ HK7.out.kr hkc HLW.out).mono ?_
            rintro e w8 ⟨rfl, hb8⟩
            have HK8 := Lib.hid (HK7.out.step hb8)
            clear hb8 hk0 hk1 hk2
            go_wp2
            go_ret
            rw [HE4.out]
            exact ⟨rfl, HK8.out.i.g.bel⟩
          · have HLW : Hid (tree_leafWrong.f k.f0 k.f1 k.f2 = some 0) := Lib.hid (by
              unfold tree_leafWrong.f
              rw [if_pos (by omega), if_neg (by omega)])
            have HE4 : Hid (fitTs l3 (r.f1.drop (j + 1)) (t.f2.drop (j + 1)) = rs) := Lib.hid (by rw [← HE3.out, if_neg (by omega)])
            clear hy hs0 hlw
            go_wp2_with fail
            refine (tree_leafWrong.calls k.f0 k.f1 K2 kc k.f2 0 _ HK7.out.kr hkc HLW.out).mono ?_
            rintro e w8 ⟨rfl, hb8⟩
            have HB8 := Lib.hid (HB7.out.trans (hb8.mono HB7.out.size))
            clear hb8 hk0 hk1 hk2
            go_wp2
            go_roundw
            case rel => exact ⟨j + 1, HJ.out, by go_num, HE4, HB8.out⟩
            case measure => have := HJ.out; simp [intOf]; omega
        · obtain rfl : bk = false := by rw [HSB.out]; exact decide_eq_false hs0
          have HE3 : Hid ((if fitT l3 k ≠ 0 then fitT l3 k else if (ruleAt l3 k.f0).f0 ≠ s then 9 else fitTs l3 (r.f1.drop (j + 1)) (t.f2.drop (j + 1))) = rs) := Lib.hid (by have := HRS4.out; rwa [if_neg (by simp), if_neg hs0] at this)
          go_wp2_with fail
          refine (gram_Sym_IsTerm.calls s false _ HBS.out).mono ?_
          rintro e w7 ⟨rfl, hd7⟩
          have hK7 := hK6.out.step hd7.below
          have hB7 := HB6.out.trans (hd7.below.mono HB6.out.size)
          have hk0 := hK7.k0
          have hk1 := hK7.k1
          have hk2 := hK7.k2
          have hg0 := hK7.i.g.c0
          have hg1 := hK7.i.g.c1
          have hg2 := hK7.i.g.c2
          have hg3 := hK7.i.g.c3
          have HK7 := Lib.hid hK7
          have HB7 := Lib.hid hB7
          clear hd7 hK6 HB6 hK7 hB7
          go_wp2_with fail
          refine (HIH.out A0 c0 l0 A1 c1 l1 a2 _ c3 l3 hn HOK.out k K2 kc HCN.out _ HK7.out.i.g.r0 HK7.out.i.g.r1 HK7.out.i.g.r3 HK7.out.kr).mono ?_
          rintro e w8 ⟨rfl, hb8⟩
          have hK8 := HK7.out.step hb8
          have HB8 := Lib.hid (HB7.out.trans (hb8.mono HB7.out.size))
          have HK8 := Lib.hid hK8
          clear hb8 hk0 hk1 hk2 hg0 hg1 hg2 hg3 HK7 HB7
          have HFI := Lib.hid (@fitT_in l3 k)
          generalize fitT l3 k = ek at *
          by_cases hek : ek ≠ 0
          · have hekb : (ek != 0) = true := bne_iff_ne.2 hek
            have HE4 : Hid (rs = ek) := Lib.hid (by rw [← HE3.out, if_pos hek])
            clear hek hs0 hK8
            go_wp2
            go_ret
            rw [HE4.out]
            exact ⟨rfl, HK8.out.i.g.bel⟩
          · have hekb : (ek != 0) = false := by rw [Decidable.not_not.1 hek]; rfl
            obtain ⟨hf0, hf1, -⟩ := HFI.out (Decidable.not_not.1 hek)
            have HE4 : Hid ((if (ruleAt l3 k.f0).f0 ≠ s then 9 else fitTs l3 (r.f1.drop (j + 1)) (t.f2.drop (j + 1))) = rs) := Lib.hid (by rw [← HE3.out, if_neg hek])
            obtain ⟨ad2, R2, rc2, eA, hx0, hx1, -, -⟩ := at_T32 hK8.i.g.r3 k.f0 hf0 (by omega)
            obtain rfl := Option.some.inj eA
            have hk0 := hK8.k0
            have hg3 := hK8.i.g.c3
            have hpl : Hid (gram_Sym_Place.f s = some s) := Lib.hid (by rw [place_f s HSY.out, if_neg (by omega)])
            generalize hq2 : (ruleAt l3 k.f0).f0 = q2 at *
            have hx0' : w8.cell? (ad.add (k.f0.toNat * 2)) = some (.int .i64 q2) := by rw [hx0, ← hq2]
            clear hek hx0 hx1 eA hK8 hq2
            by_cases hqs : q2 ≠ s
            · have hqb : (q2 != s) = true := bne_iff_ne.2 hqs
              have HE5 : Hid (rs = 9) := Lib.hid (by rw [← HE4.out, if_pos hqs])
              clear hqs
              go_wp2_with fail
              go_quiet ((go_at_call 79; exact Calls.quiet_of ((gram_Sym_Place.calls s s _ hpl.out).mono fun _ _ ⟨he, hd⟩ => ⟨he, hd.out⟩)))
              go_wp2
              go_ret
              rw [HE5.out]
              exact ⟨rfl, pw_below_drewN HK8.out.i.g.bel _⟩
            · have hqb : (q2 != s) = false := by rw [Decidable.not_not.1 hqs]; simp
              have HE5 : Hid (fitTs l3 (r.f1.drop (j + 1)) (t.f2.drop (j + 1)) = rs) := Lib.hid (by rw [← HE4.out, if_neg hqs])
              clear hqs
              go_wp2_with fail
              go_quiet ((go_at_call 79; exact Calls.quiet_of ((gram_Sym_Place.calls s s _ hpl.out).mono fun _ _ ⟨he, hd⟩ => ⟨he, hd.out⟩)))
              go_wp2
              go_roundw
              case rel => exact ⟨j + 1, HJ.out, by go_num, HE5, pw_below_drewN HB8.out _⟩
              case measure => have := HJ.out; simp [intOf]; omega
      · obtain rfl : j = r.f1.length := by omega
        have HE3 : Hid (rs = 0) := Lib.hid (by have := HRS2.out; rw [List.drop_length, fitTs] at this; exact this.symm; all_goals simp)
        have HI2 := Lib.hid (HI.out.step hB)
        clear hB hjl hj
        go_wp2
        go_ret
        rw [HE3.out]
        exact ⟨rfl, HI2.out.g.bel⟩
end Go.Proofs.YtmdjmbdeeodehaaDoor.G
end
section
set_option linter.unusedVariables false
set_option linter.unusedSimpArgs false
namespace Go.Proofs.YtmdjmbdeeodehaaDoor.G
open Go Go.Proofs Go.RowKit Go.Proofs.YtmdjmbdeeodehaaDoorW.PrintWords Go.Proofs.YtmdjmbdeeodehaaDoorW.PrintLast Go.Proofs.YtmdjmbdeeodehaaDoorW.PrintMore Go.Proofs.YtmdjmbdeeodehaaDoor.Pure
structure InV (w : World) (A0 : Option Addr) (n0 c0 : Nat) (A1 : Option Addr) (n1 c1 : Nat) (a2 : Int) (A3 : Option Addr) (c3 : Nat) (m3 : List S87) (t : RTree) (T : Option Addr) (tc : Nat) (W : World) : Prop where
  gb : W.heap[w.heap.size]? = some (.cells #[.slice A0 n0 c0, .slice A1 n1 c1, .int .i64 a2, .slice A3 m3.length c3] 63 (0, 0))
  r3 : Kd.C k87 W A3 m3.length m3
  bel : Below w.heap.size w W
  tb : W.heap[w.heap.size + 1]? = some (.cells #[.int .i64 t.f0, .int .i64 t.f1, .slice T t.f2.length tc] 58 (0, 0))
  tr : Kd.C k58 W T t.f2.length t.f2
section
variable {w : World} {A0 : Option Addr} {n0 c0 : Nat} {A1 : Option Addr} {n1 c1 : Nat} {a2 : Int} {A3 : Option Addr} {c3 : Nat} {m3 : List S87} {t : RTree} {T : Option Addr} {tc : Nat} {W W' : World}
theorem InV.step (h : InV w A0 n0 c0 A1 n1 c1 a2 A3 c3 m3 t T tc W) (hb : Below W.heap.size W W') : InV w A0 n0 c0 A1 n1 c1 a2 A3 c3 m3 t T tc W' := ⟨blk_below h.gb hb, Kd.C_below h.r3 hb, h.bel.trans (hb.mono h.bel.size), blk_below h.tb hb, Kd.C_below h.tr hb⟩
theorem InV.g0 (h : InV w A0 n0 c0 A1 n1 c1 a2 A3 c3 m3 t T tc W) : W.cell? ⟨w.heap.size, 0, none⟩ = some (.slice A0 n0 c0) := (blk_cell h.gb 0).trans rfl
theorem InV.g1 (h : InV w A0 n0 c0 A1 n1 c1 a2 A3 c3 m3 t T tc W) : W.cell? ⟨w.heap.size, 1, none⟩ = some (.slice A1 n1 c1) := (blk_cell h.gb 1).trans rfl
theorem InV.g2 (h : InV w A0 n0 c0 A1 n1 c1 a2 A3 c3 m3 t T tc W) : W.cell? ⟨w.heap.size, 2, none⟩ = some (.int .i64 a2) := (blk_cell h.gb 2).trans rfl
theorem InV.g3 (h : InV w A0 n0 c0 A1 n1 c1 a2 A3 c3 m3 t T tc W) : W.cell? ⟨w.heap.size, 3, none⟩ = some (.slice A3 m3.length c3) := (blk_cell h.gb 3).trans rfl
theorem InV.t0 (h : InV w A0 n0 c0 A1 n1 c1 a2 A3 c3 m3 t T tc W) : W.cell? ⟨w.heap.size + 1, 0, none⟩ = some (.int .i64 t.f0) := (blk_cell h.tb 0).trans rfl
theorem InV.t1 (h : InV w A0 n0 c0 A1 n1 c1 a2 A3 c3 m3 t T tc W) : W.cell? ⟨w.heap.size + 1, 1, none⟩ = some (.int .i64 t.f1) := (blk_cell h.tb 1).trans rfl
theorem InV.t2 (h : InV w A0 n0 c0 A1 n1 c1 a2 A3 c3 m3 t T tc W) : W.cell? ⟨w.heap.size + 1, 2, none⟩ = some (.slice T t.f2.length tc) := (blk_cell h.tb 2).trans rfl
theorem InV.mk0 (w : World) (hr3 : Kd.C k87 w A3 m3.length m3) (ht : Kd.C k58 w T t.f2.length t.f2) :
    InV w A0 n0 c0 A1 n1 c1 a2 A3 c3 m3 t T tc ((w.alloc (.cells #[.slice A0 n0 c0, .slice A1 n1 c1, .int .i64 a2, .slice A3 m3.length c3] 63)).alloc (.cells #[.int .i64 t.f0, .int .i64 t.f1, .slice T t.f2.length tc] 58)) := by
  have h1 : Below w.heap.size w ((w.alloc (.cells #[.slice A0 n0 c0, .slice A1 n1 c1, .int .i64 a2, .slice A3 m3.length c3] 63)).alloc (.cells #[.int .i64 t.f0, .int .i64 t.f1, .slice T t.f2.length tc] 58)) := ((Below.refl _ w).alloc (Nat.le_refl _) _).alloc (by simp) _
  refine ⟨blk_alloc (blk_new w _) _, Kd.C_below hr3 h1, h1, ?_, Kd.C_below ht h1⟩
  have := blk_new (w.alloc (.cells #[.slice A0 n0 c0, .slice A1 n1 c1, .int .i64 a2, .slice A3 m3.length c3] 63)) (.cells #[.int .i64 t.f0, .int .i64 t.f1, .slice T t.f2.length tc] 58)
  rwa [show (w.alloc (.cells #[.slice A0 n0 c0, .slice A1 n1 c1, .int .i64 a2, .slice A3 m3.length c3] 63)).heap.size = w.heap.size + 1 by simp] at this
end
structure InX (w : World) (A0 : Option Addr) (n0 c0 : Nat) (A1 : Option Addr) (n1 c1 : Nat) (a2 : Int) (A3 : Option Addr) (c3 : Nat) (m3 : List S87) (t : RTree) (T : Option Addr) (tc : Nat) (rb : Nat) (r : S87) (R : Option Addr) (rc : Nat) (W : World) : Prop where
  v : InV w A0 n0 c0 A1 n1 c1 a2 A3 c3 m3 t T tc W
  rb : W.heap[rb]? = some (.cells #[.int .i64 r.f0, .slice R r.f1.length rc] 87 (0, 0))
  rr : Kd.C (Kd.int .i64) W R r.f1.length r.f1
structure InY (w : World) (A0 : Option Addr) (n0 c0 : Nat) (A1 : Option Addr) (n1 c1 : Nat) (a2 : Int) (A3 : Option Addr) (c3 : Nat) (m3 : List S87) (t : RTree) (T : Option Addr) (tc : Nat) (rb : Nat) (r : S87) (R : Option Addr) (rc : Nat) (kb : Nat) (k : RTree) (K : Option Addr) (kc : Nat) (W : World) : Prop where
  x : InX w A0 n0 c0 A1 n1 c1 a2 A3 c3 m3 t T tc rb r R rc W
  kb : W.heap[kb]? = some (.cells #[.int .i64 k.f0, .int .i64 k.f1, .slice K k.f2.length kc] 58 (0, 0))
  kr : Kd.C k58 W K k.f2.length k.f2
section
variable {w : World} {A0 : Option Addr} {n0 c0 : Nat} {A1 : Option Addr} {n1 c1 : Nat} {a2 : Int} {A3 : Option Addr} {c3 : Nat} {m3 : List S87} {t : RTree} {T : Option Addr} {tc : Nat} {rb : Nat} {r : S87} {R : Option Addr} {rc : Nat} {kb : Nat} {k : RTree} {K : Option Addr} {kc : Nat} {W W' : World}
theorem InX.step (h : InX w A0 n0 c0 A1 n1 c1 a2 A3 c3 m3 t T tc rb r R rc W) (hb : Below W.heap.size W W') : InX w A0 n0 c0 A1 n1 c1 a2 A3 c3 m3 t T tc rb r R rc W' := ⟨h.v.step hb, blk_below h.rb hb, Kd.C_below h.rr hb⟩
theorem InX.b1 (h : InX w A0 n0 c0 A1 n1 c1 a2 A3 c3 m3 t T tc rb r R rc W) : W.cell? ⟨rb, 1, none⟩ = some (.slice R r.f1.length rc) := (blk_cell h.rb 1).trans rfl
theorem InY.step (h : InY w A0 n0 c0 A1 n1 c1 a2 A3 c3 m3 t T tc rb r R rc kb k K kc W) (hb : Below W.heap.size W W') : InY w A0 n0 c0 A1 n1 c1 a2 A3 c3 m3 t T tc rb r R rc kb k K kc W' := ⟨h.x.step hb, blk_below h.kb hb, Kd.C_below h.kr hb⟩
theorem InY.k0 (h : InY w A0 n0 c0 A1 n1 c1 a2 A3 c3 m3 t T tc rb r R rc kb k K kc W) : W.cell? ⟨kb, 0, none⟩ = some (.int .i64 k.f0) := (blk_cell h.kb 0).trans rfl
theorem InY.k1 (h : InY w A0 n0 c0 A1 n1 c1 a2 A3 c3 m3 t T tc rb r R rc kb k K kc W) : W.cell? ⟨kb, 1, none⟩ = some (.int .i64 k.f1) := (blk_cell h.kb 1).trans rfl
theorem InY.k2 (h : InY w A0 n0 c0 A1 n1 c1 a2 A3 c3 m3 t T tc rb r R rc kb k K kc W) : W.cell? ⟨kb, 2, none⟩ = some (.slice K k.f2.length kc) := (blk_cell h.kb 2).trans rfl
end
theorem fitR_eq (m3 : List S87) (t : RTree) : fitR m3 t = if t.f0 < 0 ∨ (m3.length : Int) ≤ t.f0 ∨ t.f1 ≠ 0 then 8 else if t.f2.length ≠ (rruleAt m3 t.f0).f1.length then 9 else fitRs m3 (rruleAt m3 t.f0).f1 t.f2 := by cases t; simp [fitR]
set_option maxHeartbeats 16000000 in
set_option maxRecDepth 100000 in
theorem fits_calls : ∀ (n : Nat) (A0 : Option Addr) (n0 c0 : Nat) (A1 : Option Addr) (n1 c1 : Nat) (a2 : Int) (A3 : Option Addr) (c3 : Nat) (m3 : List S87) (hn : m3.length ≤ 1000000) (hok : ∀ r ∈ m3, r.f1.length ≤ 1000000) (t : RTree) (T : Option Addr) (tc : Nat) (htn : cntR t ≤ n)
    (w : World) (hr3 : Kd.C k87 w A3 m3.length m3) (ht : Kd.C k58 w T t.f2.length t.f2),
    Calls Tryd.prog 103 #[.agg #[.slice A0 n0 c0, .slice A1 n1 c1, .int .i64 a2, .slice A3 m3.length c3], .agg #[.int .i64 t.f0, .int .i64 t.f1, .slice T t.f2.length tc]] w fun e w' => e = .returned (.int .i64 (fitR m3 t)) ∧ Below w.heap.size w w' := by
  intro n
  induction n with
  | zero => intro A0 n0 c0 A1 n1 c1 a2 A3 c3 m3 hn hok t T tc htn; have := cntR_pos t; omega
  | succ n ih =>
    intro A0 n0 c0 A1 n1 c1 a2 A3 c3 m3 hn hok t T tc htn w hr3 ht
    have hu := Tryd.underlying63
    have hu2 := Tryd.underlying58
    have hu3 := Tryd.underlying87
    have hI : InV w A0 n0 c0 A1 n1 c1 a2 A3 c3 m3 t T tc _ := InV.mk0 w hr3 ht
    have HIH := Lib.hid ih
    have HTN := Lib.hid htn
    have HOK := Lib.hid hok
    have hz3 := hI.g3
    have ht0 := hI.t0
    have ht1 := hI.t1
    have ht2 := hI.t2
    have HI := Lib.hid hI
    have HF := Lib.hid (fitR_eq m3 t)
    generalize hrs : fitR m3 t = rs at *
    have HRS := Lib.hid hrs
    clear hr3 ht hI ih htn hok hrs
    by_cases h0 : t.f0 < 0
    · have h0b : decide (t.f0 < 0) = true := decide_eq_true h0
      have HE : Hid (rs = 8) := Lib.hid (by rw [HF.out, if_pos (Or.inl h0)])
      clear h0
      go_enter Tryd.func103, Tryd.ntmps103
      go_wp2
      go_ret
      rw [HE.out]
      exact ⟨rfl, HI.out.bel⟩
    have h0b : decide (t.f0 < 0) = false := decide_eq_false h0
    by_cases h1 : (m3.length : Int) ≤ t.f0
    · have h1b : decide (t.f0 ≥ (m3.length : Int)) = true := decide_eq_true h1
      have HE : Hid (rs = 8) := Lib.hid (by rw [HF.out, if_pos (Or.inr (Or.inl h1))])
      clear h0 h1
      go_enter Tryd.func103, Tryd.ntmps103
      go_wp2
      go_ret
      rw [HE.out]
      exact ⟨rfl, HI.out.bel⟩
    have h1b : decide (t.f0 ≥ (m3.length : Int)) = false := decide_eq_false h1
    by_cases h2 : t.f1 ≠ 0
    · have h2b : (t.f1 != 0) = true := bne_iff_ne.2 h2
      have HE : Hid (rs = 8) := Lib.hid (by rw [HF.out, if_pos (Or.inr (Or.inr h2))])
      clear h0 h1 h2
      go_enter Tryd.func103, Tryd.ntmps103
      go_wp2
      go_ret
      rw [HE.out]
      exact ⟨rfl, HI.out.bel⟩
    have h2b : (t.f1 != 0) = false := by rw [Decidable.not_not.1 h2]; rfl
    obtain ⟨q, hq⟩ : ∃ q : Nat, t.f0 = q := ⟨t.f0.toNat, by omega⟩
    obtain ⟨ad, R, rc, eA, hx0, hx1, hrc, hR⟩ := at_T87 HI.out.r3 t.f0 (by omega) (by omega)
    subst eA
    obtain ⟨r, hr⟩ : ∃ r, r = rruleAt m3 t.f0 := ⟨_, rfl⟩
    have hrl : r.f1.length ≤ 1000000 := by
      have hlt : q < m3.length := by omega
      have : r = m3[q] := by rw [hr]; simp only [rd_T87, hq, Int.toNat_natCast, List.getD_eq_getElem?_getD, List.getElem?_eq_getElem hlt, Option.getD_some]
      rw [this]
      exact HOK.out _ (List.getElem_mem _)
    simp only [← show r = rd_T87 m3 t.f0 from hr] at hx0 hx1 hrc hR
    have HE : Hid (rs = if t.f2.length ≠ r.f1.length then 9 else fitRs m3 r.f1 t.f2) := Lib.hid (by rw [HF.out, if_neg (by omega), ← hr])
    have HR := Lib.hid hR
    have HRC := Lib.hid hrc
    have hp0 : 0 ≤ t.f0 := by omega
    have hp1 : t.f0 < (m3.length : Int) := by omega
    have htl : t.f2.length ≤ 9223372036854775807 := Kd.C_max HI.out.tr
    clear h0 h1 h2 hr hR hrc HF
    have HQ := Lib.hid hq
    clear hq
    by_cases h3 : t.f2.length ≠ r.f1.length
    · have h3b : ((t.f2.length : Int) != (r.f1.length : Int)) = true := bne_iff_ne.2 (by omega)
      have HE2 : Hid (rs = 9) := Lib.hid (by rw [HE.out, if_pos h3])
      clear h3
      go_enter Tryd.func103, Tryd.ntmps103
      go_wp2
      go_ret
      rw [HE2.out]
      exact ⟨rfl, HI.out.bel.alloc HI.out.bel.size _⟩
    have h3b : ((t.f2.length : Int) != (r.f1.length : Int)) = false := by rw [Decidable.not_not.1 h3]; simp
    have HLL : Hid (t.f2.length = r.f1.length) := Lib.hid (Decidable.not_not.1 h3)
    have HE2 : Hid (rs = fitRs m3 r.f1 t.f2) := Lib.hid (by rw [HE.out, if_neg h3])
    clear h3
    go_enter Tryd.func103, Tryd.ntmps103
    go_wp2
    generalize hwB : ((w.alloc (.cells #[.slice A0 n0 c0, .slice A1 n1 c1, .int .i64 a2, .slice (some ad) m3.length c3] 63)).alloc (.cells #[.int .i64 t.f0, .int .i64 t.f1, .slice T t.f2.length tc] 58)) = wA at *
    have hsz : wA.heap.size = w.heap.size + 1 + 1 := by rw [← hwB]; simp
    have hX : InX w A0 n0 c0 A1 n1 c1 a2 (some ad) c3 m3 t T tc (w.heap.size + 1 + 1) r R rc (wA.alloc (.cells #[.int .i64 r.f0, .slice R r.f1.length rc] 87)) :=
      ⟨HI.out.step ((Below.refl _ _).alloc (Nat.le_refl _) _), by rw [← hsz]; exact blk_new _ _, Kd.C_alloc HR.out _⟩
    have HX := Lib.hid hX
    generalize wA.alloc (.cells #[.int .i64 r.f0, .slice R r.f1.length rc] 87) = wB at *
    clear hwB hz3 ht0 ht1 ht2 hx0 hx1 hsz hX HR HI
    go_loopw [6] (fun i wr => ∃ j : Nat, j ≤ r.f1.length ∧ i = .int .i64 j ∧ Hid (fitRs m3 (r.f1.drop j) (t.f2.drop j) = rs) ∧ Below wB.heap.size wB wr) (fun i _ => r.f1.length - (intOf i).toNat)
    case atStart => exact ⟨0, Nat.zero_le _, rfl, Lib.hid HE2.out.symm, Below.refl _ _⟩
    case round =>
      obtain ⟨j, hj, rfl, HRS2, hB⟩ := hrel
      by_cases hjl : j < r.f1.length
      · have hjt : j < t.f2.length := by rw [HLL.out]; exact hjl
        obtain ⟨kad, K2, kc, e1, hk0, hk1, hk2, hkc, hkr⟩ := at_T58 (Kd.C_below HX.out.v.tr hB) (j : Int) (by omega) (by omega)
        subst e1
        obtain ⟨sad, e2, hs0⟩ := Kd.at_int (Kd.C_below HX.out.rr hB) (j : Int) (by omega) (by omega)
        subst e2
        obtain ⟨k, hk⟩ : ∃ k, k = t.f2[j] := ⟨_, rfl⟩
        obtain ⟨s, hs⟩ : ∃ s, s = r.f1[j] := ⟨_, rfl⟩
        have hrds : Go.Proofs.YtmdjmbdeeodehaaDoorW.PrintWords.rd r.f1 (j : Int) = s := by rw [hs]; simp only [Go.Proofs.YtmdjmbdeeodehaaDoorW.PrintWords.rd, Int.toNat_natCast, List.getD_eq_getElem?_getD, List.getElem?_eq_getElem hjl, Option.getD_some]
        rw [rdR_at _ j hjt, ← hk] at hk0 hk1 hk2 hkc hkr
        rw [hrds] at hs0
        rw [Int.toNat_natCast] at hk0 hk1 hk2 hs0
        have HRS3 : Hid (fitRs m3 (s :: r.f1.drop (j + 1)) (k :: t.f2.drop (j + 1)) = rs) := Lib.hid (by rw [hk, hs, ← List.drop_eq_getElem_cons hjt, ← List.drop_eq_getElem_cons hjl]; exact HRS2.out)
        have hcnt : cntR k ≤ n := by
          have h1 := cntRs_mem (List.getElem_mem hjt)
          have h2 := cntR_eq t
          have h3 := HTN.out
          rw [← hk] at h1; omega
        have HCN := Lib.hid hcnt
        have HKR := Lib.hid hkr
        have hj0 : 0 ≤ (j : Int) := Int.natCast_nonneg _
        have hj1 : (j : Int) < (r.f1.length : Int) := by omega
        have hj2 : (j : Int) < (t.f2.length : Int) := by omega
        have hz2 : wr.cell? ⟨w.heap.size + 1, 2, none⟩ = some (.slice (some kad) t.f2.length tc) := (HX.out.step hB).v.t2
        have hb1 : wr.cell? ⟨w.heap.size + 1 + 1, 1, none⟩ = some (.slice (some sad) r.f1.length rc) := (HX.out.step hB).b1
        have HS0 := Lib.hid hs0
        have HJ := Lib.hid hjl
        have hY : InY w A0 n0 c0 A1 n1 c1 a2 (some ad) c3 m3 t (some kad) tc (w.heap.size + 1 + 1) r (some sad) rc wr.heap.size k K2 kc (wr.alloc (.cells #[.int .i64 k.f0, .int .i64 k.f1, .slice K2 k.f2.length kc] 58)) :=
          ⟨(HX.out.step hB).step ((Below.refl _ _).alloc (Nat.le_refl _) _), blk_new _ _, Kd.C_alloc HKR.out _⟩
        have hB1 : Below wB.heap.size wB (wr.alloc (.cells #[.int .i64 k.f0, .int .i64 k.f1, .slice K2 k.f2.length kc] 58)) := hB.alloc hB.size _
        have hk0y := hY.k0
        have hk1y := hY.k1
        have hk2y := hY.k2
        have hb1y := hY.x.b1
        have hs0y : (wr.alloc (.cells #[.int .i64 k.f0, .int .i64 k.f1, .slice K2 k.f2.length kc] 58)).cell? (sad.add j) = some (.int .i64 s) := (((Below.refl wr.heap.size wr).alloc (Nat.le_refl _) _).cell (World.block_lt_of_cell? _ _ hs0)).trans hs0
        have HY := Lib.hid hY
        have HB1 := Lib.hid hB1
        clear hk hs hrds hcnt hkr hjl hjt hj hB hB1 hY
        by_cases hs1 : s < 0
        · have hsb : decide (s < 0) = true := decide_eq_true hs1
          have HE3 : Hid ((if k.f0 ≠ -1 ∨ k.f1 ≠ s ∨ 0 < k.f2.length then 9 else fitRs m3 (r.f1.drop (j + 1)) (t.f2.drop (j + 1))) = rs) := Lib.hid (by have := HRS3.out; rw [fitRs, if_pos hs1] at this; exact this)
          clear hs1
          by_cases hc0 : k.f0 ≠ -1
          · have hc0b : (k.f0 != -1) = true := bne_iff_ne.2 hc0
            have HE4 : Hid (rs = 9) := Lib.hid (by rw [← HE3.out, if_pos (Or.inl hc0)])
            clear hc0
            go_wp2_with fail
            go_quiet (fail)
            go_wp2
            go_ret
            rw [HE4.out]
            exact ⟨rfl, pw_below_drewN HY.out.x.v.bel _⟩
          have hc0b : (k.f0 != -1) = false := by rw [Decidable.not_not.1 hc0]; rfl
          by_cases hc1 : k.f1 ≠ s
          · have hc1b : (k.f1 != s) = true := bne_iff_ne.2 hc1
            have HE4 : Hid (rs = 9) := Lib.hid (by rw [← HE3.out, if_pos (Or.inr (Or.inl hc1))])
            clear hc0 hc1
            go_wp2_with fail
            go_quiet (fail)
            go_wp2
            go_ret
            rw [HE4.out]
            exact ⟨rfl, pw_below_drewN HY.out.x.v.bel _⟩
          have hc1b : (k.f1 != s) = false := by rw [Decidable.not_not.1 hc1]; simp
          by_cases hc2 : 0 < k.f2.length
          · have hc2b : decide ((k.f2.length : Int) > 0) = true := decide_eq_true (by omega)
            have HE4 : Hid (rs = 9) := Lib.hid (by rw [← HE3.out, if_pos (Or.inr (Or.inr hc2))])
            clear hc0 hc1
            go_wp2_with fail
            go_quiet (fail)
            go_wp2
            go_ret
            rw [HE4.out]
            exact ⟨rfl, pw_below_drewN HY.out.x.v.bel _⟩
          · have hc2b : decide ((k.f2.length : Int) > 0) = false := decide_eq_false (by omega)
            have HE4 : Hid (fitRs m3 (r.f1.drop (j + 1)) (t.f2.drop (j + 1)) = rs) := Lib.hid (by rw [← HE3.out, if_neg (by omega)])
            clear hc0 hc1
            go_wp2_with fail
            go_quiet (fail)
            go_wp2
            go_roundw
            case rel => exact ⟨j + 1, HJ.out, by go_num, HE4, pw_below_drewN HB1.out _⟩
            case measure => have := HJ.out; simp [intOf]; omega
        · have hsb : decide (s < 0) = false := decide_eq_false hs1
          have HE3 : Hid ((if k.f0 < 0 then 9 else if fitR m3 k ≠ 0 then fitR m3 k else if (rruleAt m3 k.f0).f0 ≠ s then 9 else fitRs m3 (r.f1.drop (j + 1)) (t.f2.drop (j + 1))) = rs) := Lib.hid (by have := HRS3.out; rw [fitRs, if_neg hs1] at this; exact this)
          clear hs1
          by_cases hc0 : k.f0 < 0
          · have hc0b : decide (k.f0 < 0) = true := decide_eq_true hc0
            have HE4 : Hid (rs = 9) := Lib.hid (by rw [← HE3.out, if_pos hc0])
            clear hc0
            go_wp2
            go_ret
            rw [HE4.out]
            exact ⟨rfl, HY.out.x.v.bel⟩
          have hc0b : decide (k.f0 < 0) = false := decide_eq_false hc0
          have HE3' : Hid ((if fitR m3 k ≠ 0 then fitR m3 k else if (rruleAt m3 k.f0).f0 ≠ s then 9 else fitRs m3 (r.f1.drop (j + 1)) (t.f2.drop (j + 1))) = rs) := Lib.hid (by rw [← HE3.out, if_neg hc0])
          have hg0 := HY.out.x.v.g0
          have hg1 := HY.out.x.v.g1
          have hg2 := HY.out.x.v.g2
          have hg3 := HY.out.x.v.g3
          clear hc0 HE3
          go_wp2_with fail
          refine (HIH.out A0 n0 c0 A1 n1 c1 a2 _ c3 m3 hn HOK.out k K2 kc HCN.out _ HY.out.x.v.r3 HY.out.kr).mono ?_
          rintro e w8 ⟨rfl, hb8⟩
          have hY8 := HY.out.step hb8
          have HB8 := Lib.hid (HB1.out.trans (hb8.mono HB1.out.size))
          have HY8 := Lib.hid hY8
          have hs8 := (hb8.cell (World.block_lt_of_cell? _ _ hs0y)).trans hs0y
          clear hb8 hk0y hk1y hk2y hb1y hs0y hg0 hg1 hg2 hg3 HY HB1 hz2 hb1 hs0 hk0 hk1 hk2
          have HFI := Lib.hid (@fitR_in m3 k)
          generalize fitR m3 k = ek at *
          by_cases hek : ek ≠ 0
          · have hekb : (ek != 0) = true := bne_iff_ne.2 hek
            have HE4 : Hid (rs = ek) := Lib.hid (by rw [← HE3'.out, if_pos hek])
            clear hek hY8
            go_wp2
            go_ret
            rw [HE4.out]
            exact ⟨rfl, HY8.out.x.v.bel⟩
          · have hekb : (ek != 0) = false := by rw [Decidable.not_not.1 hek]; rfl
            obtain ⟨hf0, hf1, -⟩ := HFI.out (Decidable.not_not.1 hek)
            have HE4 : Hid ((if (rruleAt m3 k.f0).f0 ≠ s then 9 else fitRs m3 (r.f1.drop (j + 1)) (t.f2.drop (j + 1))) = rs) := Lib.hid (by rw [← HE3'.out, if_neg hek])
            obtain ⟨ad2, R2, rc2, eA, hx0, hx1, -, -⟩ := at_T87 hY8.x.v.r3 k.f0 hf0 (by omega)
            obtain rfl := Option.some.inj eA
            have hk0 := hY8.k0
            have hg3 := hY8.x.v.g3
            have hb1 := hY8.x.b1
            generalize hq2 : (rruleAt m3 k.f0).f0 = q2 at *
            have hx0' : w8.cell? (ad.add (k.f0.toNat * 2)) = some (.int .i64 q2) := by rw [hx0, ← hq2]
            clear hek hx0 hx1 eA hY8 hq2
            by_cases hqs : q2 ≠ s
            · have hqb : (q2 != s) = true := bne_iff_ne.2 hqs
              have HE5 : Hid (rs = 9) := Lib.hid (by rw [← HE4.out, if_pos hqs])
              clear hqs
              go_wp2_with fail
              go_quiet (fail)
              go_wp2
              go_ret
              rw [HE5.out]
              exact ⟨rfl, pw_below_drewN HY8.out.x.v.bel _⟩
            · have hqb : (q2 != s) = false := by rw [Decidable.not_not.1 hqs]; simp
              have HE5 : Hid (fitRs m3 (r.f1.drop (j + 1)) (t.f2.drop (j + 1)) = rs) := Lib.hid (by rw [← HE4.out, if_neg hqs])
              clear hqs
              go_wp2_with fail
              go_quiet (fail)
              go_wp2
              go_roundw
              case rel => exact ⟨j + 1, HJ.out, by go_num, HE5, pw_below_drewN HB8.out _⟩
              case measure => have := HJ.out; simp [intOf]; omega
      · obtain rfl : j = r.f1.length := by omega
        have HE3 : Hid (rs = 0) := Lib.hid (by have := HRS2.out; rw [List.drop_length, fitRs] at this; exact this.symm; all_goals simp)
        have hX2 := HX.out.step hB
        have hb1 := hX2.b1
        have HX2 := Lib.hid hX2
        clear hB hjl hj hX2
        go_wp2
        go_ret
        rw [HE3.out]
        exact ⟨rfl, HX2.out.v.bel⟩
end Go.Proofs.YtmdjmbdeeodehaaDoor.G
end
section
namespace Go.Proofs.YtmdjmbdeeodehaaDoor.G
open Go.RowKit Go.Proofs.YtmdjmbdeeodehaaDoorW.PrintWords Go.Proofs.YtmdjmbdeeodehaaDoorW.PrintLast Go.Proofs.YtmdjmbdeeodehaaDoorW.PrintMore
attribute [local go_sem] max2_int min2_int max_two min_two max_three min_three max_four min_four
attribute [local go_sem] Go.Proofs.YtmdjmbdeeodehaaDoorOwn.isSome_setCell
set_option linter.unusedVariables false
set_option linter.unusedSimpArgs false
def wickerref02_Has.f (l0_0 : List ByteArray) (l0_1 : List ByteArray) (a0_2 : Int) (l0_3 : List (S87)) (a1 : Int) : Option (Bool) := if a1 < (l0_0.length : Int) then (some (decide (a1 ≥ (wrap64 (-(l0_1.length : Int)))))) else (some false)
set_option maxHeartbeats 8000000 in
set_option maxRecDepth 100000 in
theorem wickerref02_Has.calls (A0_0 : Option Addr) (c0_0 : Nat) (l0_0 : List ByteArray) (A0_1 : Option Addr) (c0_1 : Nat) (l0_1 : List ByteArray) (a0_2 : Int) (A0_3 : Option Addr) (c0_3 : Nat) (l0_3 : List (S87)) (a1 : Int) (r : Bool) (w : World) (hr0_0 : Kd.C Kd.string w A0_0 l0_0.length l0_0) (hc0_0 : l0_0.length ≤ c0_0) (hr0_1 : Kd.C Kd.string w A0_1 l0_1.length l0_1) (hc0_1 : l0_1.length ≤ c0_1) (hr0_3 : Kd.C k87 w A0_3 l0_3.length l0_3) (hc0_3 : l0_3.length ≤ c0_3) (h : wickerref02_Has.f l0_0 l0_1 a0_2 l0_3 a1 = some r) :
  Calls Tryd.prog 104 #[.agg #[.slice A0_0 l0_0.length c0_0, .slice A0_1 l0_1.length c0_1, .int .i64 a0_2, .slice A0_3 l0_3.length c0_3], .int .i64 a1] w fun e w' => e = .returned (.bool r) ∧ Below w.heap.size w w' := by
 have hu63 := Tryd.underlying63
 have HR0_0 := Aside0.mk hr0_0
 have HC0_0 := Aside0.mk hc0_0
 clear hr0_0 hc0_0
 have HR0_1 := Aside0.mk hr0_1
 have HC0_1 := Aside0.mk hc0_1
 clear hr0_1 hc0_1
 have HR0_3 := Aside0.mk hr0_3
 have HC0_3 := Aside0.mk hc0_3
 clear hr0_3 hc0_3
 have HB := Aside0.mk (Below.refl w.heap.size w)
 have H : (if a1 < (l0_0.length : Int) then (some (decide (a1 ≥ (wrap64 (-(l0_1.length : Int)))))) else (some false)) = some r := h
 clear h
 by_cases c3 : a1 < (l0_0.length : Int)
 ·rw [if_pos c3] at H
  have c3b0 : decide (a1 < (l0_0.length : Int)) = true := decide_eq_true c3
  clear c3
  obtain rfl := Option.some.inj H
  go_enter Tryd.func104, Tryd.ntmps104
  go_wp2_with (first | ((with_reducible refine gate_dst (N := 2) rfl ?_); (try (refine gate_guard (by rfl) ?_; dsimp only)); refine box_event ?hg (N := 2) ?hd (cs := #[.slice A0_0 l0_0.length c0_0, .slice A0_1 l0_1.length c0_1, .int .i64 a0_2, .slice A0_3 l0_3.length c0_3]) (t := 63) ?hr ?_; (case hd => rfl); (case hg => rfl); (case hr => first | (go_simp; done) | (go_simp; rfl)); intro gb101 hg w4 hbox hb; have n0_ := Aside0.mk (below_step (by repeat (first | (with_reducible first | exact HB.out | apply below_alloc | apply pw_below_drewN | apply below_drew1) | exact HB.out)) hb); have n1_ := Aside0.mk (hbox); have n2_ := Aside0.mk ((by rw [hg]; exact (below_size (by repeat (first | (with_reducible first | exact HB.out | apply below_alloc | apply pw_below_drewN | apply below_drew1) | exact HB.out))) : w.heap.size ≤ gb101)); have n3_ := Aside0.mk ((by rw [hg]; exact (below_size (by repeat (first | (with_reducible first | exact HB.out | apply below_alloc | apply pw_below_drewN | apply below_drew1) | exact HB.out))) : w.heap.size ≤ gb101)); clear HB; have HB := n0_; have BK101 := n1_; have GW101 := n2_; have GE101 := n3_; clear n0_ n1_ n2_ n3_; clear hb hbox hg; have hcz5_0 : w4.cell? ⟨gb101, 0, none⟩ = some (.slice A0_0 l0_0.length c0_0) := (blk_cell BK101.out 0).trans rfl; have hcz5_1 : w4.cell? ⟨gb101, 1, none⟩ = some (.slice A0_1 l0_1.length c0_1) := (blk_cell BK101.out 1).trans rfl; have hcz5_2 : w4.cell? ⟨gb101, 2, none⟩ = some (.int .i64 a0_2) := (blk_cell BK101.out 2).trans rfl; have hcz5_3 : w4.cell? ⟨gb101, 3, none⟩ = some (.slice A0_3 l0_3.length c0_3) := (blk_cell BK101.out 3).trans rfl; have hfz5_0 := blk_frozen BK101.out 0; have hfz5_1 := blk_frozen BK101.out 1; have hfz5_2 := blk_frozen BK101.out 2; have hfz5_3 := blk_frozen BK101.out 3))
  go_ret
  exact ⟨by first | rfl | (simp [errW_none, errW_some] <;> rfl) | (simp [*, errW_none, errW_some] <;> rfl), by repeat (first | (with_reducible first | exact HB.out | apply below_alloc | apply pw_below_drewN | apply below_drew1 | refine below_set ?_ GE101.out) | exact HB.out)⟩
 ·rw [if_neg c3] at H
  have c3b0 : decide (a1 < (l0_0.length : Int)) = false := decide_eq_false c3
  clear c3
  obtain rfl := Option.some.inj H
  go_enter Tryd.func104, Tryd.ntmps104
  go_wp2_with (first | ((with_reducible refine gate_dst (N := 2) rfl ?_); (try (refine gate_guard (by rfl) ?_; dsimp only)); refine box_event ?hg (N := 2) ?hd (cs := #[.slice A0_0 l0_0.length c0_0, .slice A0_1 l0_1.length c0_1, .int .i64 a0_2, .slice A0_3 l0_3.length c0_3]) (t := 63) ?hr ?_; (case hd => rfl); (case hg => rfl); (case hr => first | (go_simp; done) | (go_simp; rfl)); intro gb101 hg w6 hbox hb; have n0_ := Aside0.mk (below_step (by repeat (first | (with_reducible first | exact HB.out | apply below_alloc | apply pw_below_drewN | apply below_drew1) | exact HB.out)) hb); have n1_ := Aside0.mk (hbox); have n2_ := Aside0.mk ((by rw [hg]; exact (below_size (by repeat (first | (with_reducible first | exact HB.out | apply below_alloc | apply pw_below_drewN | apply below_drew1) | exact HB.out))) : w.heap.size ≤ gb101)); have n3_ := Aside0.mk ((by rw [hg]; exact (below_size (by repeat (first | (with_reducible first | exact HB.out | apply below_alloc | apply pw_below_drewN | apply below_drew1) | exact HB.out))) : w.heap.size ≤ gb101)); clear HB; have HB := n0_; have BK101 := n1_; have GW101 := n2_; have GE101 := n3_; clear n0_ n1_ n2_ n3_; clear hb hbox hg; have hcz7_0 : w6.cell? ⟨gb101, 0, none⟩ = some (.slice A0_0 l0_0.length c0_0) := (blk_cell BK101.out 0).trans rfl; have hcz7_1 : w6.cell? ⟨gb101, 1, none⟩ = some (.slice A0_1 l0_1.length c0_1) := (blk_cell BK101.out 1).trans rfl; have hcz7_2 : w6.cell? ⟨gb101, 2, none⟩ = some (.int .i64 a0_2) := (blk_cell BK101.out 2).trans rfl; have hcz7_3 : w6.cell? ⟨gb101, 3, none⟩ = some (.slice A0_3 l0_3.length c0_3) := (blk_cell BK101.out 3).trans rfl; have hfz7_0 := blk_frozen BK101.out 0; have hfz7_1 := blk_frozen BK101.out 1; have hfz7_2 := blk_frozen BK101.out 2; have hfz7_3 := blk_frozen BK101.out 3))
  go_ret
  exact ⟨by first | rfl | (simp [errW_none, errW_some] <;> rfl) | (simp [*, errW_none, errW_some] <;> rfl), by repeat (first | (with_reducible first | exact HB.out | apply below_alloc | apply pw_below_drewN | apply below_drew1 | refine below_set ?_ GE101.out) | exact HB.out)⟩
mutual
def wickerref02_Same.j0 : Nat → Bool → Int → List Int → Int → List Int → Option (Bool)
 | 0, _, _, _, _, _ => none
 | k + 1, x19, x102000, x102001, x103000, x103001 => if x19 = true then (some false) else (wickerref02_Same.l0 k 0 x102000 x102001 x103000 x103001)
def wickerref02_Same.l0 : Nat → Int → Int → List Int → Int → List Int → Option (Bool)
 | 0, _, _, _, _, _ => none
 | k + 1, x5, x102000, x102001, x103000, x103001 => if x5 < (x102001.length : Int) then (if 0 ≤ x5 then (if x5 < (x103001.length : Int) then (if (rd x102001 x5) = (rd x103001 x5) then (wickerref02_Same.l0 k (wrap64 (x5 + 1)) x102000 x102001 x103000 x103001) else (some false)) else (none)) else (none)) else (some true)
end
def wickerref02_Same.f (k : Nat) (a0_0 : Int) (l0_1 : List Int) (a1_0 : Int) (l1_1 : List Int) : Option (Bool) := if a0_0 = a1_0 then (wickerref02_Same.j0 k ((l0_1.length : Int) != (l1_1.length : Int)) a0_0 l0_1 a1_0 l1_1) else (wickerref02_Same.j0 k true a0_0 l0_1 a1_0 l1_1)
set_option maxHeartbeats 8000000 in
set_option maxRecDepth 100000 in
theorem wickerref02_Same.calls (k : Nat) (a0_0 : Int) (A0_1 : Option Addr) (c0_1 : Nat) (l0_1 : List Int) (a1_0 : Int) (A1_1 : Option Addr) (c1_1 : Nat) (l1_1 : List Int) (r : Bool) (w : World) (hr0_1 : Kd.C (Kd.int .i64) w A0_1 l0_1.length l0_1) (hc0_1 : l0_1.length ≤ c0_1) (hr1_1 : Kd.C (Kd.int .i64) w A1_1 l1_1.length l1_1) (hc1_1 : l1_1.length ≤ c1_1) (h : wickerref02_Same.f k a0_0 l0_1 a1_0 l1_1 = some r) :
  Calls Tryd.prog 46 #[.agg #[.int .i64 a0_0, .slice A0_1 l0_1.length c0_1], .agg #[.int .i64 a1_0, .slice A1_1 l1_1.length c1_1]] w fun e w' => e = .returned (.bool r) ∧ Below w.heap.size w w' := by
 have hu87 := Tryd.underlying87
 have HR0_1 := Aside0.mk hr0_1
 have HC0_1 := Aside0.mk hc0_1
 clear hr0_1 hc0_1
 have HR1_1 := Aside0.mk hr1_1
 have HC1_1 := Aside0.mk hc1_1
 clear hr1_1 hc1_1
 have HB := Aside0.mk (Below.refl w.heap.size w)
 have H : (if a0_0 = a1_0 then (wickerref02_Same.j0 k ((l0_1.length : Int) != (l1_1.length : Int)) a0_0 l0_1 a1_0 l1_1) else (wickerref02_Same.j0 k true a0_0 l0_1 a1_0 l1_1)) = some r := h
 clear h
 have HC3 := Aside0.mk H
 clear H
 go_enter Tryd.func46, Tryd.ntmps46
 go_upto_region 1 with (first | ((with_reducible refine gate_dst (N := 2) rfl ?_); (try (refine gate_guard (by rfl) ?_; dsimp only)); refine box_event ?hg (N := 2) ?hd (cs := #[.int .i64 a0_0, .slice A0_1 l0_1.length c0_1]) (t := 87) ?hr ?_; (case hd => rfl); (case hg => rfl); (case hr => first | (go_simp; done) | (go_simp; rfl)); intro gb101 hg w4 hbox hb; have n0_ := Aside0.mk (below_step (by repeat (first | (with_reducible first | exact HB.out | apply below_alloc | apply pw_below_drewN | apply below_drew1) | exact HB.out)) hb); have n1_ := Aside0.mk (hbox); have n2_ := Aside0.mk ((by rw [hg]; exact (below_size (by repeat (first | (with_reducible first | exact HB.out | apply below_alloc | apply pw_below_drewN | apply below_drew1) | exact HB.out))) : w.heap.size ≤ gb101)); have n3_ := Aside0.mk ((by rw [hg]; exact (below_size (by repeat (first | (with_reducible first | exact HB.out | apply below_alloc | apply pw_below_drewN | apply below_drew1) | exact HB.out))) : w.heap.size ≤ gb101)); clear HB; have HB := n0_; have BK101 := n1_; have GW101 := n2_; have GE101 := n3_; clear n0_ n1_ n2_ n3_; clear hb hbox hg) | ((with_reducible refine gate_dst (N := 3) rfl ?_); (try (refine gate_guard (by rfl) ?_; dsimp only)); refine box_event ?hg (N := 3) ?hd (cs := #[.int .i64 a1_0, .slice A1_1 l1_1.length c1_1]) (t := 87) ?hr ?_; (case hd => rfl); (case hg => rfl); (case hr => first | (go_simp; done) | (go_simp; rfl)); intro gb102 hg w5 hbox hb; have n0_ := Aside0.mk (blk_below (g := gb101) (o := .cells #[.int .i64 a0_0, .slice A0_1 l0_1.length c0_1] 87 (0, 0)) (by (with_reducible repeat (first | refine blk_drewN ?_ _ | refine blk_drew ?_ | refine blk_alloc ?_ _)); exact BK101.out) hb); have n1_ := Aside0.mk (below_step (by repeat (first | (with_reducible first | exact HB.out | apply below_alloc | apply pw_below_drewN | apply below_drew1 | refine below_set ?_ GE101.out) | exact HB.out)) hb); have n2_ := Aside0.mk (hbox); have n3_ := Aside0.mk ((by rw [hg]; exact (below_size (by repeat (first | (with_reducible first | exact HB.out | apply below_alloc | apply pw_below_drewN | apply below_drew1 | refine below_set ?_ GE101.out) | exact HB.out))) : w.heap.size ≤ gb102)); have n4_ := Aside0.mk ((by rw [hg]; exact (below_size (by repeat (first | (with_reducible first | exact HB.out | apply below_alloc | apply pw_below_drewN | apply below_drew1 | refine below_set ?_ GE101.out) | exact HB.out))) : w.heap.size ≤ gb102)); have n5_ := Aside0.mk ((by rw [hg]; exact Nat.ne_of_lt (blk_lt (g := gb101) (o := .cells #[.int .i64 a0_0, .slice A0_1 l0_1.length c0_1] 87 (0, 0)) (by (with_reducible repeat (first | refine blk_drewN ?_ _ | refine blk_drew ?_ | refine blk_alloc ?_ _)); exact BK101.out)) : gb101 ≠ gb102)); have n6_ := Aside0.mk ((by rw [hg]; exact Nat.ne_of_gt (blk_lt (g := gb101) (o := .cells #[.int .i64 a0_0, .slice A0_1 l0_1.length c0_1] 87 (0, 0)) (by (with_reducible repeat (first | refine blk_drewN ?_ _ | refine blk_drew ?_ | refine blk_alloc ?_ _)); exact BK101.out)) : gb102 ≠ gb101)); clear BK101; clear HB; have BK101 := n0_; have HB := n1_; have BK102 := n2_; have GW102 := n3_; have GE102 := n4_; have NB101_102 := n5_; have NB102_101 := n6_; clear n0_ n1_ n2_ n3_ n4_ n5_ n6_; clear hb hbox hg))
 repeat (go_quiet (first | ((with_reducible refine gate_dst (N := 2) rfl ?_); (try (refine gate_guard (by rfl) ?_; dsimp only)); refine box_event ?hg (N := 2) ?hd (cs := #[.int .i64 a0_0, .slice A0_1 l0_1.length c0_1]) (t := 87) ?hr ?_; (case hd => rfl); (case hg => rfl); (case hr => first | (go_simp; done) | (go_simp; rfl)); intro gb101 hg w4 hbox hb; have n0_ := Aside0.mk (below_step (by repeat (first | (with_reducible first | exact HB.out | apply below_alloc | apply pw_below_drewN | apply below_drew1) | exact HB.out)) hb); have n1_ := Aside0.mk (hbox); have n2_ := Aside0.mk ((by rw [hg]; exact (below_size (by repeat (first | (with_reducible first | exact HB.out | apply below_alloc | apply pw_below_drewN | apply below_drew1) | exact HB.out))) : w.heap.size ≤ gb101)); have n3_ := Aside0.mk ((by rw [hg]; exact (below_size (by repeat (first | (with_reducible first | exact HB.out | apply below_alloc | apply pw_below_drewN | apply below_drew1) | exact HB.out))) : w.heap.size ≤ gb101)); clear HB; have HB := n0_; have BK101 := n1_; have GW101 := n2_; have GE101 := n3_; clear n0_ n1_ n2_ n3_; clear hb hbox hg) | ((with_reducible refine gate_dst (N := 3) rfl ?_); (try (refine gate_guard (by rfl) ?_; dsimp only)); refine box_event ?hg (N := 3) ?hd (cs := #[.int .i64 a1_0, .slice A1_1 l1_1.length c1_1]) (t := 87) ?hr ?_; (case hd => rfl); (case hg => rfl); (case hr => first | (go_simp; done) | (go_simp; rfl)); intro gb102 hg w5 hbox hb; have n0_ := Aside0.mk (blk_below (g := gb101) (o := .cells #[.int .i64 a0_0, .slice A0_1 l0_1.length c0_1] 87 (0, 0)) (by (with_reducible repeat (first | refine blk_drewN ?_ _ | refine blk_drew ?_ | refine blk_alloc ?_ _)); exact BK101.out) hb); have n1_ := Aside0.mk (below_step (by repeat (first | (with_reducible first | exact HB.out | apply below_alloc | apply pw_below_drewN | apply below_drew1 | refine below_set ?_ GE101.out) | exact HB.out)) hb); have n2_ := Aside0.mk (hbox); have n3_ := Aside0.mk ((by rw [hg]; exact (below_size (by repeat (first | (with_reducible first | exact HB.out | apply below_alloc | apply pw_below_drewN | apply below_drew1 | refine below_set ?_ GE101.out) | exact HB.out))) : w.heap.size ≤ gb102)); have n4_ := Aside0.mk ((by rw [hg]; exact (below_size (by repeat (first | (with_reducible first | exact HB.out | apply below_alloc | apply pw_below_drewN | apply below_drew1 | refine below_set ?_ GE101.out) | exact HB.out))) : w.heap.size ≤ gb102)); have n5_ := Aside0.mk ((by rw [hg]; exact Nat.ne_of_lt (blk_lt (g := gb101) (o := .cells #[.int .i64 a0_0, .slice A0_1 l0_1.length c0_1] 87 (0, 0)) (by (with_reducible repeat (first | refine blk_drewN ?_ _ | refine blk_drew ?_ | refine blk_alloc ?_ _)); exact BK101.out)) : gb101 ≠ gb102)); have n6_ := Aside0.mk ((by rw [hg]; exact Nat.ne_of_gt (blk_lt (g := gb101) (o := .cells #[.int .i64 a0_0, .slice A0_1 l0_1.length c0_1] 87 (0, 0)) (by (with_reducible repeat (first | refine blk_drewN ?_ _ | refine blk_drew ?_ | refine blk_alloc ?_ _)); exact BK101.out)) : gb102 ≠ gb101)); clear BK101; clear HB; have BK101 := n0_; have HB := n1_; have BK102 := n2_; have GW102 := n3_; have GE102 := n4_; have NB101_102 := n5_; have NB102_101 := n6_; clear n0_ n1_ n2_ n3_ n4_ n5_ n6_; clear hb hbox hg)); go_upto_region 1 with (first | ((with_reducible refine gate_dst (N := 2) rfl ?_); (try (refine gate_guard (by rfl) ?_; dsimp only)); refine box_event ?hg (N := 2) ?hd (cs := #[.int .i64 a0_0, .slice A0_1 l0_1.length c0_1]) (t := 87) ?hr ?_; (case hd => rfl); (case hg => rfl); (case hr => first | (go_simp; done) | (go_simp; rfl)); intro gb101 hg w4 hbox hb; have n0_ := Aside0.mk (below_step (by repeat (first | (with_reducible first | exact HB.out | apply below_alloc | apply pw_below_drewN | apply below_drew1) | exact HB.out)) hb); have n1_ := Aside0.mk (hbox); have n2_ := Aside0.mk ((by rw [hg]; exact (below_size (by repeat (first | (with_reducible first | exact HB.out | apply below_alloc | apply pw_below_drewN | apply below_drew1) | exact HB.out))) : w.heap.size ≤ gb101)); have n3_ := Aside0.mk ((by rw [hg]; exact (below_size (by repeat (first | (with_reducible first | exact HB.out | apply below_alloc | apply pw_below_drewN | apply below_drew1) | exact HB.out))) : w.heap.size ≤ gb101)); clear HB; have HB := n0_; have BK101 := n1_; have GW101 := n2_; have GE101 := n3_; clear n0_ n1_ n2_ n3_; clear hb hbox hg) | ((with_reducible refine gate_dst (N := 3) rfl ?_); (try (refine gate_guard (by rfl) ?_; dsimp only)); refine box_event ?hg (N := 3) ?hd (cs := #[.int .i64 a1_0, .slice A1_1 l1_1.length c1_1]) (t := 87) ?hr ?_; (case hd => rfl); (case hg => rfl); (case hr => first | (go_simp; done) | (go_simp; rfl)); intro gb102 hg w5 hbox hb; have n0_ := Aside0.mk (blk_below (g := gb101) (o := .cells #[.int .i64 a0_0, .slice A0_1 l0_1.length c0_1] 87 (0, 0)) (by (with_reducible repeat (first | refine blk_drewN ?_ _ | refine blk_drew ?_ | refine blk_alloc ?_ _)); exact BK101.out) hb); have n1_ := Aside0.mk (below_step (by repeat (first | (with_reducible first | exact HB.out | apply below_alloc | apply pw_below_drewN | apply below_drew1 | refine below_set ?_ GE101.out) | exact HB.out)) hb); have n2_ := Aside0.mk (hbox); have n3_ := Aside0.mk ((by rw [hg]; exact (below_size (by repeat (first | (with_reducible first | exact HB.out | apply below_alloc | apply pw_below_drewN | apply below_drew1 | refine below_set ?_ GE101.out) | exact HB.out))) : w.heap.size ≤ gb102)); have n4_ := Aside0.mk ((by rw [hg]; exact (below_size (by repeat (first | (with_reducible first | exact HB.out | apply below_alloc | apply pw_below_drewN | apply below_drew1 | refine below_set ?_ GE101.out) | exact HB.out))) : w.heap.size ≤ gb102)); have n5_ := Aside0.mk ((by rw [hg]; exact Nat.ne_of_lt (blk_lt (g := gb101) (o := .cells #[.int .i64 a0_0, .slice A0_1 l0_1.length c0_1] 87 (0, 0)) (by (with_reducible repeat (first | refine blk_drewN ?_ _ | refine blk_drew ?_ | refine blk_alloc ?_ _)); exact BK101.out)) : gb101 ≠ gb102)); have n6_ := Aside0.mk ((by rw [hg]; exact Nat.ne_of_gt (blk_lt (g := gb101) (o := .cells #[.int .i64 a0_0, .slice A0_1 l0_1.length c0_1] 87 (0, 0)) (by (with_reducible repeat (first | refine blk_drewN ?_ _ | refine blk_drew ?_ | refine blk_alloc ?_ _)); exact BK101.out)) : gb102 ≠ gb101)); clear BK101; clear HB; have BK101 := n0_; have HB := n1_; have BK102 := n2_; have GW102 := n3_; have GE102 := n4_; have NB101_102 := n5_; have NB102_101 := n6_; clear n0_ n1_ n2_ n3_ n4_ n5_ n6_; clear hb hbox hg)))
 (try simp only [Act.put, List.setIfInBounds_toArray, List.set_cons_zero, List.set_cons_succ])
 go_cut [19] (fun v19 wc => ∃ (kq : Nat) (x19_2 : Bool), v19 = .bool x19_2 ∧ Aside0 (wickerref02_Same.j0 kq x19_2 a0_0 l0_1 a1_0 l1_1 = some r) ∧ Aside0 (kq ≤ k) ∧ Aside0 (wc.heap[gb101]? = some (.cells #[.int .i64 a0_0, (.slice A0_1 l0_1.length c0_1)] 87 (0, 0))) ∧ Aside0 (wc.heap[gb102]? = some (.cells #[.int .i64 a1_0, (.slice A1_1 l1_1.length c1_1)] 87 (0, 0))) ∧ Aside0 (Below w.heap.size w wc))
 case first =>
  have H := HC3.out
  clear HC3
  by_cases c6 : a0_0 = a1_0
  ·rw [if_pos c6] at H
   have c6b0 : (a0_0 == a1_0) = true := beq_iff_eq.mpr c6
   have c6b1 : (a0_0 != a1_0) = false := bne_eq_false_iff_eq.mpr c6
   clear c6
   (first | rw [c6b0] | (simp only [i64_w, i32_w]; rw [c6b0]) | skip)
   have H' := Aside0.mk H
   clear H
   have hnb7 := NB101_102.out
   have hnc7 := NB102_101.out
   have hcz8_0 : w5.cell? ⟨gb101, 0, none⟩ = some (.int .i64 a0_0) := (blk_cell BK101.out 0).trans rfl
   have hcz8_1 : w5.cell? ⟨gb101, 1, none⟩ = some (.slice A0_1 l0_1.length c0_1) := (blk_cell BK101.out 1).trans rfl
   have hfz8_0 := blk_frozen BK101.out 0
   have hfz8_1 := blk_frozen BK101.out 1
   have hcz9_0 : w5.cell? ⟨gb102, 0, none⟩ = some (.int .i64 a1_0) := (blk_cell BK102.out 0).trans rfl
   have hcz9_1 : w5.cell? ⟨gb102, 1, none⟩ = some (.slice A1_1 l1_1.length c1_1) := (blk_cell BK102.out 1).trans rfl
   have hfz9_0 := blk_frozen BK102.out 0
   have hfz9_1 := blk_frozen BK102.out 1
   go_wp2
   repeat (go_quiet (fail); try go_wp2)
   go_meet
   case rel => exact ⟨_, (((l0_1.length : Int) != (l1_1.length : Int))), (by first | rfl | (simp; done) | (simp [*]; done)), H', ⟨by first | omega | exact Nat.le_refl _⟩, ⟨by (with_reducible repeat (first | refine blk_drewN ?_ _ | refine blk_drew ?_ | refine blk_alloc ?_ _)); exact BK101.out⟩, ⟨by (with_reducible repeat (first | refine blk_drewN ?_ _ | refine blk_drew ?_ | refine blk_alloc ?_ _)); exact BK102.out⟩, ⟨by repeat (first | (with_reducible first | exact HB.out | apply below_alloc | apply pw_below_drewN | apply below_drew1 | refine below_set ?_ GE101.out | refine below_set ?_ GE102.out) | exact HB.out)⟩⟩
  ·rw [if_neg c6] at H
   have c6b0 : (a0_0 == a1_0) = false := beq_eq_false_iff_ne.mpr c6
   have c6b1 : (a0_0 != a1_0) = true := bne_iff_ne.mpr c6
   (first | rw [c6b0] | (simp only [i64_w, i32_w]; rw [c6b0]) | skip)
   have H' := Aside0.mk H
   clear H
   have hnb10 := NB101_102.out
   have hnc10 := NB102_101.out
   have hcz11_0 : w5.cell? ⟨gb101, 0, none⟩ = some (.int .i64 a0_0) := (blk_cell BK101.out 0).trans rfl
   have hcz11_1 : w5.cell? ⟨gb101, 1, none⟩ = some (.slice A0_1 l0_1.length c0_1) := (blk_cell BK101.out 1).trans rfl
   have hfz11_0 := blk_frozen BK101.out 0
   have hfz11_1 := blk_frozen BK101.out 1
   have hcz12_0 : w5.cell? ⟨gb102, 0, none⟩ = some (.int .i64 a1_0) := (blk_cell BK102.out 0).trans rfl
   have hcz12_1 : w5.cell? ⟨gb102, 1, none⟩ = some (.slice A1_1 l1_1.length c1_1) := (blk_cell BK102.out 1).trans rfl
   have hfz12_0 := blk_frozen BK102.out 0
   have hfz12_1 := blk_frozen BK102.out 1
   go_wp2
   repeat (go_quiet (fail); try go_wp2)
   go_meet
   case rel => exact ⟨_, (true), (by first | rfl | (simp; done) | (simp [*]; done)), H', ⟨by first | omega | exact Nat.le_refl _⟩, ⟨by (with_reducible repeat (first | refine blk_drewN ?_ _ | refine blk_drew ?_ | refine blk_alloc ?_ _)); exact BK101.out⟩, ⟨by (with_reducible repeat (first | refine blk_drewN ?_ _ | refine blk_drew ?_ | refine blk_alloc ?_ _)); exact BK102.out⟩, ⟨by repeat (first | (with_reducible first | exact HB.out | apply below_alloc | apply pw_below_drewN | apply below_drew1 | refine below_set ?_ GE101.out | refine below_set ?_ GE102.out) | exact HB.out)⟩⟩
 case rest =>
  clear HC3
  try clear c1
  try clear p2
  try clear c4
  try clear c6
  try clear c6b0
  try clear c6b1
  try clear c7
  try clear c10
  try clear hcz11_0
  try clear hcz11_1
  try clear hcz12_0
  try clear hcz12_1
  try clear hcz8_0
  try clear hcz8_1
  try clear hcz9_0
  try clear hcz9_1
  try clear hfz11_0
  try clear hfz11_1
  try clear hfz12_0
  try clear hfz12_1
  try clear hfz8_0
  try clear hfz8_1
  try clear hfz9_0
  try clear hfz9_1
  obtain ⟨kq, x19_2, rfl, HA, HJ2, BK101, BK102, HB⟩ := hcut
  cases kq with
  | zero => exact absurd HA.out (by simp [wickerref02_Same.j0])
  | succ kj2 =>
   have H := HA.out
   clear HA
   simp only [wickerref02_Same.j0] at H
   by_cases c13 : x19_2 = true
   ·subst c13
    have H1 : (some false) = some r := by rw [if_pos rfl] at H; exact H
    clear H
    have H := H1
    clear H1
    obtain rfl := Option.some.inj H
    go_wp2
    repeat (go_quiet (fail); try go_wp2)
    go_ret
    exact ⟨by first | rfl | (simp [errW_none, errW_some] <;> rfl) | (simp [*, errW_none, errW_some] <;> rfl), by repeat (first | (with_reducible first | exact HB.out | apply below_alloc | apply pw_below_drewN | apply below_drew1 | refine below_set ?_ GE101.out | refine below_set ?_ GE102.out) | exact HB.out)⟩
   ·replace c13 := Bool.eq_false_iff.mpr c13
    subst c13
    have H1 : (wickerref02_Same.l0 kj2 0 a0_0 l0_1 a1_0 l1_1) = some r := by rw [if_neg (show ¬ (false = true) by decide)] at H; exact H
    clear H
    have H := H1
    clear H1
    have H' := Aside0.mk H
    clear H
    go_wp2
    repeat (go_quiet (fail); try go_wp2)
    go_loopg [5] kj2 (fun kq v5 w' => ∃ (x5_2 : Int), v5 = .int .i64 x5_2 ∧ Aside0 (wickerref02_Same.l0 kq x5_2 a0_0 l0_1 a1_0 l1_1 = some r) ∧ Aside0 (kq ≤ kj2) ∧ Aside0 (w'.heap[gb101]? = some (.cells #[.int .i64 a0_0, (.slice A0_1 l0_1.length c0_1)] 87 (0, 0))) ∧ Aside0 (w'.heap[gb102]? = some (.cells #[.int .i64 a1_0, (.slice A1_1 l1_1.length c1_1)] 87 (0, 0))) ∧ Aside0 (Below w.heap.size w w'))
    case atStart => exact ⟨(0), (by first | rfl | (simp; done) | (simp [*]; done)), H', ⟨Nat.le_refl _⟩, ⟨by (with_reducible repeat (first | refine blk_drewN ?_ _ | refine blk_drew ?_ | refine blk_alloc ?_ _)); exact BK101.out⟩, ⟨by (with_reducible repeat (first | refine blk_drewN ?_ _ | refine blk_drew ?_ | refine blk_alloc ?_ _)); exact BK102.out⟩, ⟨by repeat (first | (with_reducible first | exact HB.out | apply below_alloc | apply pw_below_drewN | apply below_drew1 | refine below_set ?_ GE101.out | refine below_set ?_ GE102.out) | exact HB.out)⟩⟩
    case round =>
     clear H'
     try clear c1
     try clear p2
     try clear c4
     try clear c6
     try clear c6b0
     try clear c6b1
     try clear c7
     try clear c10
     try clear c13
     try clear hcz11_0
     try clear hcz11_1
     try clear hcz12_0
     try clear hcz12_1
     try clear hcz8_0
     try clear hcz8_1
     try clear hcz9_0
     try clear hcz9_1
     try clear hfz11_0
     try clear hfz11_1
     try clear hfz12_0
     try clear hfz12_1
     try clear hfz8_0
     try clear hfz8_1
     try clear hfz9_0
     try clear hfz9_1
     try clear p2
     obtain ⟨x5_2, rfl, HA, HK2, BK101, BK102, HB⟩ := hrel
     cases gk with
     | zero => exact absurd HA.out (by simp [wickerref02_Same.l0])
     | succ k2 =>
      have H := HA.out
      clear HA
      simp only [wickerref02_Same.l0] at H
      by_cases c14 : x5_2 < (l0_1.length : Int)
      ·rw [if_pos c14] at H
       have c14b0 : decide (x5_2 < (l0_1.length : Int)) = true := decide_eq_true c14
       clear c14
       by_cases c15 : 0 ≤ x5_2
       ·rw [if_pos c15] at H
        have c15b0 : decide (0 ≤ x5_2) = true := decide_eq_true c15
        clear c15
        by_cases c16 : x5_2 < (l1_1.length : Int)
        ·rw [if_pos c16] at H
         have c16b0 : decide (x5_2 < (l1_1.length : Int)) = true := decide_eq_true c16
         clear c16
         by_cases c17 : (rd l0_1 x5_2) = (rd l1_1 x5_2)
         ·rw [if_pos c17] at H
          have c17b0 : ((rd l0_1 x5_2) == (rd l1_1 x5_2)) = true := beq_iff_eq.mpr c17
          have c17b1 : ((rd l0_1 x5_2) != (rd l1_1 x5_2)) = false := bne_eq_false_iff_eq.mpr c17
          clear c17
          have H' := Aside0.mk H
          clear H
          have hnb18 := NB101_102.out
          have hnc18 := NB102_101.out
          have hcz19_0 : wr.cell? ⟨gb101, 0, none⟩ = some (.int .i64 a0_0) := (blk_cell BK101.out 0).trans rfl
          have hcz19_1 : wr.cell? ⟨gb101, 1, none⟩ = some (.slice A0_1 l0_1.length c0_1) := (blk_cell BK101.out 1).trans rfl
          have hfz19_0 := blk_frozen BK101.out 0
          have hfz19_1 := blk_frozen BK101.out 1
          have p103 : 0 ≤ (x5_2 : Int) := of_decide_eq_true (by first | (with_reducible assumption) | assumption)
          have q103 : x5_2 < (l0_1.length : Int) := of_decide_eq_true (by first | (with_reducible assumption) | assumption)
          obtain ⟨ad103, e103, hx103_0⟩ := Kd.at_int HR0_1.out x5_2 p103 q103
          cases e103
          replace hx103_0 := (HB.out.cell (World.block_lt_of_cell? w _ hx103_0)).trans hx103_0
          replace p103 := eq_true p103
          replace q103 := eq_true q103
          have hcz20_0 : wr.cell? ⟨gb102, 0, none⟩ = some (.int .i64 a1_0) := (blk_cell BK102.out 0).trans rfl
          have hcz20_1 : wr.cell? ⟨gb102, 1, none⟩ = some (.slice A1_1 l1_1.length c1_1) := (blk_cell BK102.out 1).trans rfl
          have hfz20_0 := blk_frozen BK102.out 0
          have hfz20_1 := blk_frozen BK102.out 1
          have p104 : 0 ≤ (x5_2 : Int) := of_decide_eq_true (by first | (with_reducible assumption) | assumption)
          have q104 : x5_2 < (l1_1.length : Int) := of_decide_eq_true (by first | (with_reducible assumption) | assumption)
          obtain ⟨ad104, e104, hx104_0⟩ := Kd.at_int HR1_1.out x5_2 p104 q104
          cases e104
          replace hx104_0 := (HB.out.cell (World.block_lt_of_cell? w _ hx104_0)).trans hx104_0
          replace p104 := eq_true p104
          replace q104 := eq_true q104
          go_wp2
          repeat (go_quiet (fail); try go_wp2)
          go_roundg k2
          case measure => have := HJ2.out; have := HK2.out; omega
          case rel => exact ⟨(wrap64 (x5_2 + 1)), (by first | rfl | (simp; done) | (simp [*]; done)), H', ⟨by have := HJ2.out; have := HK2.out; omega⟩, ⟨by (with_reducible repeat (first | refine blk_drewN ?_ _ | refine blk_drew ?_ | refine blk_alloc ?_ _)); exact BK101.out⟩, ⟨by (with_reducible repeat (first | refine blk_drewN ?_ _ | refine blk_drew ?_ | refine blk_alloc ?_ _)); exact BK102.out⟩, ⟨by repeat (first | (with_reducible first | exact HB.out | apply below_alloc | apply pw_below_drewN | apply below_drew1 | refine below_set ?_ GE101.out | refine below_set ?_ GE102.out) | exact HB.out)⟩⟩
         ·rw [if_neg c17] at H
          have c17b0 : ((rd l0_1 x5_2) == (rd l1_1 x5_2)) = false := beq_eq_false_iff_ne.mpr c17
          have c17b1 : ((rd l0_1 x5_2) != (rd l1_1 x5_2)) = true := bne_iff_ne.mpr c17
          obtain rfl := Option.some.inj H
          have hnb21 := NB101_102.out
          have hnc21 := NB102_101.out
          have hcz22_0 : wr.cell? ⟨gb101, 0, none⟩ = some (.int .i64 a0_0) := (blk_cell BK101.out 0).trans rfl
          have hcz22_1 : wr.cell? ⟨gb101, 1, none⟩ = some (.slice A0_1 l0_1.length c0_1) := (blk_cell BK101.out 1).trans rfl
          have hfz22_0 := blk_frozen BK101.out 0
          have hfz22_1 := blk_frozen BK101.out 1
          have p103 : 0 ≤ (x5_2 : Int) := of_decide_eq_true (by first | (with_reducible assumption) | assumption)
          have q103 : x5_2 < (l0_1.length : Int) := of_decide_eq_true (by first | (with_reducible assumption) | assumption)
          obtain ⟨ad103, e103, hx103_0⟩ := Kd.at_int HR0_1.out x5_2 p103 q103
          cases e103
          replace hx103_0 := (HB.out.cell (World.block_lt_of_cell? w _ hx103_0)).trans hx103_0
          replace p103 := eq_true p103
          replace q103 := eq_true q103
          have hcz23_0 : wr.cell? ⟨gb102, 0, none⟩ = some (.int .i64 a1_0) := (blk_cell BK102.out 0).trans rfl
          have hcz23_1 : wr.cell? ⟨gb102, 1, none⟩ = some (.slice A1_1 l1_1.length c1_1) := (blk_cell BK102.out 1).trans rfl
          have hfz23_0 := blk_frozen BK102.out 0
          have hfz23_1 := blk_frozen BK102.out 1
          have p104 : 0 ≤ (x5_2 : Int) := of_decide_eq_true (by first | (with_reducible assumption) | assumption)
          have q104 : x5_2 < (l1_1.length : Int) := of_decide_eq_true (by first | (with_reducible assumption) | assumption)
          obtain ⟨ad104, e104, hx104_0⟩ := Kd.at_int HR1_1.out x5_2 p104 q104
          cases e104
          replace hx104_0 := (HB.out.cell (World.block_lt_of_cell? w _ hx104_0)).trans hx104_0
          replace p104 := eq_true p104
          replace q104 := eq_true q104
          go_wp2
          repeat (go_quiet (fail); try go_wp2)
          go_ret
          exact ⟨by first | rfl | (simp [errW_none, errW_some] <;> rfl) | (simp [*, errW_none, errW_some] <;> rfl), by repeat (first | (with_reducible first | exact HB.out | apply below_alloc | apply pw_below_drewN | apply below_drew1 | refine below_set ?_ GE101.out | refine below_set ?_ GE102.out) | exact HB.out)⟩
        ·rw [if_neg c16] at H
         exact absurd H (by simp)
       ·rw [if_neg c15] at H
        exact absurd H (by simp)
      ·rw [if_neg c14] at H
       have c14b0 : decide (x5_2 < (l0_1.length : Int)) = false := decide_eq_false c14
       clear c14
       obtain rfl := Option.some.inj H
       have hnb24 := NB101_102.out
       have hnc24 := NB102_101.out
       have hcz25_0 : wr.cell? ⟨gb101, 0, none⟩ = some (.int .i64 a0_0) := (blk_cell BK101.out 0).trans rfl
       have hcz25_1 : wr.cell? ⟨gb101, 1, none⟩ = some (.slice A0_1 l0_1.length c0_1) := (blk_cell BK101.out 1).trans rfl
       have hfz25_0 := blk_frozen BK101.out 0
       have hfz25_1 := blk_frozen BK101.out 1
       go_wp2
       repeat (go_quiet (fail); try go_wp2)
       go_ret
       exact ⟨by first | rfl | (simp [errW_none, errW_some] <;> rfl) | (simp [*, errW_none, errW_some] <;> rfl), by repeat (first | (with_reducible first | exact HB.out | apply below_alloc | apply pw_below_drewN | apply below_drew1 | refine below_set ?_ GE101.out | refine below_set ?_ GE102.out) | exact HB.out)⟩
def wickerref02_Find.l0 : Nat → List (S87) → Int → Int → List Int → Option (Int)
 | 0, _, _, _, _ => none
 | k + 1, x0, x5, x102000, x102001 => if x5 < (x0.length : Int) then (if 0 ≤ x5 then ((wickerref02_Same.f k ((rd_T87 x0 x5).f0) ((rd_T87 x0 x5).f1) x102000 x102001).bind fun t103 => (if t103 = true then (some x5) else (wickerref02_Find.l0 k x0 (wrap64 (x5 + 1)) x102000 x102001))) else (none)) else (some (-1))
def wickerref02_Find.f (k : Nat) (l0 : List (S87)) (a1_0 : Int) (l1_1 : List Int) : Option (Int) := wickerref02_Find.l0 k l0 0 a1_0 l1_1
set_option maxHeartbeats 8000000 in
set_option maxRecDepth 100000 in
theorem wickerref02_Find.calls (k : Nat) (A0 : Option Addr) (c0 : Nat) (l0 : List (S87)) (a1_0 : Int) (A1_1 : Option Addr) (c1_1 : Nat) (l1_1 : List Int) (r : Int) (w : World) (hr0 : Kd.C k87 w A0 l0.length l0) (hc0 : l0.length ≤ c0) (hr1_1 : Kd.C (Kd.int .i64) w A1_1 l1_1.length l1_1) (hc1_1 : l1_1.length ≤ c1_1) (h : wickerref02_Find.f k l0 a1_0 l1_1 = some r) :
  Calls Tryd.prog 107 #[.slice A0 l0.length c0, .agg #[.int .i64 a1_0, .slice A1_1 l1_1.length c1_1]] w fun e w' => e = .returned (.int .i64 r) ∧ Below w.heap.size w w' := by
 have hu87 := Tryd.underlying87
 have HR0 := Aside0.mk hr0
 have HC0 := Aside0.mk hc0
 clear hr0 hc0
 have HR1_1 := Aside0.mk hr1_1
 have HC1_1 := Aside0.mk hc1_1
 clear hr1_1 hc1_1
 have HB := Aside0.mk (Below.refl w.heap.size w)
 have H : (wickerref02_Find.l0 k l0 0 a1_0 l1_1) = some r := h
 clear h
 have H' := Aside0.mk H
 clear H
 go_enter Tryd.func107, Tryd.ntmps107
 go_wp2_with (first | ((with_reducible refine gate_dst (N := 3) rfl ?_); refine box_event ?hg (N := 3) ?hd (cs := #[.int .i64 a1_0, .slice A1_1 l1_1.length c1_1]) (t := 87) ?hr ?_; (case hd => rfl); (case hg => rfl); (case hr => first | (go_simp; done) | (go_simp; rfl)); intro gb101 hg w3 hbox hb; have n0_ := Aside0.mk (below_step (by repeat (first | (with_reducible first | exact HB.out | apply below_alloc | apply pw_below_drewN | apply below_drew1) | exact HB.out)) hb); have n1_ := Aside0.mk (hbox); have n2_ := Aside0.mk ((by rw [hg]; exact (below_size (by repeat (first | (with_reducible first | exact HB.out | apply below_alloc | apply pw_below_drewN | apply below_drew1) | exact HB.out))) : w.heap.size ≤ gb101)); have n3_ := Aside0.mk ((by rw [hg]; exact (below_size (by repeat (first | (with_reducible first | exact HB.out | apply below_alloc | apply pw_below_drewN | apply below_drew1) | exact HB.out))) : w.heap.size ≤ gb101)); clear HB; have HB := n0_; have BK101 := n1_; have GW101 := n2_; have GE101 := n3_; clear n0_ n1_ n2_ n3_; clear hb hbox hg))
 go_loopg [5] k (fun kq v5 w' => ∃ (x5_1 : Int), v5 = .int .i64 x5_1 ∧ Aside0 (wickerref02_Find.l0 kq l0 x5_1 a1_0 l1_1 = some r) ∧ Aside0 (kq ≤ k) ∧ Aside0 (w'.heap[gb101]? = some (.cells #[.int .i64 a1_0, (.slice A1_1 l1_1.length c1_1)] 87 (0, 0))) ∧ Aside0 (Below w.heap.size w w'))
 case atStart => exact ⟨(0), (by first | rfl | (simp; done) | (simp [*]; done)), H', ⟨Nat.le_refl _⟩, ⟨by (with_reducible repeat (first | refine blk_drewN ?_ _ | refine blk_drew ?_ | refine blk_alloc ?_ _)); exact BK101.out⟩, ⟨by repeat (first | (with_reducible first | exact HB.out | apply below_alloc | apply pw_below_drewN | apply below_drew1 | refine below_set ?_ GE101.out) | exact HB.out)⟩⟩
 case round =>
  clear H'
  try clear c1
  try clear p2
  obtain ⟨x5_1, rfl, HA, HK1, BK101, HB⟩ := hrel
  cases gk with
  | zero => exact absurd HA.out (by simp [wickerref02_Find.l0])
  | succ k1 =>
   have H := HA.out
   clear HA
   simp only [wickerref02_Find.l0] at H
   by_cases c4 : x5_1 < (l0.length : Int)
   ·rw [if_pos c4] at H
    have c4b0 : decide (x5_1 < (l0.length : Int)) = true := decide_eq_true c4
    clear c4
    by_cases c5 : 0 ≤ x5_1
    ·rw [if_pos c5] at H
     have c5b0 : decide (0 ≤ x5_1) = true := decide_eq_true c5
     clear c5
     replace H := Option.bind_eq_some_iff.mp H
     obtain ⟨t103, A60, H⟩ := H
     replace H : (if t103 = true then (some x5_1) else (wickerref02_Find.l0 k1 l0 (wrap64 (x5_1 + 1)) a1_0 l1_1)) = some r := H
     have A6 := Aside0.mk A60
     clear A60
     by_cases c7 : t103 = true
     ·subst c7
      have H1 : (some x5_1) = some r := by rw [if_pos rfl] at H; exact H
      clear H
      have H := H1
      clear H1
      obtain rfl := Option.some.inj H
      try go_wp2
      have n0_ := Aside0.mk (blk_drew BK101.out)
      have n1_ := Aside0.mk (below_drew1 HB.out)
      clear BK101
      clear HB
      have BK101 := n0_
      have HB := n1_
      clear n0_ n1_
      have p102 : 0 ≤ (x5_1 : Int) := of_decide_eq_true (by first | (with_reducible assumption) | assumption)
      have q102 : x5_1 < (l0.length : Int) := of_decide_eq_true (by first | (with_reducible assumption) | assumption)
      obtain ⟨ad102, A102_1, c102_1, e102, hx102_0, hx102_1, hl102_1, hi102_1⟩ := at_T87 HR0.out x5_1 p102 q102
      have hw102_1 := hx102_1
      have hw102_0 := hx102_0
      cases e102
      replace hx102_0 := (HB.out.cell (World.block_lt_of_cell? w _ hx102_0)).trans hx102_0
      replace hx102_1 := (HB.out.cell (World.block_lt_of_cell? w _ hx102_1)).trans hx102_1
      have HR102_1 := Aside0.mk hi102_1
      have HC102_1 := Aside0.mk hl102_1
      clear hi102_1 hl102_1
      replace p102 := eq_true p102
      replace q102 := eq_true q102
      refine start_ (n := 6) (S := fun w' => w'.cell? ⟨gb101, 0, none⟩ = some (.int .i64 a1_0) ∧ w'.cell? ⟨gb101, 1, none⟩ = some (.slice A1_1 l1_1.length c1_1) ∧ w'.cell? (ad102.add ((x5_1).toNat * 2)) = some (.int .i64 ((rd_T87 l0 x5_1).f0)) ∧ w'.cell? ⟨(ad102.add ((x5_1).toNat * 2)).block, (ad102.add ((x5_1).toNat * 2)).off + 1, none⟩ = some (.slice A102_1 ((rd_T87 l0 x5_1).f1).length c102_1)) (ds := []) #[false, false, false, false, false, false] (by kernel_rfl) rfl rfl ⟨(blk_cell BK101.out 0).trans rfl, (blk_cell BK101.out 1).trans rfl, ((HB.out.cell (World.block_lt_of_cell? w _ hw102_0)).trans hw102_0), ((HB.out.cell (World.block_lt_of_cell? w _ hw102_1)).trans hw102_1)⟩ (fun hHeld => ?_)
      generalize wr.drew = w8 at BK101 HB HR102_1 hx102_0 hx102_1 hHeld ⊢
      refine pure_ (i := 0) (N := some 12) (v := ?_) (a' := ?_) #[true, false, false, false, false, false] rfl rfl (by kernel_rfl) (fun _ _ _ h => h) (Or.inl ⟨by rfl, ?_⟩) ?_ ?_
      rotate_left
      ·intro w'
       go_simp
       with_reducible rfl
      rotate_left
      ·simp only [Act.put, List.setIfInBounds_toArray, List.set_cons_zero, List.set_cons_succ, i64_w, i32_w]
       rfl
      refine pure_ (i := 1) (N := some 13) (v := ?_) (a' := ?_) #[true, true, false, false, false, false] rfl rfl (by kernel_rfl) (fun _ _ _ h => h) (Or.inl ⟨by rfl, ?_⟩) ?_ ?_
      rotate_left
      ·intro w'
       go_simp
       with_reducible rfl
      rotate_left
      ·simp only [Act.put, List.setIfInBounds_toArray, List.set_cons_zero, List.set_cons_succ, i64_w, i32_w]
       rfl
      refine pure_ (i := 2) (N := some 14) (v := ?_) (a' := ?_) #[true, true, true, false, false, false] rfl rfl (by kernel_rfl) (fun _ _ _ h => h) (Or.inl ⟨by rfl, ?_⟩) ?_ ?_
      rotate_left
      ·intro w'
       go_simp
       with_reducible rfl
      rotate_left
      ·simp only [Act.put, List.setIfInBounds_toArray, List.set_cons_zero, List.set_cons_succ, i64_w, i32_w]
       rfl
      refine take_ (i := 3) (N := some 15) (v := ?_) (a' := ?_) #[true, true, true, true, false, false] rfl rfl (by kernel_rfl) (fun _ _ _ h => h) (Or.inl ⟨by rfl, ?_⟩) hHeld ?_ ?_
      rotate_left
      ·rintro w' ⟨s0, s1, s2, s3⟩
       go_simp
       with_reducible rfl
      rotate_left
      ·simp only [Act.put, List.setIfInBounds_toArray, List.set_cons_zero, List.set_cons_succ, i64_w, i32_w]
       rfl
      refine take_ (i := 4) (N := some 16) (v := ?_) (a' := ?_) #[true, true, true, true, true, false] rfl rfl (by kernel_rfl) (fun _ _ _ h => h) (Or.inl ⟨by rfl, ?_⟩) hHeld ?_ ?_
      rotate_left
      ·rintro w' ⟨s0, s1, s2, s3⟩
       go_simp
       with_reducible rfl
      rotate_left
      ·simp only [Act.put, List.setIfInBounds_toArray, List.set_cons_zero, List.set_cons_succ, i64_w, i32_w]
       rfl
      refine one_ (i := 5) (N := some 17) #[true, true, true, true, true, true] rfl rfl (by kernel_rfl) (by decide) (fun K hK => ?_)
      refine goes_ Tryd.func46 (by kernel_rfl) rfl #[.agg #[.int .i64 ((rd_T87 l0 x5_1).f0), .slice A102_1 ((rd_T87 l0 x5_1).f1).length c102_1], .agg #[.int .i64 a1_0, .slice A1_1 l1_1.length c1_1]] (by rfl) rfl rfl (by (try simp only [List.map_toArray, List.map_cons, List.map_nil]); first | done | rfl | (simp only [List.length_drop, List.length_take]; rfl)) ?_
      with_reducible refine (wickerref02_Same.calls k1 ((rd_T87 l0 x5_1).f0) _ _ ((rd_T87 l0 x5_1).f1) a1_0 _ _ l1_1 true _ ?side1 ?side2 ?side3 ?side4 A6.out).mono ?_
      (case side1 => repeat (first | exact (Kd.C_below HR102_1.out HB.out) | (with_reducible refine Kd.C_alloc ?_ _) | (with_reducible refine Kd.C_drewN ?_ _) | (with_reducible refine Kd.C_drew ?_)))
      (case side2 => exact HC102_1.out)
      (case side3 => repeat (first | exact (Kd.C_below HR1_1.out HB.out) | (with_reducible refine Kd.C_alloc ?_ _) | (with_reducible refine Kd.C_drewN ?_ _) | (with_reducible refine Kd.C_drew ?_)))
      (case side4 => exact HC1_1.out)
      rintro e w9 ⟨rfl, hb⟩
      refine ⟨_, rfl, ?_⟩
      have n0_ := Aside0.mk (blk_below (g := gb101) (o := .cells #[.int .i64 a1_0, .slice A1_1 l1_1.length c1_1] 87 (0, 0)) (by (with_reducible repeat (first | refine blk_drewN ?_ _ | refine blk_drew ?_ | refine blk_alloc ?_ _)); exact BK101.out) hb)
      have n1_ := Aside0.mk (below_step (by repeat (first | (with_reducible first | exact HB.out | apply below_alloc | apply pw_below_drewN | apply below_drew1 | refine below_set ?_ GE101.out) | exact HB.out)) hb)
      clear BK101
      clear HB
      have BK101 := n0_
      have HB := n1_
      clear n0_ n1_
      (try clear hb)
      (try clear hb2)
      (try clear hk)
      (try clear hi)
      refine hK.out _ _ ⟨(blk_cell BK101.out 0).trans rfl, (blk_cell BK101.out 1).trans rfl, ((HB.out.cell (World.block_lt_of_cell? w _ hw102_0)).trans hw102_0), ((HB.out.cell (World.block_lt_of_cell? w _ hw102_1)).trans hw102_1)⟩ (fun hHeld => ?_)
      clear hK K
      refine norm_ (a' := ?_) ?_ ?_
      rotate_left
      ·show Act.put _ (some 17) _ = _
       simp only [Act.put, List.setIfInBounds_toArray, List.set_cons_zero, List.set_cons_succ, i64_w, i32_w]
       rfl
      refine done_ (by kernel_rfl) ?_
      try go_wp2
      go_ret
      exact ⟨by first | rfl | (simp [errW_none, errW_some] <;> rfl) | (simp [*, errW_none, errW_some] <;> rfl), by repeat (first | (with_reducible first | exact HB.out | apply below_alloc | apply pw_below_drewN | apply below_drew1 | refine below_set ?_ GE101.out) | exact HB.out)⟩
     ·replace c7 := Bool.eq_false_iff.mpr c7
      subst c7
      have H1 : (wickerref02_Find.l0 k1 l0 (wrap64 (x5_1 + 1)) a1_0 l1_1) = some r := by rw [if_neg (show ¬ (false = true) by decide)] at H; exact H
      clear H
      have H := H1
      clear H1
      have H' := Aside0.mk H
      clear H
      try go_wp2
      have n0_ := Aside0.mk (blk_drew BK101.out)
      have n1_ := Aside0.mk (below_drew1 HB.out)
      clear BK101
      clear HB
      have BK101 := n0_
      have HB := n1_
      clear n0_ n1_
      have p102 : 0 ≤ (x5_1 : Int) := of_decide_eq_true (by first | (with_reducible assumption) | assumption)
      have q102 : x5_1 < (l0.length : Int) := of_decide_eq_true (by first | (with_reducible assumption) | assumption)
      obtain ⟨ad102, A102_1, c102_1, e102, hx102_0, hx102_1, hl102_1, hi102_1⟩ := at_T87 HR0.out x5_1 p102 q102
      have hw102_1 := hx102_1
      have hw102_0 := hx102_0
      cases e102
      replace hx102_0 := (HB.out.cell (World.block_lt_of_cell? w _ hx102_0)).trans hx102_0
      replace hx102_1 := (HB.out.cell (World.block_lt_of_cell? w _ hx102_1)).trans hx102_1
      have HR102_1 := Aside0.mk hi102_1
      have HC102_1 := Aside0.mk hl102_1
      clear hi102_1 hl102_1
      replace p102 := eq_true p102
      replace q102 := eq_true q102
      refine start_ (n := 6) (S := fun w' => w'.cell? ⟨gb101, 0, none⟩ = some (.int .i64 a1_0) ∧ w'.cell? ⟨gb101, 1, none⟩ = some (.slice A1_1 l1_1.length c1_1) ∧ w'.cell? (ad102.add ((x5_1).toNat * 2)) = some (.int .i64 ((rd_T87 l0 x5_1).f0)) ∧ w'.cell? ⟨(ad102.add ((x5_1).toNat * 2)).block, (ad102.add ((x5_1).toNat * 2)).off + 1, none⟩ = some (.slice A102_1 ((rd_T87 l0 x5_1).f1).length c102_1)) (ds := []) #[false, false, false, false, false, false] (by kernel_rfl) rfl rfl ⟨(blk_cell BK101.out 0).trans rfl, (blk_cell BK101.out 1).trans rfl, ((HB.out.cell (World.block_lt_of_cell? w _ hw102_0)).trans hw102_0), ((HB.out.cell (World.block_lt_of_cell? w _ hw102_1)).trans hw102_1)⟩ (fun hHeld => ?_)
      generalize wr.drew = w10 at BK101 HB HR102_1 hx102_0 hx102_1 hHeld ⊢
      refine pure_ (i := 0) (N := some 12) (v := ?_) (a' := ?_) #[true, false, false, false, false, false] rfl rfl (by kernel_rfl) (fun _ _ _ h => h) (Or.inl ⟨by rfl, ?_⟩) ?_ ?_
      rotate_left
      ·intro w'
       go_simp
       with_reducible rfl
      rotate_left
      ·simp only [Act.put, List.setIfInBounds_toArray, List.set_cons_zero, List.set_cons_succ, i64_w, i32_w]
       rfl
      refine pure_ (i := 1) (N := some 13) (v := ?_) (a' := ?_) #[true, true, false, false, false, false] rfl rfl (by kernel_rfl) (fun _ _ _ h => h) (Or.inl ⟨by rfl, ?_⟩) ?_ ?_
      rotate_left
      ·intro w'
       go_simp
       with_reducible rfl
      rotate_left
      ·simp only [Act.put, List.setIfInBounds_toArray, List.set_cons_zero, List.set_cons_succ, i64_w, i32_w]
       rfl
      refine pure_ (i := 2) (N := some 14) (v := ?_) (a' := ?_) #[true, true, true, false, false, false] rfl rfl (by kernel_rfl) (fun _ _ _ h => h) (Or.inl ⟨by rfl, ?_⟩) ?_ ?_
      rotate_left
      ·intro w'
       go_simp
       with_reducible rfl
      rotate_left
      ·simp only [Act.put, List.setIfInBounds_toArray, List.set_cons_zero, List.set_cons_succ, i64_w, i32_w]
       rfl
      refine take_ (i := 3) (N := some 15) (v := ?_) (a' := ?_) #[true, true, true, true, false, false] rfl rfl (by kernel_rfl) (fun _ _ _ h => h) (Or.inl ⟨by rfl, ?_⟩) hHeld ?_ ?_
      rotate_left
      ·rintro w' ⟨s0, s1, s2, s3⟩
       go_simp
       with_reducible rfl
      rotate_left
      ·simp only [Act.put, List.setIfInBounds_toArray, List.set_cons_zero, List.set_cons_succ, i64_w, i32_w]
       rfl
      refine take_ (i := 4) (N := some 16) (v := ?_) (a' := ?_) #[true, true, true, true, true, false] rfl rfl (by kernel_rfl) (fun _ _ _ h => h) (Or.inl ⟨by rfl, ?_⟩) hHeld ?_ ?_
      rotate_left
      ·rintro w' ⟨s0, s1, s2, s3⟩
       go_simp
       with_reducible rfl
      rotate_left
      ·simp only [Act.put, List.setIfInBounds_toArray, List.set_cons_zero, List.set_cons_succ, i64_w, i32_w]
       rfl
      refine one_ (i := 5) (N := some 17) #[true, true, true, true, true, true] rfl rfl (by kernel_rfl) (by decide) (fun K hK => ?_)
      refine goes_ Tryd.func46 (by kernel_rfl) rfl #[.agg #[.int .i64 ((rd_T87 l0 x5_1).f0), .slice A102_1 ((rd_T87 l0 x5_1).f1).length c102_1], .agg #[.int .i64 a1_0, .slice A1_1 l1_1.length c1_1]] (by rfl) rfl rfl (by (try simp only [List.map_toArray, List.map_cons, List.map_nil]); first | done | rfl | (simp only [List.length_drop, List.length_take]; rfl)) ?_
      with_reducible refine (wickerref02_Same.calls k1 ((rd_T87 l0 x5_1).f0) _ _ ((rd_T87 l0 x5_1).f1) a1_0 _ _ l1_1 false _ ?side1 ?side2 ?side3 ?side4 A6.out).mono ?_
      (case side1 => repeat (first | exact (Kd.C_below HR102_1.out HB.out) | (with_reducible refine Kd.C_alloc ?_ _) | (with_reducible refine Kd.C_drewN ?_ _) | (with_reducible refine Kd.C_drew ?_)))
      (case side2 => exact HC102_1.out)
      (case side3 => repeat (first | exact (Kd.C_below HR1_1.out HB.out) | (with_reducible refine Kd.C_alloc ?_ _) | (with_reducible refine Kd.C_drewN ?_ _) | (with_reducible refine Kd.C_drew ?_)))
      (case side4 => exact HC1_1.out)
      rintro e w11 ⟨rfl, hb⟩
      refine ⟨_, rfl, ?_⟩
      have n0_ := Aside0.mk (blk_below (g := gb101) (o := .cells #[.int .i64 a1_0, .slice A1_1 l1_1.length c1_1] 87 (0, 0)) (by (with_reducible repeat (first | refine blk_drewN ?_ _ | refine blk_drew ?_ | refine blk_alloc ?_ _)); exact BK101.out) hb)
      have n1_ := Aside0.mk (below_step (by repeat (first | (with_reducible first | exact HB.out | apply below_alloc | apply pw_below_drewN | apply below_drew1 | refine below_set ?_ GE101.out) | exact HB.out)) hb)
      clear BK101
      clear HB
      have BK101 := n0_
      have HB := n1_
      clear n0_ n1_
      (try clear hb)
      (try clear hb2)
      (try clear hk)
      (try clear hi)
      refine hK.out _ _ ⟨(blk_cell BK101.out 0).trans rfl, (blk_cell BK101.out 1).trans rfl, ((HB.out.cell (World.block_lt_of_cell? w _ hw102_0)).trans hw102_0), ((HB.out.cell (World.block_lt_of_cell? w _ hw102_1)).trans hw102_1)⟩ (fun hHeld => ?_)
      clear hK K
      refine norm_ (a' := ?_) ?_ ?_
      rotate_left
      ·show Act.put _ (some 17) _ = _
       simp only [Act.put, List.setIfInBounds_toArray, List.set_cons_zero, List.set_cons_succ, i64_w, i32_w]
       rfl
      refine done_ (by kernel_rfl) ?_
      try go_wp2
      go_roundg k1
      case measure => have := HK1.out; omega
      case rel => exact ⟨(wrap64 (x5_1 + 1)), (by first | rfl | (simp; done) | (simp [*]; done)), H', ⟨by have := HK1.out; omega⟩, ⟨by (with_reducible repeat (first | refine blk_drewN ?_ _ | refine blk_drew ?_ | refine blk_alloc ?_ _)); exact BK101.out⟩, ⟨by repeat (first | (with_reducible first | exact HB.out | apply below_alloc | apply pw_below_drewN | apply below_drew1 | refine below_set ?_ GE101.out) | exact HB.out)⟩⟩
    ·rw [if_neg c5] at H
     exact absurd H (by simp)
   ·rw [if_neg c4] at H
    have c4b0 : decide (x5_1 < (l0.length : Int)) = false := decide_eq_false c4
    clear c4
    obtain rfl := Option.some.inj H
    go_wp2
    go_ret
    exact ⟨by first | rfl | (simp [errW_none, errW_some] <;> rfl) | (simp [*, errW_none, errW_some] <;> rfl), by repeat (first | (with_reducible first | exact HB.out | apply below_alloc | apply pw_below_drewN | apply below_drew1 | refine below_set ?_ GE101.out) | exact HB.out)⟩
mutual
def wickerref02_twice.l0 : Nat → List ByteArray → Int → Option (Bool)
 | 0, _, _ => none
 | k + 1, x0, x3 => if x3 < (x0.length : Int) then (wickerref02_twice.l1 k x0 x3 0) else (some false)
def wickerref02_twice.l1 : Nat → List ByteArray → Int → Int → Option (Bool)
 | 0, _, _, _ => none
 | k + 1, x0, x3, x4 => if x4 < x3 then (if 0 ≤ x3 then (if x3 < (x0.length : Int) then (if 0 ≤ x4 then (if x4 < (x0.length : Int) then (if (rdOf ByteArray.empty x0 x3).toList = (rdOf ByteArray.empty x0 x4).toList then (some true) else (wickerref02_twice.l1 k x0 x3 (wrap64 (x4 + 1)))) else (none)) else (none)) else (none)) else (none)) else (wickerref02_twice.l0 k x0 (wrap64 (x3 + 1)))
end
def wickerref02_twice.f (k : Nat) (l0 : List ByteArray) : Option (Bool) := wickerref02_twice.l0 k l0 0
set_option maxHeartbeats 8000000 in
set_option maxRecDepth 100000 in
theorem wickerref02_twice.calls (k : Nat) (A0 : Option Addr) (c0 : Nat) (l0 : List ByteArray) (r : Bool) (w : World) (hr0 : Kd.C Kd.string w A0 l0.length l0) (hc0 : l0.length ≤ c0) (h : wickerref02_twice.f k l0 = some r) :
  Calls Tryd.prog 135 #[.slice A0 l0.length c0] w fun e w' => e = .returned (.bool r) ∧ Drawn0 w w' := by
 have HR0 := Aside0.mk hr0
 have HC0 := Aside0.mk hc0
 clear hr0 hc0
 have H : (wickerref02_twice.l0 k l0 0) = some r := h
 clear h
 have H' := Aside0.mk H
 clear H
 go_enter Tryd.func135, Tryd.ntmps135
 go_wp2
 repeat (go_quiet (fail); try go_wp2)
 go_loopg [3] k (fun kq v3 w' => ∃ (x3_1 : Int), v3 = .int .i64 x3_1 ∧ Aside0 (wickerref02_twice.l0 kq l0 x3_1 = some r) ∧ Aside0 (kq ≤ k) ∧ Drawn0 w w')
 case atStart => exact ⟨(0), (by first | rfl | (simp; done) | (simp [*]; done)), H', ⟨Nat.le_refl _⟩, by repeat (first | exact Drawn0.refl _ | apply Drawn0.step)⟩
 case round =>
  clear H'
  try clear c1
  obtain ⟨x3_1, rfl, HA, HK1, ⟨m1, rfl⟩⟩ := hrel
  cases gk with
  | zero => exact absurd HA.out (by simp [wickerref02_twice.l0])
  | succ k1 =>
   have H := HA.out
   clear HA
   simp only [wickerref02_twice.l0] at H
   by_cases c2 : x3_1 < (l0.length : Int)
   ·rw [if_pos c2] at H
    have c2b0 : decide (x3_1 < (l0.length : Int)) = true := decide_eq_true c2
    clear c2
    have H' := Aside0.mk H
    clear H
    go_wp2
    repeat (go_quiet (fail); try go_wp2)
    go_loopg [4] k1 (fun kq v4 w' => ∃ (x4_2 : Int), v4 = .int .i64 x4_2 ∧ Aside0 (wickerref02_twice.l1 kq l0 x3_1 x4_2 = some r) ∧ Aside0 (kq ≤ k1) ∧ Drawn0 w w')
    case atStart => exact ⟨(0), (by first | rfl | (simp; done) | (simp [*]; done)), H', ⟨Nat.le_refl _⟩, by repeat (first | exact Drawn0.refl _ | apply Drawn0.step)⟩
    case round =>
     clear H'
     try clear c1
     try clear c2
     try clear c2b0
     try clear p2
     obtain ⟨x4_2, rfl, HA, HK2, ⟨m2, rfl⟩⟩ := hrel
     cases gk with
     | zero => exact absurd HA.out (by simp [wickerref02_twice.l1])
     | succ k2 =>
      have H := HA.out
      clear HA
      simp only [wickerref02_twice.l1] at H
      by_cases c3 : x4_2 < x3_1
      ·rw [if_pos c3] at H
       have c3b0 : decide (x4_2 < x3_1) = true := decide_eq_true c3
       clear c3
       by_cases c4 : 0 ≤ x3_1
       ·rw [if_pos c4] at H
        have c4b0 : decide (0 ≤ x3_1) = true := decide_eq_true c4
        clear c4
        by_cases c5 : x3_1 < (l0.length : Int)
        ·rw [if_pos c5] at H
         have c5b0 : decide (x3_1 < (l0.length : Int)) = true := decide_eq_true c5
         clear c5
         by_cases c6 : 0 ≤ x4_2
         ·rw [if_pos c6] at H
          have c6b0 : decide (0 ≤ x4_2) = true := decide_eq_true c6
          clear c6
          by_cases c7 : x4_2 < (l0.length : Int)
          ·rw [if_pos c7] at H
           have c7b0 : decide (x4_2 < (l0.length : Int)) = true := decide_eq_true c7
           clear c7
           by_cases c8 : (rdOf ByteArray.empty l0 x3_1).toList = (rdOf ByteArray.empty l0 x4_2).toList
           ·rw [if_pos c8] at H
            have c8b0 : ((rdOf ByteArray.empty l0 x3_1).toList == (rdOf ByteArray.empty l0 x4_2).toList) = true := beq_iff_eq.mpr c8
            have c8b1 : ((rdOf ByteArray.empty l0 x3_1).toList != (rdOf ByteArray.empty l0 x4_2).toList) = false := bne_eq_false_iff_eq.mpr c8
            clear c8
            obtain rfl := Option.some.inj H
            have p101 : 0 ≤ (x3_1 : Int) := of_decide_eq_true (by first | (with_reducible assumption) | assumption)
            have q101 : x3_1 < (l0.length : Int) := of_decide_eq_true (by first | (with_reducible assumption) | assumption)
            obtain ⟨ad101, e101, hx101_0⟩ := Kd.at_string HR0.out x3_1 p101 q101
            cases e101
            replace p101 := eq_true p101
            replace q101 := eq_true q101
            have p102 : 0 ≤ (x4_2 : Int) := of_decide_eq_true (by first | (with_reducible assumption) | assumption)
            have q102 : x4_2 < (l0.length : Int) := of_decide_eq_true (by first | (with_reducible assumption) | assumption)
            obtain ⟨ad102, e102, hx102_0⟩ := Kd.at_string HR0.out x4_2 p102 q102
            obtain rfl : ad101 = ad102 := (by injection e102)
            replace p102 := eq_true p102
            replace q102 := eq_true q102
            go_wp2
            repeat (go_quiet (fail); try go_wp2)
            go_ret
            exact ⟨by first | rfl | (simp; done) | (simp [*]; done) | (exfalso; simp only [beq_iff_eq] at *; omega), by repeat (first | exact Drawn0.refl _ | apply Drawn0.step)⟩
           ·rw [if_neg c8] at H
            have c8b0 : ((rdOf ByteArray.empty l0 x3_1).toList == (rdOf ByteArray.empty l0 x4_2).toList) = false := beq_eq_false_iff_ne.mpr c8
            have c8b1 : ((rdOf ByteArray.empty l0 x3_1).toList != (rdOf ByteArray.empty l0 x4_2).toList) = true := bne_iff_ne.mpr c8
            have H' := Aside0.mk H
            clear H
            have p101 : 0 ≤ (x3_1 : Int) := of_decide_eq_true (by first | (with_reducible assumption) | assumption)
            have q101 : x3_1 < (l0.length : Int) := of_decide_eq_true (by first | (with_reducible assumption) | assumption)
            obtain ⟨ad101, e101, hx101_0⟩ := Kd.at_string HR0.out x3_1 p101 q101
            cases e101
            replace p101 := eq_true p101
            replace q101 := eq_true q101
            have p102 : 0 ≤ (x4_2 : Int) := of_decide_eq_true (by first | (with_reducible assumption) | assumption)
            have q102 : x4_2 < (l0.length : Int) := of_decide_eq_true (by first | (with_reducible assumption) | assumption)
            obtain ⟨ad102, e102, hx102_0⟩ := Kd.at_string HR0.out x4_2 p102 q102
            obtain rfl : ad101 = ad102 := (by injection e102)
            replace p102 := eq_true p102
            replace q102 := eq_true q102
            go_wp2
            repeat (go_quiet (fail); try go_wp2)
            go_roundg k2
            case measure => have := HK1.out; have := HK2.out; omega
            case rel => exact ⟨(wrap64 (x4_2 + 1)), (by first | rfl | (simp; done) | (simp [*]; done)), H', ⟨by have := HK1.out; have := HK2.out; omega⟩, by repeat (first | exact Drawn0.refl _ | apply Drawn0.step)⟩
          ·rw [if_neg c7] at H
           exact absurd H (by simp)
         ·rw [if_neg c6] at H
          exact absurd H (by simp)
        ·rw [if_neg c5] at H
         exact absurd H (by simp)
       ·rw [if_neg c4] at H
        exact absurd H (by simp)
      ·rw [if_neg c3] at H
       have c3b0 : decide (x4_2 < x3_1) = false := decide_eq_false c3
       clear c3
       have H' := Aside0.mk H
       clear H
       go_wp2
       repeat (go_quiet (fail); try go_wp2)
       go_roundg k2
       case measure => have := HK1.out; have := HK2.out; omega
       case rel => exact ⟨(wrap64 (x3_1 + 1)), (by first | rfl | (simp; done) | (simp [*]; done)), H', ⟨by have := HK1.out; have := HK2.out; omega⟩, by repeat (first | exact Drawn0.refl _ | apply Drawn0.step)⟩
   ·rw [if_neg c2] at H
    have c2b0 : decide (x3_1 < (l0.length : Int)) = false := decide_eq_false c2
    clear c2
    obtain rfl := Option.some.inj H
    go_wp2
    repeat (go_quiet (fail); try go_wp2)
    go_ret
    exact ⟨by first | rfl | (simp; done) | (simp [*]; done) | (exfalso; simp only [beq_iff_eq] at *; omega), by repeat (first | exact Drawn0.refl _ | apply Drawn0.step)⟩
end Go.Proofs.YtmdjmbdeeodehaaDoor.G
end
