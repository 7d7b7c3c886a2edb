/- the template of any rule as itself is the document's; the table of a grammar as itself is sound, if the grammar may be; its sorts are the nonterminals themselves: part 4 of 6 of its proof, packed by a program of this session out of the texts AmLim, AmKI, AmK0, AmK1, AmK2, AmK3. -/
import Derived.Test.YtlacnkjkcikodaaDoorZTP2
import Derived.Test.YtlacnkjkcikodaaDoorProg
import Derived.KernelRfl
section
set_option linter.unusedVariables false
set_option linter.unusedSimpArgs false
set_option linter.constructorNameAsVariable false
namespace Go.Proofs.YtlacnkjkcikodaaDoor.Am
open Go
section
variable (M : Mach)
open Classical in
noncomputable def lim : ACall := fun lk f a H => if h : ∃ r, ∃ k, acall M k lk f a H = some r then some h.choose else none
open Classical in
noncomputable def runs (lk : Nat) (c : ACode) (st : St) : Option (AEx × St) := if h : ∃ r, ∃ n, run (lim M) lk n c st = some r then some h.choose else none
end
section
variable {M : Mach}
theorem lim_iff {lk : Nat} {f : FuncId} {a : List V} {H : List Tab} {r : V × List Tab} : lim M lk f a H = some r ↔ ∃ k, acall M k lk f a H = some r := by
  constructor
  · intro h
    unfold lim at h
    split at h
    · rename_i hx
      rw [← Option.some.inj h]; exact hx.choose_spec
    · cases h
  · rintro ⟨k, h⟩
    have hx : ∃ r, ∃ k, acall M k lk f a H = some r := ⟨r, k, h⟩
    unfold lim
    rw [dif_pos hx]
    obtain ⟨k', h'⟩ := hx.choose_spec
    have e1 := acall_mono M (Nat.le_max_left k k') _ _ _ _ _ h
    have e2 := acall_mono M (Nat.le_max_right k k') _ _ _ _ _ h'
    rw [e1] at e2; exact e2.symm
theorem runs_iff {lk : Nat} {c : ACode} {st : St} {r : AEx × St} : runs M lk c st = some r ↔ ∃ n, run (lim M) lk n c st = some r := by
  constructor
  · intro h
    unfold runs at h
    split at h
    · rename_i hx
      rw [← Option.some.inj h]; exact hx.choose_spec
    · cases h
  · rintro ⟨k, h⟩
    have hx : ∃ r, ∃ n, run (lim M) lk n c st = some r := ⟨r, k, h⟩
    unfold runs
    rw [dif_pos hx]
    obtain ⟨k', h'⟩ := hx.choose_spec
    have e1 := run_mono (CLe.refl _) (Nat.le_max_left k k') h
    have e2 := run_mono (CLe.refl _) (Nat.le_max_right k k') h'
    rw [e1] at e2; exact e2.symm
theorem acall_lim (k : Nat) : CLe (acall M k) (lim M) := fun _ _ _ _ _ h => lim_iff.2 ⟨k, h⟩
section
variable {lk : Nat}
theorem sop_fin {st : St} {d : Option Nat} {op : AOp} {st' : St} (h : sop (lim M) lk st d op = some st') : ∃ k, sop (acall M k) lk st d op = some st' := by
  cases op with
  | call lock f args =>
    simp only [sop] at h
    split at h
    case h_2 => cases h
    rename_i m caps hF
    split at h
    case h_2 => cases h
    rename_i r H' hcall
    obtain ⟨k, hk⟩ := lim_iff.1 hcall
    refine ⟨k, ?_⟩
    simp only [sop, hF, hk]; exact h
  | _ => exact ⟨0, h⟩
theorem pop_fin {st : St} {T : Tm} {d : Option Nat} {op : AOp} {r : V × Option Ob} (h : pop (lim M) st T d op = some r) : ∃ k, pop (acall M k) st T d op = some r := by
  cases op with
  | call lock f args =>
    simp only [pop] at h
    split at h
    case h_2 => cases h
    rename_i m caps hF
    split at h
    case h_2 => cases h
    rename_i r' H' hcall
    obtain ⟨k, hk⟩ := lim_iff.1 hcall
    refine ⟨k, ?_⟩
    simp only [pop, hF, hk]; exact h
  | _ => exact ⟨0, h⟩
theorem seqOps_fin : ∀ {l : List AOper} {st st' : St}, seqOps (lim M) lk l st = some st' → ∃ k, seqOps (acall M k) lk l st = some st'
  | [], st, st', h => ⟨0, h⟩
  | o :: l, st, st', h => by
    simp only [seqOps] at h
    split at h
    · rename_i hw
      split at h
      · rename_i s1 h1
        obtain ⟨k1, h1⟩ := sop_fin h1
        obtain ⟨k2, h2⟩ := seqOps_fin h
        refine ⟨max k1 k2, ?_⟩
        simp only [seqOps, hw]
        rw [sop_mono (acall_mono M (Nat.le_max_left k1 k2)) h1]
        exact seqOps_mono (acall_mono M (Nat.le_max_right k1 k2)) h2
      · cases h
    · rename_i hw
      obtain ⟨k2, h2⟩ := seqOps_fin h
      exact ⟨k2, by simp only [seqOps, hw]; exact h2⟩
    · cases h
theorem parOps_fin {st : St} : ∀ {l : List AOper} {T : Tm} {N : Tab} {r : Tm × Tab}, parOps (lim M) st l T N = some r → ∃ k, parOps (acall M k) st l T N = some r
  | [], T, N, r, h => ⟨0, h⟩
  | o :: l, T, N, r, h => by
    simp only [parOps] at h
    split at h
    · rename_i hw
      split at h
      · rename_i v ob h1
        obtain ⟨k1, h1⟩ := pop_fin h1
        obtain ⟨k2, h2⟩ := parOps_fin h
        refine ⟨max k1 k2, ?_⟩
        simp only [parOps, hw]
        rw [pop_mono (acall_mono M (Nat.le_max_left k1 k2)) h1]
        exact parOps_mono (acall_mono M (Nat.le_max_right k1 k2)) h2
      · cases h
    · rename_i hw
      obtain ⟨k2, h2⟩ := parOps_fin h
      exact ⟨k2, by simp only [parOps, hw]; exact h2⟩
    · cases h
theorem runReg_fin {m : Nat} {ops : List AOper} {st st' : St} (h : runReg (lim M) lk m ops st = some st') : ∃ k, runReg (acall M k) lk m ops st = some st' := by
  unfold runReg at h ⊢
  simp only at h ⊢
  split at h
  · exact seqOps_fin h
  · split at h
    · rename_i T L h1
      obtain ⟨k1, h1⟩ := parOps_fin h1
      obtain ⟨k2, h2⟩ := seqOps_fin h
      refine ⟨max k1 k2, ?_⟩
      rw [parOps_mono (acall_mono M (Nat.le_max_left k1 k2)) h1]
      exact seqOps_mono (acall_mono M (Nat.le_max_right k1 k2)) h2
    · cases h
theorem run_fin : ∀ (n : Nat) {c : ACode} {st : St} {r : AEx × St}, run (lim M) lk n c st = some r → ∃ k, run (acall M k) lk n c st = some r
  | 0, c, st, r, h => by simp [run] at h
  | n + 1, c, st, r, h => by
    have two : ∀ {k1 k2 : Nat} {c1 : ACode} {s1 : St} {r1 : AEx × St}, run (acall M k1) lk n c1 s1 = some r1 → run (acall M (max k1 k2)) lk n c1 s1 = some r1 := fun h => run_mono (acall_mono M (Nat.le_max_left _ _)) (Nat.le_refl _) h
    have two' : ∀ {k1 k2 : Nat} {c1 : ACode} {s1 : St} {r1 : AEx × St}, run (acall M k2) lk n c1 s1 = some r1 → run (acall M (max k1 k2)) lk n c1 s1 = some r1 := fun h => run_mono (acall_mono M (Nat.le_max_right _ _)) (Nat.le_refl _) h
    cases c with
    | skip => exact ⟨0, h⟩
    | reg m ops =>
      simp only [run] at h
      obtain ⟨s, h1, rfl⟩ := Option.map_eq_some_iff.1 h
      obtain ⟨k, h1⟩ := runReg_fin h1
      exact ⟨k, by simp only [run, h1, Option.map_some]⟩
    | seq a b =>
      simp only [run] at h
      split at h
      · rename_i s h1
        obtain ⟨k1, h1⟩ := run_fin n h1
        obtain ⟨k2, h2⟩ := run_fin n h
        refine ⟨max k1 k2, ?_⟩
        simp only [run]; rw [two h1]; exact two' h2
      · rename_i hne
        have h : run (lim M) lk n a st = some r := h
        obtain ⟨k1, h1⟩ := run_fin n h
        refine ⟨k1, ?_⟩
        simp only [run]; rw [h1]
        obtain ⟨ex, s⟩ := r
        cases ex with
        | nrm => exact absurd h (hne _)
        | exit id => rfl
        | ret => rfl
    | cond c a b =>
      simp only [run] at h
      split at h
      · rename_i t ht
        cases t with
        | true => obtain ⟨k, hk⟩ := run_fin n h; exact ⟨k, by simp only [run, ht]; exact hk⟩
        | false => obtain ⟨k, hk⟩ := run_fin n h; exact ⟨k, by simp only [run, ht]; exact hk⟩
      · cases h
    | block id c =>
      simp only [run] at h
      split at h
      · rename_i i s h1
        obtain ⟨k, hk⟩ := run_fin n h1
        exact ⟨k, by simp only [run, hk]; exact h⟩
      · rename_i hne
        have h : run (lim M) lk n c st = some r := h
        obtain ⟨k, hk⟩ := run_fin n h
        refine ⟨k, ?_⟩
        simp only [run]; rw [hk]
        obtain ⟨ex, s⟩ := r
        cases ex with
        | nrm => rfl
        | exit id => exact absurd h (hne _ _)
        | ret => rfl
    | loop c =>
      simp only [run] at h
      split at h
      · rename_i s h1
        obtain ⟨k1, h1⟩ := run_fin n h1
        obtain ⟨k2, h2⟩ := run_fin n h
        refine ⟨max k1 k2, ?_⟩
        simp only [run]; rw [two h1]; exact two' h2
      · rename_i hne
        have h : run (lim M) lk n c st = some r := h
        obtain ⟨k1, h1⟩ := run_fin n h
        refine ⟨k1, ?_⟩
        simp only [run]; rw [h1]
        obtain ⟨ex, s⟩ := r
        cases ex with
        | nrm => exact absurd h (hne _)
        | exit id => rfl
        | ret => rfl
    | exit id => exact ⟨0, h⟩
    | ret => exact ⟨0, h⟩
    | scope c => obtain ⟨k, hk⟩ := run_fin n (show run (lim M) lk n c st = some r from h); exact ⟨k, hk⟩
    | keep ts ls c => obtain ⟨k, hk⟩ := run_fin n (show run (lim M) lk n c (st.keep ts ls) = some r from h); exact ⟨k, hk⟩
end
theorem opt_ext {α : Type} {x y : Option α} (h : ∀ r, x = some r → y = some r) (h' : ∀ r, y = some r → x = some r) : x = y := by
  cases x with
  | some a => exact (h a rfl).symm
  | none => cases y with
    | none => rfl
    | some b => cases h' b rfl
variable {lk : Nat} {st : St}
theorem runs_skip : runs M lk .skip st = some (.nrm, st) := runs_iff.2 ⟨1, rfl⟩
theorem runs_exit {id : Nat} : runs M lk (.exit id) st = some (.exit id, st) := runs_iff.2 ⟨1, rfl⟩
theorem runs_ret : runs M lk .ret st = some (.ret, st) := runs_iff.2 ⟨1, rfl⟩
theorem runs_reg {m : Nat} {ops : List AOper} : runs M lk (.reg m ops) st = (runReg (lim M) lk m ops st).map (.nrm, ·) := by
  refine opt_ext (fun r h => ?_) (fun r h => runs_iff.2 ⟨1, h⟩)
  obtain ⟨n, h⟩ := runs_iff.1 h
  cases n with
  | zero => simp [run] at h
  | succ n => exact h
theorem runs_scope {c : ACode} : runs M lk (.scope c) st = runs M lk c st := by
  refine opt_ext (fun r h => ?_) (fun r h => ?_)
  · obtain ⟨n, h⟩ := runs_iff.1 h
    cases n with
    | zero => simp [run] at h
    | succ n => exact runs_iff.2 ⟨n, h⟩
  · obtain ⟨n, h⟩ := runs_iff.1 h
    exact runs_iff.2 ⟨n + 1, h⟩
theorem runs_keep {ts ls : List Nat} {c : ACode} : runs M lk (.keep ts ls c) st = runs M lk c (st.keep ts ls) := by
  refine opt_ext (fun r h => ?_) (fun r h => ?_)
  · obtain ⟨n, h⟩ := runs_iff.1 h
    cases n with
    | zero => simp [run] at h
    | succ n => exact runs_iff.2 ⟨n, h⟩
  · obtain ⟨n, h⟩ := runs_iff.1 h
    exact runs_iff.2 ⟨n + 1, h⟩
theorem runs_cond {c : X} {a b : ACode} : runs M lk (.cond c a b) st = match c.ev st.T with
    | .bool t => bif t then runs M lk a st else runs M lk b st
    | _ => none := by
  refine opt_ext (fun r h => ?_) (fun r h => ?_)
  · obtain ⟨n, h⟩ := runs_iff.1 h
    cases n with
    | zero => simp [run] at h
    | succ n =>
      simp only [run] at h
      split at h
      · rename_i t ht
        (try rw [ht])
        cases t <;> exact runs_iff.2 ⟨n, h⟩
      · cases h
  · split at h
    · rename_i t ht
      cases t <;> (obtain ⟨n, h⟩ := runs_iff.1 h; refine runs_iff.2 ⟨n + 1, ?_⟩; simp only [run, ht]; exact h)
    · cases h
noncomputable def condR (M : Mach) (lk : Nat) (v : V) (a b : ACode) (st : St) : Option (AEx × St) := match v with
  | .bool t => bif t then runs M lk a st else runs M lk b st
  | _ => none
theorem runs_condR {c : X} {a b : ACode} : runs M lk (.cond c a b) st = condR M lk (c.ev st.T) a b st := runs_cond
theorem condR_true {a b : ACode} : condR M lk (.bool true) a b st = runs M lk a st := rfl
theorem condR_false {a b : ACode} : condR M lk (.bool false) a b st = runs M lk b st := rfl
noncomputable def regN (x : Option St) : Option (AEx × St) := x.map (.nrm, ·)
theorem regN_some {st : St} : regN (some st) = some (.nrm, st) := rfl
theorem runs_regN {m : Nat} {ops : List AOper} : runs M lk (.reg m ops) st = regN (runReg (lim M) lk m ops st) := runs_reg
noncomputable def andThen (f : St → Option (AEx × St)) : Option (AEx × St) → Option (AEx × St)
  | some (.nrm, st) => f st
  | r => r
theorem andThen_nrm {f : St → Option (AEx × St)} {s : St} : andThen f (some (.nrm, s)) = f s := rfl
theorem andThen_exit {f : St → Option (AEx × St)} {i : Nat} {s : St} : andThen f (some (.exit i, s)) = some (.exit i, s) := rfl
theorem andThen_ret {f : St → Option (AEx × St)} {s : St} : andThen f (some (.ret, s)) = some (.ret, s) := rfl
theorem runs_seq {a b : ACode} : runs M lk (.seq a b) st = andThen (runs M lk b) (runs M lk a st) := by
  refine opt_ext (fun r h => ?_) (fun r h => ?_)
  · obtain ⟨n, h⟩ := runs_iff.1 h
    cases n with
    | zero => simp [run] at h
    | succ n =>
      simp only [run] at h
      split at h
      · rename_i s h1
        rw [runs_iff.2 ⟨n, h1⟩]; exact runs_iff.2 ⟨n, h⟩
      · rename_i hne
        have h : run (lim M) lk n a st = some r := h
        rw [runs_iff.2 ⟨n, h⟩]
        obtain ⟨ex, s⟩ := r
        cases ex with
        | nrm => exact absurd h (hne _)
        | exit id => rfl
        | ret => rfl
  · cases ha : runs M lk a st with
    | none => rw [ha] at h; cases h
    | some r1 =>
      rw [ha] at h
      obtain ⟨n1, h1⟩ := runs_iff.1 ha
      obtain ⟨ex, s⟩ := r1
      cases ex with
      | nrm =>
        obtain ⟨n2, h2⟩ := runs_iff.1 (show runs M lk b s = some r from h)
        refine runs_iff.2 ⟨max n1 n2 + 1, ?_⟩
        simp only [run]
        rw [run_mono (CLe.refl _) (Nat.le_max_left n1 n2) h1]
        exact run_mono (CLe.refl _) (Nat.le_max_right n1 n2) h2
      | exit id => cases h; refine runs_iff.2 ⟨n1 + 1, ?_⟩; simp only [run]; rw [h1]
      | ret => cases h; refine runs_iff.2 ⟨n1 + 1, ?_⟩; simp only [run]; rw [h1]
def atBlock (id : Nat) : Option (AEx × St) → Option (AEx × St)
  | some (.exit i, st) => bif Nat.beq i id then some (.nrm, st) else some (.exit i, st)
  | r => r
theorem atBlock_nrm {i : Nat} {s : St} : atBlock i (some (.nrm, s)) = some (.nrm, s) := rfl
theorem atBlock_exit {i j : Nat} {s : St} : atBlock i (some (.exit j, s)) = bif Nat.beq j i then some (.nrm, s) else some (.exit j, s) := rfl
theorem atBlock_ret {i : Nat} {s : St} : atBlock i (some (.ret, s)) = some (.ret, s) := rfl
theorem runs_block {id : Nat} {c : ACode} : runs M lk (.block id c) st = atBlock id (runs M lk c st) := by
  refine opt_ext (fun r h => ?_) (fun r h => ?_)
  · obtain ⟨n, h⟩ := runs_iff.1 h
    cases n with
    | zero => simp [run] at h
    | succ n =>
      simp only [run] at h
      split at h
      · rename_i i s h1
        rw [runs_iff.2 ⟨n, h1⟩]; exact h
      · rename_i hne
        have h : run (lim M) lk n c st = some r := h
        rw [runs_iff.2 ⟨n, h⟩]
        obtain ⟨ex, s⟩ := r
        cases ex with
        | nrm => rfl
        | exit id => exact absurd h (hne _ _)
        | ret => rfl
  · cases ha : runs M lk c st with
    | none => rw [ha] at h; cases h
    | some r1 =>
      rw [ha] at h
      obtain ⟨n1, h1⟩ := runs_iff.1 ha
      refine runs_iff.2 ⟨n1 + 1, ?_⟩
      simp only [run]; rw [h1]
      obtain ⟨ex, s⟩ := r1
      cases ex <;> exact h
theorem loop_eq {c : ACode} : runs M lk (.loop c) st = andThen (runs M lk (.loop c)) (runs M lk c st) := by
  refine opt_ext (fun r h => ?_) (fun r h => ?_)
  · obtain ⟨n, h⟩ := runs_iff.1 h
    cases n with
    | zero => simp [run] at h
    | succ n =>
      simp only [run] at h
      split at h
      · rename_i s h1
        rw [runs_iff.2 ⟨n, h1⟩]; exact runs_iff.2 ⟨n, h⟩
      · rename_i hne
        have h : run (lim M) lk n c st = some r := h
        rw [runs_iff.2 ⟨n, h⟩]
        obtain ⟨ex, s⟩ := r
        cases ex with
        | nrm => exact absurd h (hne _)
        | exit id => rfl
        | ret => rfl
  · cases ha : runs M lk c st with
    | none => rw [ha] at h; cases h
    | some r1 =>
      rw [ha] at h
      obtain ⟨n1, h1⟩ := runs_iff.1 ha
      obtain ⟨ex, s⟩ := r1
      cases ex with
      | nrm =>
        obtain ⟨n2, h2⟩ := runs_iff.1 (show runs M lk (.loop c) s = some r from h)
        refine runs_iff.2 ⟨max n1 n2 + 1, ?_⟩
        simp only [run]
        rw [run_mono (CLe.refl _) (Nat.le_max_left n1 n2) h1]
        exact run_mono (CLe.refl _) (Nat.le_max_right n1 n2) h2
      | exit id => cases h; refine runs_iff.2 ⟨n1 + 1, ?_⟩; simp only [run]; rw [h1]
      | ret => cases h; refine runs_iff.2 ⟨n1 + 1, ?_⟩; simp only [run]; rw [h1]
def norm : ACode → St → St
  | .keep ts ls _, st => st.keep ts ls
  | _, st => st
def inner : ACode → ACode
  | .keep _ _ c => c
  | c => c
noncomputable def lp (M : Mach) (lk : Nat) (c : ACode) (st : St) : Option (AEx × St) := andThen (runs M lk (.loop c)) (runs M lk (inner c) st)
theorem runs_norm (c : ACode) : runs M lk (inner c) (norm c st) = runs M lk c st := by
  cases c with
  | keep ts ls c => exact runs_keep.symm
  | _ => rfl
theorem runs_loop {c : ACode} : runs M lk (.loop c) st = lp M lk c (norm c st) := by
  unfold lp
  rw [loop_eq, runs_norm]
theorem lp_step (c : ACode) (st : St) : lp M lk c st = andThen (fun s => lp M lk c (norm c s)) (runs M lk (inner c) st) := by
  unfold lp
  congr 1
  funext s
  exact runs_loop
noncomputable def lpN (M : Mach) (lk : Nat) (c : ACode) (s : St) : Option (AEx × St) := lp M lk c (norm c s)
theorem lpN_eq {c : ACode} {s : St} : lpN M lk c s = lp M lk c (norm c s) := rfl
theorem enter_eq {k : Nat} {call : ACall} {fn : Fn} {args : List V} {H : List Tab} : enter call lk k fn args H = leaveF fn (run call lk k fn.code ⟨argsT 0 args, [], H⟩) := by
  unfold enter leaveF
  cases run call lk k fn.code ⟨argsT 0 args, [], H⟩ with
  | none => rfl
  | some p =>
    obtain ⟨ex, s⟩ := p
    cases ex with
    | exit i => rfl
    | _ =>
      simp only
      cases resVs fn.keep s fn.res with
      | none => rfl
      | some l => match l with
        | [] => rfl
        | [v] => rfl
        | _ :: _ :: _ => rfl
noncomputable def leave (M : Mach) (lk : Nat) (fn : Fn) (args : List V) (H : List Tab) : Option (V × List Tab) := leaveF fn (runs M lk fn.code ⟨argsT 0 args, [], H⟩)
noncomputable def leaveS (M : Mach) (lk : Nat) (fn : Fn) (args : List V) (H : List Tab) : Option (V × List Tab) :=
  bif fn.split && noRow args then joinN lk H (leave M lk fn (.sl [] .nil :: args.tail) H) (leave M lk fn (.sl [] .nn :: args.tail) H) else leave M lk fn args H
theorem leave_iff {fn : Fn} {args : List V} {H : List Tab} {r : V × List Tab} : leave M lk fn args H = some r ↔ ∃ k, enter (acall M k) lk k fn args H = some r := by
  unfold leave
  constructor
  · intro h
    cases hr : runs M lk fn.code ⟨argsT 0 args, [], H⟩ with
    | none => rw [hr] at h; cases h
    | some p =>
      rw [hr] at h
      obtain ⟨n, hn⟩ := runs_iff.1 hr
      obtain ⟨k, hk⟩ := run_fin n hn
      refine ⟨max k n, ?_⟩
      rw [enter_eq, run_mono (acall_mono M (Nat.le_max_left k n)) (Nat.le_max_right k n) hk]; exact h
  · rintro ⟨k, h⟩
    rw [enter_eq] at h
    cases hr : run (acall M k) lk k fn.code ⟨argsT 0 args, [], H⟩ with
    | none => rw [hr] at h; cases h
    | some p =>
      rw [hr] at h
      rw [runs_iff.2 ⟨k, run_mono (acall_lim k) (Nat.le_refl _) hr⟩]; exact h
theorem joinN_some {H : List Tab} {a b : Option (V × List Tab)} {r : V × List Tab} (h : joinN lk H a b = some r) : ∃ x y, a = some x ∧ b = some y := by
  unfold joinN at h
  split at h
  · exact ⟨_, _, rfl, rfl⟩
  · cases h
theorem leaveS_iff {fn : Fn} {args : List V} {H : List Tab} {r : V × List Tab} : leaveS M lk fn args H = some r ↔ ∃ k, enterS (acall M k) lk k fn args H = some r := by
  unfold leaveS enterS
  cases hs : (fn.split && noRow args) with
  | false => exact leave_iff
  | true =>
    simp only [cond_true]
    constructor
    · intro h
      obtain ⟨x, y, hx, hy⟩ := joinN_some h
      obtain ⟨k1, h1⟩ := leave_iff.1 hx
      obtain ⟨k2, h2⟩ := leave_iff.1 hy
      rw [hx, hy] at h
      refine ⟨max k1 k2, ?_⟩
      rw [enter_mono (acall_mono M (Nat.le_max_left k1 k2)) (Nat.le_max_left k1 k2) h1, enter_mono (acall_mono M (Nat.le_max_right k1 k2)) (Nat.le_max_right k1 k2) h2]
      exact h
    · rintro ⟨k, h⟩
      obtain ⟨x, y, hx, hy⟩ := joinN_some h
      rw [hx, hy] at h
      rw [leave_iff.2 ⟨k, hx⟩, leave_iff.2 ⟨k, hy⟩]; exact h
theorem lim_fnS {f : FuncId} {fn : Fn} (hg : M.given f = none) (hf : M.fns f = some fn) {args : List V} {H : List Tab} : lim M lk f args H = leaveS M lk fn args H := by
  refine opt_ext (fun r h => ?_) (fun r h => ?_)
  · obtain ⟨k, h⟩ := lim_iff.1 h
    cases k with
    | zero => simp [acall] at h
    | succ k =>
      simp only [acall, hg, hf] at h
      exact leaveS_iff.2 ⟨k, h⟩
  · obtain ⟨k, h⟩ := leaveS_iff.1 h
    exact lim_iff.2 ⟨k + 1, by simp only [acall, hg, hf]; exact h⟩
theorem lim_fn {f : FuncId} {fn : Fn} (hg : M.given f = none) (hf : M.fns f = some fn) (hsp : fn.split = false) {args : List V} {H : List Tab} : lim M lk f args H = leaveF fn (runs M lk fn.code ⟨argsT 0 args, [], H⟩) := by
  rw [lim_fnS hg hf]
  unfold leaveS
  rw [hsp]; rfl
theorem lim_given {f : FuncId} {G : Nat → List V → List Tab → Option (V × List Tab)} (hg : M.given f = some G) {args : List V} {H : List Tab} : lim M lk f args H = G lk args H := by
  refine opt_ext (fun r h => ?_) (fun r h => lim_iff.2 ⟨1, by simp only [acall, hg]; exact h⟩)
  obtain ⟨k, h⟩ := lim_iff.1 h
  cases k with
  | zero => simp [acall] at h
  | succ k => simp only [acall, hg] at h; exact h
end
abbrev Giv := Nat → List V → List Tab → Option (V × List Tab)
def tabAt {α : Type} : List (FuncId × α) → FuncId → Option α
  | [], _ => none
  | (j, x) :: r, i => bif Nat.beq i j then some x else tabAt r i
theorem tabAt_mem {α : Type} : ∀ {l : List (FuncId × α)} {f : FuncId} {x : α}, tabAt l f = some x → (f, x) ∈ l
  | (j, y) :: r, f, x, h => by
    simp only [tabAt, nbq] at h
    by_cases e : f = j
    · subst e; simp at h; subst h; exact List.mem_cons_self
    · simp only [decide_eq_false e, cond_false] at h
      exact List.mem_cons_of_mem _ (tabAt_mem h)
attribute [simp] lpN_eq runs_skip runs_exit runs_ret runs_regN regN_some runs_scope runs_keep runs_condR condR_true condR_false runs_seq andThen_nrm andThen_exit andThen_ret runs_block atBlock_nrm atBlock_exit atBlock_ret runs_loop
end Go.Proofs.YtlacnkjkcikodaaDoor.Am
end
section
set_option linter.unusedVariables false
set_option maxRecDepth 1000000
namespace Go.Proofs.YtlacnkjkcikodaaDoor.Am
open Go
def f_law10_UnitsTell : FuncId := 3
def f_law02_Small : FuncId := 15
def f_law10_Awake : FuncId := 16
def f_units_Chain : FuncId := 17
def f_units_walk : FuncId := 83
def f_gram_Grammar_Check : FuncId := 32
def f_gram_texts : FuncId := 93
def f_names_Name : FuncId := 94
def f_names_letter : FuncId := 143
def f_names_Mark : FuncId := 95
def f_gram_Grammar_rules : FuncId := 96
def f_gram_Grammar_rules_1 : FuncId := 145
def f_gram_Grammar_has : FuncId := 146
def f_gram_Sym_IsTerm : FuncId := 68
def f_gram_Sym_Place : FuncId := 69
def f_slices_ContainsFunc_gram_Sym_gram_Sym : FuncId := 144
def f_slices_IndexFunc_gram_Sym_gram_Sym : FuncId := 170
def f_gram_Rule_key : FuncId := 147
def f_units_walk_1 : FuncId := 131
def f_units_walk_1_1 : FuncId := 133
def f_slices_ContainsFunc_units_met_units_met : FuncId := 132
def f_slices_IndexFunc_units_met_units_met : FuncId := 166
def f_gram_Grammar_Of : FuncId := 67
def f_units_to : FuncId := 134
def f_slices_Clone_int_int : FuncId := 84
def f_law02_Awake : FuncId := 82
def f_law02_Example : FuncId := 87
def f_law01_Awake : FuncId := 129
def f_names_Quote : FuncId := 165
def f_names_Fresh : FuncId := 103
def f_strconv_Itoa : FuncId := 141
def f_slices_Contains_string_string : FuncId := 149
def f_slices_Index_string_string : FuncId := 171
def f_gram_Grammar_Size : FuncId := 30
def f_gram_Grammar_Text : FuncId := 130
def f_units_From : FuncId := 19
def f_law10_ints : FuncId := 22
def f_law02_May : FuncId := 18
def f_law02_Of : FuncId := 21
def f_law02_OfRule : FuncId := 36
def f_ref02_Check : FuncId := 85
def f_ref01_Name : FuncId := 135
def f_ref01_letter : FuncId := 167
def f_ref01_Mark : FuncId := 136
def f_ref02_twice : FuncId := 137
def f_ref02_Has : FuncId := 110
def f_ref02_Find : FuncId := 99
def f_ref02_Same : FuncId := 41
def f_ref10_Walk : FuncId := 20
def f_ref10_has : FuncId := 86
def f_law14_MeterBounds : FuncId := 4
def f_law14_Awake : FuncId := 23
def f_meter_New : FuncId := 24
def f_gram_Grammar_Clone : FuncId := 88
def f_slices_Clone_string_string : FuncId := 138
def f_slices_Clone_gram_Rule_gram_Rule : FuncId := 139
def f_slices_Clone_gram_Sym_gram_Sym : FuncId := 90
def f_tmpl_Sorts : FuncId := 70
def f_meter_Pot_Put : FuncId := 26
def f_meter_key : FuncId := 89
def f_law12_Awake : FuncId := 50
def f_tmpl_Plain : FuncId := 72
def f_meter_Pot_Spoilt : FuncId := 29
def f_meter_Pot_Size : FuncId := 31
def f_law14_may : FuncId := 25
def f_law14_mark : FuncId := 27
def f_meter_Pot_Table : FuncId := 28
def f_slices_Clone_tmpl_Sort_tmpl_Sort : FuncId := 91
def f_slices_Clone_tmpl_Item_tmpl_Item : FuncId := 92
def f_gram_Grammar_Find : FuncId := 33
def f_gram_Grammar_Find_1 : FuncId := 98
def f_gram_Rule_Same : FuncId := 43
def f_slices_Equal_gram_Sym_gram_Sym : FuncId := 101
def f_slices_IndexFunc_gram_Rule_gram_Rule : FuncId := 97
def f_law14_MeterPlays : FuncId := 5
def f_ref14_New : FuncId := 34
def f_law12_Items : FuncId := 37
def f_ref14_Put : FuncId := 35
def f_ref02_Size : FuncId := 46
def f_meter_Pot_Of : FuncId := 38
def f_meter_Pot_Drop : FuncId := 39
def f_meter_Pot_Drop_1 : FuncId := 100
def f_ref14_Drop : FuncId := 40
def f_ref12_Same : FuncId := 42
def f_ref14_Fresh : FuncId := 44
def f_ref01_Fresh : FuncId := 102
def f_ref01_Digits : FuncId := 148
def f_meter_Pot_Fresh : FuncId := 45
def f_law12_Of : FuncId := 48
def f_law12_ints : FuncId := 105
def f_ref14_Same : FuncId := 47
def f_ref02_Alike : FuncId := 63
def f_ref02_texts : FuncId := 124
def f_ref14_SameSorts : FuncId := 104
def f_ref14_ints : FuncId := 150
def f_law12_TmplChecks : FuncId := 6
def f_law12_Small : FuncId := 49
def f_law12_count : FuncId := 106
def f_tmpl_Check : FuncId := 51
def f_slices_Equal_string_string : FuncId := 107
def f_tmpl_sorts : FuncId := 108
def f_tmpl_has : FuncId := 151
def f_tmpl_template : FuncId := 109
def f_tmpl_judge_all : FuncId := 152
def f_tmpl_judge_one : FuncId := 172
def f_tmpl_judge_kid : FuncId := 187
def f_tmpl_judge_node : FuncId := 188
def f_slices_Equal_int_int : FuncId := 153
def f_ref12_Check : FuncId := 52
def f_ref12_ints : FuncId := 111
def f_ref12_stands : FuncId := 112
def f_law08_NullableTells : FuncId := 8
def f_law08_Awake : FuncId := 55
def f_law03_Awake : FuncId := 115
def f_tree_Leaf : FuncId := 117
def f_tree_Node : FuncId := 157
def f_slices_Clone_tree_Tree_tree_Tree : FuncId := 179
def f_tree_Root : FuncId := 158
def f_tree_Check : FuncId := 180
def f_tree_Count : FuncId := 196
def f_tree_Tree_leaf : FuncId := 121
def f_tree_nodeWrong : FuncId := 197
def f_tree_leafWrong : FuncId := 198
def f_tree_Text : FuncId := 159
def f_tree_Text_1 : FuncId := 181
def f_tree_Yield : FuncId := 61
def f_tree_Yield_1 : FuncId := 120
def f_nullable_Of : FuncId := 57
def f_ref08_Steps : FuncId := 58
def f_law08_NullableTrees : FuncId := 9
def f_law03_Build : FuncId := 59
def f_law03_Fits : FuncId := 60
def f_law03_Of : FuncId := 119
def f_ref03_Check : FuncId := 118
def f_ref03_Count : FuncId := 161
def f_ref03_Fits : FuncId := 162
def f_law06_BnfReads : FuncId := 10
def f_bnf_Read : FuncId := 53
def f_ref06_Read : FuncId := 62
def f_ref05_Lex : FuncId := 122
def f_ref01_Unquote : FuncId := 163
def f_ref01_digit : FuncId := 182
def f_ref06_place : FuncId := 123
def f_gram_Grammar_Same : FuncId := 65
def f_slices_EqualFunc_gram_Rule_gram_Rule_gram_Rule_gram_Rule : FuncId := 125
def f_law08_NullableClosed : FuncId := 11
def f_nullable_All : FuncId := 66
def f_law12_TmplPlain : FuncId := 12
def f_tmpl_Same : FuncId := 71
def f_ref12_Plain : FuncId := 73
def f_law09_UsefulTells : FuncId := 13
def f_law09_Awake : FuncId := 74
def f_useful_Makes : FuncId := 75
def f_useful_Met : FuncId := 76
def f_useful_Met_1 : FuncId := 127
def f_useful_Reduced : FuncId := 77
def f_ref09_Makes : FuncId := 79
def f_ref09_By : FuncId := 128
def f_law09_bools : FuncId := 78
def f_ref09_Met : FuncId := 80
def f_ref09_Reduced : FuncId := 81
def f_law06_BnfMay : FuncId := 14
def f_none_54 : FuncId := 54
def f_none_56 : FuncId := 56
def f_none_64 : FuncId := 64
def f_none_113 : FuncId := 113
def f_none_126 : FuncId := 126
def f_none_140 : FuncId := 140
def f_none_142 : FuncId := 142
def eff : List FuncId := [172, 152]
def keep : List FuncId := []
end Go.Proofs.YtlacnkjkcikodaaDoor.Am
end
section
set_option linter.unusedVariables false
set_option maxRecDepth 1000000
namespace Go.Proofs.YtlacnkjkcikodaaDoor.Am
open Go
def b_law10_UnitsTell_l0 : ACode :=
  (.seq (.reg 0 [oo 51 (.bin .lss (.t 50) (.t 49))])
 (.seq (.cond (.t 51) (.skip) (.keep [1, 3, 7, 8, 9, 10, 11] [3] (.exit 0)))
 (.keep [1, 2, 3, 7, 8, 600009, 10, 11, 48, 49, 50] [3] (.seq (.block 1 (.seq (.reg 0 [oo 52 (.ixa 2 (.t 48) (.t 50)),
 oo 53 (.load true 2 (.t 52)),
 oo 13 (.alloc [(.int .i64 0), (.sl [] .nil)]),
 ox (.store 2 (.t 13) (.t 53))])
 (.seq (.reg 0 [oo 54 (.mv (.t 9)),
 oo 55 (.fld 0 (.t 13)),
 oo 56 (.load false 1 (.t 55)),
 oo 57 (.bslice [(.int .i64 0)] 1 [(0, (.t 56))]),
 oo 58 (.app 1 (.t 54) (.t 57)),
 oo 9 (.mv (.t 58))])
 (.seq (.reg 0 [oo 59 (.fld 0 (.t 13)),
 oo 60 (.load false 1 (.t 59)),
 oo 61 (.mv (.t 2)),
 oo 62 (.bin .eql (.t 60) (.t 61))])
 (.cond (.t 62) (.reg 0 [oo 63 (.fld 1 (.t 13)),
 oo 64 (.load false 1 (.t 63)),
 oo 10 (.mv (.t 64)),
 oo 11 (.mv (.c (.bool true)))]) (.skip))))))
 (.keep [1, 2, 3, 7, 8, 600009, 10, 11, 48, 49, 50] [3] (.reg 0 [oo 65 (.bin .add (.t 50) (ci 1)),
 oo 50 (.mv (.t 65))]))))))
def c_law10_UnitsTell_l0 : ACode := .keep [1, 2, 3, 7, 8, 600009, 10, 11, 48, 49, 50] [3] b_law10_UnitsTell_l0
def c_law10_UnitsTell : ACode :=
  .seq (.reg 0 [oo 3 (.box (.t 0)),
 oo 6 (.mv (.c (.bool false)))])
 (.seq (.seq (.reg 0 [oo 14 (.load true 4 (.t 3)),
 oo 15 (.call true (cf f_law02_Small) [(.t 14)]),
 oo 16 (.un .not (.t 15))])
 (.cond (.t 16) (.seq (.reg 0 [oo 17 (.call true (cf f_law10_Awake) []),
 oo 6 (.mv (.t 17))])
 (.ret)) (.skip)))
 (.keep [1, 2, 3] [3] (.seq (.reg 0 [oo 19 (.load true 4 (.t 3)),
 oo 20 (.mv (.t 1)),
 oo 21 (.mv (.t 2)),
 oo 22 (.call true (cf f_units_Chain) [(.t 19), (.t 20), (.t 21)]),
 oo 18 (.mv (.t 22)),
 oo 23 (.ext (.t 18) 0),
 oo 24 (.ext (.t 18) 1),
 oo 7 (.mv (.t 23)),
 oo 8 (.mv (.t 24))])
 (.seq (.seq (.reg 0 [oo 25 (.load true 4 (.t 3)),
 oo 26 (.call true (cf f_law02_May) [(.t 25)]),
 oo 27 (.un .not (.t 26))])
 (.cond (.t 27) (.seq (.reg 0 [oo 28 (.call true (cf f_law10_Awake) []),
 oo 29 (.mv (.t 28)),
 og 30 29 true (.mv (.t 8)),
 og 31 29 true (.un .not (.t 30)),
 oo 32 (.pick (.t 29) (.t 31) (.c (.bool false))),
 oo 33 (.mv (.t 32)),
 og 34 33 true (.mv (.t 7)),
 og 35 33 true (.len .sl (.t 34)),
 og 36 33 true (.bin .eql (.t 35) (ci 0)),
 oo 37 (.pick (.t 33) (.t 36) (.c (.bool false))),
 oo 38 (.mv (.t 37)),
 og 39 38 true (.load true 4 (.t 3)),
 og 40 38 true (.mv (.t 1)),
 og 41 38 true (.call true (cf f_units_From) [(.t 39), (.t 40)]),
 og 42 38 true (.len .sl (.t 41)),
 og 43 38 true (.bin .eql (.t 42) (ci 0)),
 oo 44 (.pick (.t 38) (.t 43) (.c (.bool false))),
 oo 6 (.mv (.t 44))])
 (.ret)) (.skip)))
 (.keep [1, 2, 3, 7, 8] [3] (.seq (.reg 0 [oo 9 (.mv (.c (.sl [] .nil))),
 oo 10 (.mv (.c (.sl [] .nil)))])
 (.seq (.reg 0 [oo 11 (.mv (.c (.bool false)))])
 (.seq (.seq (.reg 0 [oo 45 (.load true 4 (.t 3)),
 oo 46 (.call true (cf f_law02_Of) [(.t 45)]),
 oo 47 (.mv (.t 1)),
 oo 48 (.call true (cf f_ref10_Walk) [(.t 46), (.t 47)]),
 oo 49 (.len .sl (.t 48)),
 oo 50 (.mv (ci 0))])
 (.block 0 (.loop c_law10_UnitsTell_l0)))
 (.keep [1, 3, 7, 8, 9, 10, 11] [3] (.seq (.reg 0 [oo 66 (.call true (cf f_law10_Awake) []),
 oo 67 (.mv (.t 66)),
 og 68 67 true (.mv (.t 8)),
 og 69 67 true (.mv (.t 11)),
 og 70 67 true (.eqv false .b (.t 68) (.t 69)),
 oo 71 (.pick (.t 67) (.t 70) (.c (.bool false))),
 oo 72 (.mv (.t 71)),
 og 73 72 true (.mv (.t 7)),
 og 74 72 true (.mv (.t 10)),
 og 75 72 true (.call true (cf f_law10_ints) [(.t 73), (.t 74)]),
 oo 76 (.pick (.t 72) (.t 75) (.c (.bool false))),
 oo 77 (.mv (.t 76)),
 og 78 77 true (.load true 4 (.t 3)),
 og 79 77 true (.mv (.t 1)),
 og 80 77 true (.call true (cf f_units_From) [(.t 78), (.t 79)]),
 og 81 77 true (.mv (.t 9)),
 og 82 77 true (.call true (cf f_law10_ints) [(.t 80), (.t 81)]),
 oo 83 (.pick (.t 77) (.t 82) (.c (.bool false))),
 oo 6 (.mv (.t 83))])
 (.ret)))))))))))
def n_law10_UnitsTell : Fn := ⟨c_law10_UnitsTell, [.t 6], false, false⟩
theorem ok_law10_UnitsTell : fnOf Tryd.prog eff keep f_law10_UnitsTell = some n_law10_UnitsTell.bare := by kernel_rfl
@[simp] theorem c_law10_UnitsTell_l0_norm (st : St) : norm c_law10_UnitsTell_l0 st = st.keep [1, 2, 3, 7, 8, 600009, 10, 11, 48, 49, 50] [3] := rfl
def b_law02_Small_l0 : ACode :=
  (.seq (.reg 0 [oo 14 (.bin .lss (.t 13) (.t 12))])
 (.seq (.cond (.t 14) (.skip) (.keep [1, 3] [1] (.exit 0)))
 (.keep [1, 3, 11, 12, 13] [1] (.seq (.block 1 (.seq (.reg 0 [oo 15 (.ixa 2 (.t 11) (.t 13)),
 oo 16 (.load true 2 (.t 15)),
 oo 5 (.alloc [(.int .i64 0), (.sl [] .nil)]),
 ox (.store 2 (.t 5) (.t 16))])
 (.reg 0 [oo 17 (.mv (.t 3)),
 oo 18 (.fld 1 (.t 5)),
 oo 19 (.load false 1 (.t 18)),
 oo 20 (.len .sl (.t 19)),
 oo 21 (.bin .add (ci 1) (.t 20)),
 oo 22 (.bin .add (.t 17) (.t 21)),
 oo 3 (.mv (.t 22))])))
 (.keep [1, 3, 11, 12, 13] [1] (.reg 0 [oo 23 (.bin .add (.t 13) (ci 1)),
 oo 13 (.mv (.t 23))]))))))
def c_law02_Small_l0 : ACode := .keep [1, 3, 11, 12, 13] [1] b_law02_Small_l0
def b_law02_Small_l1 : ACode :=
  (.seq (.reg 0 [oo 28 (.bin .lss (.t 27) (.t 26))])
 (.seq (.cond (.t 28) (.skip) (.keep [1, 3] [1] (.exit 2)))
 (.keep [1, 3, 25, 26, 27] [1] (.seq (.block 3 (.seq (.reg 0 [oo 29 (.ixa 1 (.t 25) (.t 27)),
 oo 30 (.load false 1 (.t 29)),
 oo 7 (.mv (.t 30))])
 (.reg 0 [oo 31 (.mv (.t 3)),
 oo 32 (.mv (.t 7)),
 oo 33 (.len .s (.t 32)),
 oo 34 (.bin .quo (.t 33) (ci 16)),
 oo 35 (.bin .add (.t 31) (.t 34)),
 oo 3 (.mv (.t 35))])))
 (.keep [1, 3, 25, 26, 27] [1] (.reg 0 [oo 36 (.bin .add (.t 27) (ci 1)),
 oo 27 (.mv (.t 36))]))))))
def c_law02_Small_l1 : ACode := .keep [1, 3, 25, 26, 27] [1] b_law02_Small_l1
def b_law02_Small_l2 : ACode :=
  (.seq (.reg 0 [oo 41 (.bin .lss (.t 40) (.t 39))])
 (.seq (.cond (.t 41) (.skip) (.keep [1, 3] [1] (.exit 4)))
 (.keep [1, 3, 38, 39, 40] [1] (.seq (.block 5 (.seq (.reg 0 [oo 42 (.ixa 1 (.t 38) (.t 40)),
 oo 43 (.load false 1 (.t 42)),
 oo 9 (.mv (.t 43))])
 (.reg 0 [oo 44 (.mv (.t 3)),
 oo 45 (.mv (.t 9)),
 oo 46 (.len .s (.t 45)),
 oo 47 (.bin .quo (.t 46) (ci 16)),
 oo 48 (.bin .add (.t 44) (.t 47)),
 oo 3 (.mv (.t 48))])))
 (.keep [1, 3, 38, 39, 40] [1] (.reg 0 [oo 49 (.bin .add (.t 40) (ci 1)),
 oo 40 (.mv (.t 49))]))))))
def c_law02_Small_l2 : ACode := .keep [1, 3, 38, 39, 40] [1] b_law02_Small_l2
def c_law02_Small : ACode :=
  .seq (.reg 0 [oo 1 (.box (.t 0)),
 oo 2 (.mv (.c (.bool false)))])
 (.seq (.reg 0 [oo 3 (.mv (ci 0))])
 (.seq (.seq (.reg 0 [oo 10 (.fld 3 (.t 1)),
 oo 11 (.load false 1 (.t 10)),
 oo 12 (.len .sl (.t 11)),
 oo 13 (.mv (ci 0))])
 (.block 0 (.loop c_law02_Small_l0)))
 (.keep [1, 3] [1] (.seq (.seq (.reg 0 [oo 24 (.fld 0 (.t 1)),
 oo 25 (.load false 1 (.t 24)),
 oo 26 (.len .sl (.t 25)),
 oo 27 (.mv (ci 0))])
 (.block 2 (.loop c_law02_Small_l1)))
 (.keep [1, 3] [1] (.seq (.seq (.reg 0 [oo 37 (.fld 1 (.t 1)),
 oo 38 (.load false 1 (.t 37)),
 oo 39 (.len .sl (.t 38)),
 oo 40 (.mv (ci 0))])
 (.block 4 (.loop c_law02_Small_l2)))
 (.keep [1, 3] [1] (.seq (.reg 0 [oo 50 (.mv (.t 3)),
 oo 51 (.bin .leq (.t 50) (ci 600)),
 oo 52 (.mv (.t 51)),
 og 53 52 true (.fld 0 (.t 1)),
 og 54 52 true (.load false 1 (.t 53)),
 og 55 52 true (.len .sl (.t 54)),
 og 56 52 true (.bin .leq (.t 55) (ci 60)),
 oo 57 (.pick (.t 52) (.t 56) (.c (.bool false))),
 oo 58 (.mv (.t 57)),
 og 59 58 true (.fld 1 (.t 1)),
 og 60 58 true (.load false 1 (.t 59)),
 og 61 58 true (.len .sl (.t 60)),
 og 62 58 true (.bin .leq (.t 61) (ci 60)),
 oo 63 (.pick (.t 58) (.t 62) (.c (.bool false))),
 oo 64 (.mv (.t 63)),
 og 65 64 true (.fld 3 (.t 1)),
 og 66 64 true (.load false 1 (.t 65)),
 og 67 64 true (.len .sl (.t 66)),
 og 68 64 true (.bin .leq (.t 67) (ci 120)),
 oo 69 (.pick (.t 64) (.t 68) (.c (.bool false))),
 oo 2 (.mv (.t 69))])
 (.ret)))))))))
def n_law02_Small : Fn := ⟨c_law02_Small, [.t 2], false, false⟩
theorem ok_law02_Small : fnOf Tryd.prog eff keep f_law02_Small = some n_law02_Small.bare := by kernel_rfl
@[simp] theorem c_law02_Small_l0_norm (st : St) : norm c_law02_Small_l0 st = st.keep [1, 3, 11, 12, 13] [1] := rfl
@[simp] theorem c_law02_Small_l1_norm (st : St) : norm c_law02_Small_l1 st = st.keep [1, 3, 25, 26, 27] [1] := rfl
@[simp] theorem c_law02_Small_l2_norm (st : St) : norm c_law02_Small_l2 st = st.keep [1, 3, 38, 39, 40] [1] := rfl
def c_law10_Awake : ACode :=
  .seq (.reg 0 [oo 0 (.mv (.c (.bool false)))])
 (.seq (.reg 0 [oo 4 (.bslice [(.str ⟨#[]⟩)] 3 [(0, (.c (.str ⟨#[83]⟩))), (1, (.c (.str ⟨#[65]⟩))), (2, (.c (.str ⟨#[66]⟩)))]),
 oo 5 (.bslice [(.int .i64 0)] 1 [(0, (ci 1))]),
 oo 6 (.build [(.int .i64 0), (.sl [] .nil)] [(1, 1, (.t 5))]),
 oo 7 (.bslice [(.int .i64 0)] 1 [(0, (ci 2))]),
 oo 8 (.build [(.int .i64 0), (.sl [] .nil)] [(0, 1, (ci 1)), (1, 1, (.t 7))]),
 oo 9 (.bslice [(.int .i64 0)] 1 [(0, (ci 2))]),
 oo 10 (.build [(.int .i64 0), (.sl [] .nil)] [(1, 1, (.t 9))]),
 oo 11 (.bslice [(.int .i64 0), (.sl [] .nil)] 3 [(0, (.t 6)), (1, (.t 8)), (2, (.t 10))]),
 oo 12 (.build [(.sl [] .nil), (.sl [] .nil), (.int .i64 0), (.sl [] .nil)] [(0, 1, (.t 4)), (3, 1, (.t 11))]),
 oo 1 (.alloc [(.sl [] .nil), (.sl [] .nil), (.int .i64 0), (.sl [] .nil)]),
 ox (.store 4 (.t 1) (.t 12))])
 (.seq (.reg 0 [oo 14 (.load true 4 (.t 1)),
 oo 15 (.call true (cf f_units_Chain) [(.t 14), (ci 0), (ci 2)]),
 oo 13 (.mv (.t 15)),
 oo 16 (.ext (.t 13) 0),
 oo 17 (.ext (.t 13) 1),
 oo 2 (.mv (.t 16)),
 oo 3 (.mv (.t 17))])
 (.seq (.reg 0 [oo 18 (.call true (cf f_law02_Awake) []),
 oo 19 (.mv (.t 18)),
 og 20 19 true (.mv (.t 3)),
 oo 21 (.pick (.t 19) (.t 20) (.c (.bool false))),
 oo 22 (.mv (.t 21)),
 og 23 22 true (.mv (.t 2)),
 og 24 22 true (.len .sl (.t 23)),
 og 25 22 true (.bin .eql (.t 24) (ci 1)),
 oo 26 (.pick (.t 22) (.t 25) (.c (.bool false))),
 oo 27 (.mv (.t 26)),
 og 28 27 true (.mv (.t 2)),
 og 29 27 true (.ixa 1 (.t 28) (ci 0)),
 og 30 27 true (.load false 1 (.t 29)),
 og 31 27 true (.bin .eql (.t 30) (ci 2)),
 oo 32 (.pick (.t 27) (.t 31) (.c (.bool false))),
 oo 33 (.mv (.t 32)),
 og 34 33 true (.load true 4 (.t 1)),
 og 35 33 true (.call true (cf f_units_From) [(.t 34), (ci 0)]),
 og 36 33 true (.bslice [(.int .i64 0)] 3 [(0, (ci 0)), (1, (ci 1)), (2, (ci 2))]),
 og 37 33 true (.call true (cf f_law10_ints) [(.t 35), (.t 36)]),
 oo 38 (.pick (.t 33) (.t 37) (.c (.bool false))),
 oo 0 (.mv (.t 38))])
 (.ret))))
def n_law10_Awake : Fn := ⟨c_law10_Awake, [.t 0], false, false⟩
theorem ok_law10_Awake : fnOf Tryd.prog eff keep f_law10_Awake = some n_law10_Awake.bare := by kernel_rfl
def b_units_Chain_l0 : ACode :=
  (.seq (.reg 0 [oo 15 (.bin .lss (.t 14) (.t 13))])
 (.seq (.cond (.t 15) (.skip) (.keep [] [] (.exit 0)))
 (.keep [2, 12, 13, 14] [] (.seq (.block 1 (.seq (.reg 0 [oo 16 (.ixa 2 (.t 12) (.t 14)),
 oo 17 (.load true 2 (.t 16)),
 oo 9 (.alloc [(.int .i64 0), (.sl [] .nil)]),
 ox (.store 2 (.t 9) (.t 17))])
 (.seq (.reg 0 [oo 18 (.fld 0 (.t 9)),
 oo 19 (.load false 1 (.t 18)),
 oo 20 (.mv (.t 2)),
 oo 21 (.bin .eql (.t 19) (.t 20))])
 (.cond (.t 21) (.seq (.reg 0 [oo 22 (.fld 1 (.t 9)),
 oo 23 (.load false 1 (.t 22)),
 oo 24 (.call true (cf f_slices_Clone_int_int) [(.t 23)]),
 oo 6 (.mv (.t 24)),
 oo 7 (.mv (.c (.bool true)))])
 (.keep [6, 7] [] (.ret))) (.skip)))))
 (.keep [2, 12, 13, 14] [] (.reg 0 [oo 25 (.bin .add (.t 14) (ci 1)),
 oo 14 (.mv (.t 25))]))))))
def c_units_Chain_l0 : ACode := .keep [2, 12, 13, 14] [] b_units_Chain_l0
def c_units_Chain : ACode :=
  .seq (.reg 0 [oo 3 (.box (.t 0)),
 oo 6 (.mv (.c (.sl [] .nil))),
 oo 7 (.mv (.c (.bool false)))])
 (.seq (.seq (.reg 0 [oo 10 (.load true 4 (.t 3)),
 oo 11 (.mv (.t 1)),
 oo 12 (.call true (cf f_units_walk) [(.t 10), (.t 11)]),
 oo 13 (.len .sl (.t 12)),
 oo 14 (.mv (ci 0))])
 (.block 0 (.loop c_units_Chain_l0)))
 (.keep [] [] (.seq (.reg 0 [oo 6 (.mv (.c (.sl [] .nil))),
 oo 7 (.mv (.c (.bool false)))])
 (.ret))))
def n_units_Chain : Fn := ⟨c_units_Chain, [.t 6, .t 7], false, false⟩
theorem ok_units_Chain : fnOf Tryd.prog eff keep f_units_Chain = some n_units_Chain.bare := by kernel_rfl
@[simp] theorem c_units_Chain_l0_norm (st : St) : norm c_units_Chain_l0 st = st.keep [2, 12, 13, 14] [] := rfl
def b_units_walk_l0 : ACode :=
  (.seq (.reg 0 [oo 51 (.bin .lss (.t 50) (.t 49))])
 (.seq (.cond (.t 51) (.skip) (.keep [2, 5, 6, 7] [2, 5] (.exit 2)))
 (.keep [2, 5, 6, 7, 8, 48, 49, 50] [2, 5] (.seq (.block 3 (.seq (.reg 0 [oo 52 (.ixa 1 (.t 48) (.t 50)),
 oo 53 (.load false 1 (.t 52)),
 oo 10 (.mv (.t 53))])
 (.seq (.reg 0 [oo 54 (.fld 3 (.t 2)),
 oo 55 (.load false 1 (.t 54)),
 oo 56 (.mv (.t 10)),
 oo 57 (.ixa 2 (.t 55) (.t 56)),
 oo 58 (.load true 2 (.t 57)),
 oo 59 (.call true (cf f_units_to) [(.t 58)]),
 oo 11 (.mv (.t 59))])
 (.keep [2, 5, 6, 7, 8, 10, 11, 48, 49, 50] [2, 5] (.seq (.reg 0 [oo 60 (.mv (.t 11)),
 oo 61 (.bin .geq (.t 60) (ci 0)),
 oo 62 (.mv (.t 61)),
 og 63 62 true (.mv (.t 6)),
 og 64 62 true (.mv (.t 11)),
 og 65 62 true (.call false (.t 63) [(.t 64)]),
 og 66 62 true (.un .not (.t 65)),
 oo 67 (.pick (.t 62) (.t 66) (.c (.bool false)))])
 (.cond (.t 67) (.reg 15 [oo 68 (.load false 1 (.t 5)),
 oo 69 (.mv (.t 11)),
 oo 70 (.load false 1 (.t 5)),
 oo 71 (.mv (.t 7)),
 oo 72 (.ixa 2 (.t 70) (.t 71)),
 oo 73 (.fld 1 (.t 72)),
 oo 74 (.load false 1 (.t 73)),
 oo 75 (.mv (.t 8)),
 oo 76 (.mv (.t 8)),
 oo 77 (.sl 1 (.t 74) none (some (.t 75)) (some (.t 76))),
 oo 78 (.mv (.t 10)),
 oo 79 (.bslice [(.int .i64 0)] 1 [(0, (.t 78))]),
 oo 80 (.app 1 (.t 77) (.t 79)),
 oo 81 (.build [(.int .i64 0), (.sl [] .nil)] [(0, 1, (.t 69)), (1, 1, (.t 80))]),
 oo 82 (.bslice [(.int .i64 0), (.sl [] .nil)] 1 [(0, (.t 81))]),
 oo 83 (.app 2 (.t 68) (.t 82)),
 ox (.store 1 (.t 5) (.t 83))]) (.skip)))))))
 (.keep [2, 5, 6, 7, 8, 48, 49, 50] [2, 5] (.reg 0 [oo 84 (.bin .add (.t 50) (ci 1)),
 oo 50 (.mv (.t 84))]))))))
def c_units_walk_l0 : ACode := .keep [2, 5, 6, 7, 8, 48, 49, 50] [2, 5] b_units_walk_l0
def b_units_walk_l1 : ACode :=
  (.seq (.seq (.reg 0 [oo 30 (.mv (.t 7)),
 oo 31 (.load false 1 (.t 5)),
 oo 32 (.len .sl (.t 31)),
 oo 33 (.bin .lss (.t 30) (.t 32))])
 (.cond (.t 33) (.skip) (.keep [5] [5] (.exit 0))))
 (.keep [2, 5, 6, 7] [2, 5] (.seq (.block 1 (.seq (.reg 0 [oo 36 (.load false 1 (.t 5)),
 oo 37 (.mv (.t 7)),
 oo 38 (.ixa 2 (.t 36) (.t 37)),
 oo 39 (.fld 1 (.t 38)),
 oo 40 (.load false 1 (.t 39)),
 oo 41 (.len .sl (.t 40)),
 oo 8 (.mv (.t 41))])
 (.seq (.reg 9 [oo 42 (.load true 4 (.t 2)),
 oo 43 (.load false 1 (.t 5)),
 oo 44 (.mv (.t 7)),
 oo 45 (.ixa 2 (.t 43) (.t 44)),
 oo 46 (.fld 0 (.t 45)),
 oo 47 (.load false 1 (.t 46)),
 oo 48 (.call true (cf f_gram_Grammar_Of) [(.t 42), (.t 47)]),
 oo 49 (.len .sl (.t 48)),
 oo 50 (.mv (ci 0))])
 (.block 2 (.loop c_units_walk_l0)))))
 (.keep [2, 5, 6, 7] [2, 5] (.reg 0 [oo 34 (.mv (.t 7)),
 oo 35 (.bin .add (.t 34) (ci 1)),
 oo 7 (.mv (.t 35))])))))
def c_units_walk_l1 : ACode := .keep [2, 5, 6, 7] [2, 5] b_units_walk_l1
def c_units_walk : ACode :=
  .seq (.reg 0 [oo 2 (.box (.t 0)),
 oo 4 (.mv (.c (.sl [] .nil)))])
 (.seq (.seq (.reg 0 [oo 12 (.load true 4 (.t 2)),
 oo 13 (.call true (cf f_gram_Grammar_Check) [(.t 12)]),
 oo 14 (.bin .neq (.t 13) (ci 0)),
 oo 15 (.mv (.t 14)),
 og 16 15 false (.mv (.t 1)),
 og 17 15 false (.bin .lss (.t 16) (ci 0)),
 oo 18 (.pick (.t 15) (.c (.bool true)) (.t 17)),
 oo 19 (.mv (.t 18)),
 og 20 19 false (.mv (.t 1)),
 og 21 19 false (.fld 0 (.t 2)),
 og 22 19 false (.load false 1 (.t 21)),
 og 23 19 false (.len .sl (.t 22)),
 og 24 19 false (.bin .geq (.t 20) (.t 23)),
 oo 25 (.pick (.t 19) (.c (.bool true)) (.t 24))])
 (.cond (.t 25) (.seq (.reg 0 [oo 4 (.mv (.c (.sl [] .nil)))])
 (.ret)) (.skip)))
 (.keep [1, 2] [2, 5] (.seq (.reg 0 [oo 26 (.mv (.t 1)),
 oo 27 (.build [(.int .i64 0), (.sl [] .nil)] [(0, 1, (.t 26))]),
 oo 28 (.bslice [(.int .i64 0), (.sl [] .nil)] 1 [(0, (.t 27))]),
 oo 5 (.alloc [(.sl [] .nil)]),
 ox (.store 1 (.t 5) (.t 28))])
 (.seq (.reg 0 [oo 29 (.mkf f_units_walk_1 [(.t 5)]),
 oo 6 (.mv (.t 29))])
 (.seq (.seq (.reg 0 [oo 7 (.mv (ci 0))])
 (.block 0 (.loop c_units_walk_l1)))
 (.keep [5] [5] (.seq (.reg 0 [oo 85 (.load false 1 (.t 5)),
 oo 4 (.mv (.t 85))])
 (.ret))))))))
def n_units_walk : Fn := ⟨c_units_walk, [.t 4], false, false⟩
theorem ok_units_walk : fnOf Tryd.prog eff keep f_units_walk = some n_units_walk.bare := by kernel_rfl
@[simp] theorem c_units_walk_l0_norm (st : St) : norm c_units_walk_l0 st = st.keep [2, 5, 6, 7, 8, 48, 49, 50] [2, 5] := rfl
@[simp] theorem c_units_walk_l1_norm (st : St) : norm c_units_walk_l1 st = st.keep [2, 5, 6, 7] [2, 5] := rfl
def b_gram_Grammar_Check_l0 : ACode :=
  (.seq (.reg 0 [oo 38 (.bin .lss (.t 37) (.t 36))])
 (.seq (.cond (.t 38) (.skip) (.keep [1] [1] (.exit 0)))
 (.keep [1, 3, 4, 35, 36, 37] [1] (.seq (.block 1 (.seq (.reg 0 [oo 39 (.ixa 1 (.t 35) (.t 37)),
 oo 40 (.load false 1 (.t 39)),
 oo 6 (.mv (.t 40))])
 (.seq (.reg 0 [oo 41 (.mv (.t 3)),
 oo 42 (.mv (.t 6)),
 oo 43 (.bin .eql (.t 41) (.t 42)),
 oo 44 (.mv (.t 43)),
 og 45 44 false (.mv (.t 4)),
 og 46 44 false (.mv (.t 6)),
 og 47 44 false (.bin .eql (.t 45) (.t 46)),
 oo 48 (.pick (.t 44) (.c (.bool true)) (.t 47))])
 (.cond (.t 48) (.seq (.reg 0 [oo 49 (.mv (.t 6)),
 oo 2 (.mv (.t 49))])
 (.keep [2] [] (.ret))) (.skip)))))
 (.keep [1, 3, 4, 35, 36, 37] [1] (.reg 0 [oo 50 (.bin .add (.t 37) (ci 1)),
 oo 37 (.mv (.t 50))]))))))
def c_gram_Grammar_Check_l0 : ACode := .keep [1, 3, 4, 35, 36, 37] [1] b_gram_Grammar_Check_l0
def c_gram_Grammar_Check : ACode :=
  .seq (.reg 0 [oo 1 (.box (.t 0)),
 oo 2 (.mv (ci 0))])
 (.seq (.seq (.reg 0 [oo 7 (.fld 0 (.t 1)),
 oo 8 (.load false 1 (.t 7)),
 oo 9 (.len .sl (.t 8)),
 oo 10 (.bin .eql (.t 9) (ci 0)),
 oo 11 (.mv (.t 10)),
 og 12 11 false (.fld 0 (.t 1)),
 og 13 11 false (.load false 1 (.t 12)),
 og 14 11 false (.len .sl (.t 13)),
 og 15 11 false (.bin .gtr (.t 14) (ci 2048)),
 oo 16 (.pick (.t 11) (.c (.bool true)) (.t 15)),
 oo 17 (.mv (.t 16)),
 og 18 17 false (.fld 1 (.t 1)),
 og 19 17 false (.load false 1 (.t 18)),
 og 20 17 false (.len .sl (.t 19)),
 og 21 17 false (.bin .gtr (.t 20) (ci 2048)),
 oo 22 (.pick (.t 17) (.c (.bool true)) (.t 21)),
 oo 23 (.mv (.t 22)),
 og 24 23 false (.fld 3 (.t 1)),
 og 25 23 false (.load false 1 (.t 24)),
 og 26 23 false (.len .sl (.t 25)),
 og 27 23 false (.bin .gtr (.t 26) (ci 8192)),
 oo 28 (.pick (.t 23) (.c (.bool true)) (.t 27))])
 (.cond (.t 28) (.seq (.reg 0 [oo 2 (.mv (ci 11))])
 (.ret)) (.skip)))
 (.keep [1] [1] (.seq (.reg 5 [oo 29 (.fld 0 (.t 1)),
 oo 30 (.load false 1 (.t 29)),
 oo 31 (.call true (cf f_gram_texts) [(.t 30), (cf f_names_Name)]),
 oo 32 (.fld 1 (.t 1)),
 oo 33 (.load false 1 (.t 32)),
 oo 34 (.call true (cf f_gram_texts) [(.t 33), (cf f_names_Mark)]),
 oo 3 (.mv (.t 31)),
 oo 4 (.mv (.t 34))])
 (.seq (.seq (.reg 0 [oo 35 (.bslice [(.int .i64 0)] 2 [(0, (ci 1)), (1, (ci 2))]),
 oo 36 (.len .sl (.t 35)),
 oo 37 (.mv (ci 0))])
 (.block 0 (.loop c_gram_Grammar_Check_l0)))
 (.keep [1] [1] (.seq (.seq (.reg 0 [oo 51 (.fld 2 (.t 1)),
 oo 52 (.load false 1 (.t 51)),
 oo 53 (.bin .lss (.t 52) (ci 0)),
 oo 54 (.mv (.t 53)),
 og 55 54 false (.fld 2 (.t 1)),
 og 56 54 false (.load false 1 (.t 55)),
 og 57 54 false (.fld 0 (.t 1)),
 og 58 54 false (.load false 1 (.t 57)),
 og 59 54 false (.len .sl (.t 58)),
 og 60 54 false (.bin .geq (.t 56) (.t 59)),
 oo 61 (.pick (.t 54) (.c (.bool true)) (.t 60))])
 (.cond (.t 61) (.seq (.reg 0 [oo 2 (.mv (ci 3))])
 (.ret)) (.skip)))
 (.keep [1] [1] (.seq (.reg 0 [oo 62 (.load true 4 (.t 1)),
 oo 63 (.call true (cf f_gram_Grammar_rules) [(.t 62)]),
 oo 2 (.mv (.t 63))])
 (.ret)))))))))
def n_gram_Grammar_Check : Fn := ⟨c_gram_Grammar_Check, [.t 2], false, false⟩
theorem ok_gram_Grammar_Check : fnOf Tryd.prog eff keep f_gram_Grammar_Check = some n_gram_Grammar_Check.bare := by kernel_rfl
@[simp] theorem c_gram_Grammar_Check_l0_norm (st : St) : norm c_gram_Grammar_Check_l0 st = st.keep [1, 3, 4, 35, 36, 37] [1] := rfl
def b_gram_texts_l0 : ACode :=
  (.seq (.reg 0 [oo 13 (.bin .lss (.t 12) (.t 11))])
 (.seq (.cond (.t 13) (.skip) (.keep [6] [9] (.exit 0)))
 (.keep [1, 5, 6, 10, 11, 12] [9] (.seq (.block 1 (.seq (.reg 0 [oo 14 (.ixa 1 (.t 10) (.t 12)),
 oo 15 (.load false 1 (.t 14)),
 oo 8 (.mv (.t 15))])
 (.keep [1, 5, 6, 8, 10, 11, 12] [9] (.seq (.seq (.reg 0 [oo 16 (.mv (.t 1)),
 oo 17 (.mv (.t 8)),
 oo 18 (.call false (.t 16) [(.t 17)]),
 oo 19 (.un .not (.t 18))])
 (.cond (.t 19) (.seq (.reg 0 [oo 4 (.mv (ci 1))])
 (.keep [4] [9] (.ret))) (.skip)))
 (.keep [1, 5, 6, 8, 10, 11, 12] [9] (.seq (.reg 0 [oo 20 (.mv (.t 5)),
 oo 21 (.mv (.t 8)),
 oo 22 (.look .s (.int .i64 0) false (.t 20) (.t 21)),
 oo 23 (.bin .add (.t 22) (ci 1)),
 ox (.mset .s (.t 20) (.t 21) (.t 23))])
 (.seq (.reg 0 [oo 24 (.mv (.t 5)),
 oo 25 (.mv (.t 8)),
 oo 26 (.look .s (.int .i64 0) false (.t 24) (.t 25)),
 oo 27 (.bin .gtr (.t 26) (ci 1))])
 (.cond (.t 27) (.reg 0 [oo 6 (.mv (ci 2))]) (.skip)))))))))
 (.keep [1, 5, 6, 10, 11, 12] [9] (.reg 0 [oo 28 (.bin .add (.t 12) (ci 1)),
 oo 12 (.mv (.t 28))]))))))
def c_gram_texts_l0 : ACode := .keep [1, 5, 6, 10, 11, 12] [9] b_gram_texts_l0
def c_gram_texts : ACode :=
  .seq (.reg 0 [oo 4 (.mv (ci 0))])
 (.seq (.reg 0 [oo 9 (.mkmap),
 oo 5 (.mv (.t 9))])
 (.seq (.reg 0 [oo 6 (.mv (ci 0))])
 (.seq (.seq (.reg 0 [oo 10 (.mv (.t 0)),
 oo 11 (.len .sl (.t 10)),
 oo 12 (.mv (ci 0))])
 (.block 0 (.loop c_gram_texts_l0)))
 (.keep [6] [9] (.seq (.reg 0 [oo 29 (.mv (.t 6)),
 oo 4 (.mv (.t 29))])
 (.ret))))))
def n_gram_texts : Fn := ⟨c_gram_texts, [.t 4], false, false⟩
theorem ok_gram_texts : fnOf Tryd.prog eff keep f_gram_texts = some n_gram_texts.bare := by kernel_rfl
@[simp] theorem c_gram_texts_l0_norm (st : St) : norm c_gram_texts_l0 st = st.keep [1, 5, 6, 10, 11, 12] [9] := rfl
def b_names_Name_l0 : ACode :=
  (.seq (.reg 0 [oo 20 (.bin .lss (.t 19) (.t 18))])
 (.seq (.cond (.t 20) (.skip) (.keep [] [] (.exit 0)))
 (.keep [0, 18, 19] [] (.seq (.block 1 (.seq (.reg 0 [oo 21 (.mv (.t 19)),
 oo 3 (.mv (.t 21))])
 (.seq (.reg 0 [oo 22 (.mv (.t 0)),
 oo 23 (.mv (.t 3)),
 oo 24 (.ixs (.t 22) (.t 23)),
 oo 25 (.call true (cf f_names_letter) [(.t 24)]),
 oo 26 (.un .not (.t 25)),
 oo 27 (.mv (.t 26)),
 og 28 27 true (.mv (.t 0)),
 og 29 27 true (.mv (.t 3)),
 og 30 27 true (.ixs (.t 28) (.t 29)),
 og 31 27 true (.bin .neq (.t 30) (.c (.int .u8 45))),
 oo 32 (.pick (.t 27) (.t 31) (.c (.bool false))),
 oo 33 (.mv (.t 32)),
 og 34 33 true (.mv (.t 0)),
 og 35 33 true (.mv (.t 3)),
 og 36 33 true (.ixs (.t 34) (.t 35)),
 og 37 33 true (.bin .lss (.t 36) (.c (.int .u8 48))),
 og 38 33 true (.mv (.t 37)),
 og 39 38 false (.mv (.t 0)),
 og 40 38 false (.mv (.t 3)),
 og 41 38 false (.ixs (.t 39) (.t 40)),
 og 42 38 false (.bin .gtr (.t 41) (.c (.int .u8 57))),
 og 43 33 true (.pick (.t 38) (.c (.bool true)) (.t 42)),
 oo 44 (.pick (.t 33) (.t 43) (.c (.bool false)))])
 (.cond (.t 44) (.seq (.reg 0 [oo 2 (.mv (.c (.bool false)))])
 (.keep [2] [] (.ret))) (.skip)))))
 (.keep [0, 18, 19] [] (.reg 0 [oo 45 (.bin .add (.t 19) (ci 1)),
 oo 19 (.mv (.t 45))]))))))
def c_names_Name_l0 : ACode := .keep [0, 18, 19] [] b_names_Name_l0
def c_names_Name : ACode :=
  .seq (.reg 0 [oo 2 (.mv (.c (.bool false)))])
 (.seq (.seq (.reg 0 [oo 4 (.mv (.t 0)),
 oo 5 (.bin .eql (.t 4) (.c (.str ⟨#[]⟩))),
 oo 6 (.mv (.t 5)),
 og 7 6 false (.mv (.t 0)),
 og 8 6 false (.len .s (.t 7)),
 og 9 6 false (.bin .gtr (.t 8) (ci 64)),
 oo 10 (.pick (.t 6) (.c (.bool true)) (.t 9)),
 oo 11 (.mv (.t 10)),
 og 12 11 false (.mv (.t 0)),
 og 13 11 false (.ixs (.t 12) (ci 0)),
 og 14 11 false (.call true (cf f_names_letter) [(.t 13)]),
 og 15 11 false (.un .not (.t 14)),
 oo 16 (.pick (.t 11) (.c (.bool true)) (.t 15))])
 (.cond (.t 16) (.seq (.reg 0 [oo 2 (.mv (.c (.bool false)))])
 (.ret)) (.skip)))
 (.keep [0] [] (.seq (.seq (.reg 0 [oo 17 (.mv (.t 0)),
 oo 18 (.len .s (.t 17)),
 oo 19 (.mv (ci 0))])
 (.block 0 (.loop c_names_Name_l0)))
 (.keep [] [] (.seq (.reg 0 [oo 2 (.mv (.c (.bool true)))])
 (.ret))))))
def n_names_Name : Fn := ⟨c_names_Name, [.t 2], false, false⟩
theorem ok_names_Name : fnOf Tryd.prog eff keep f_names_Name = some n_names_Name.bare := by kernel_rfl
@[simp] theorem c_names_Name_l0_norm (st : St) : norm c_names_Name_l0 st = st.keep [0, 18, 19] [] := rfl
def c_names_letter : ACode :=
  .seq (.reg 0 [oo 2 (.mv (.c (.bool false)))])
 (.seq (.reg 0 [oo 3 (.mv (.t 0)),
 oo 4 (.bin .geq (.t 3) (.c (.int .u8 65))),
 oo 5 (.mv (.t 4)),
 og 6 5 true (.mv (.t 0)),
 og 7 5 true (.bin .leq (.t 6) (.c (.int .u8 90))),
 oo 8 (.pick (.t 5) (.t 7) (.c (.bool false))),
 oo 9 (.mv (.t 8)),
 og 10 9 false (.mv (.t 0)),
 og 11 9 false (.bin .geq (.t 10) (.c (.int .u8 97))),
 og 12 9 false (.mv (.t 11)),
 og 13 12 true (.mv (.t 0)),
 og 14 12 true (.bin .leq (.t 13) (.c (.int .u8 122))),
 og 15 9 false (.pick (.t 12) (.t 14) (.c (.bool false))),
 oo 16 (.pick (.t 9) (.c (.bool true)) (.t 15)),
 oo 2 (.mv (.t 16))])
 (.ret))
def n_names_letter : Fn := ⟨c_names_letter, [.t 2], false, false⟩
theorem ok_names_letter : fnOf Tryd.prog eff keep f_names_letter = some n_names_letter.bare := by kernel_rfl
def c_names_Mark : ACode :=
  .seq (.reg 0 [oo 2 (.mv (.c (.bool false)))])
 (.seq (.reg 0 [oo 3 (.mv (.t 0)),
 oo 4 (.bin .neq (.t 3) (.c (.str ⟨#[]⟩))),
 oo 5 (.mv (.t 4)),
 og 6 5 true (.mv (.t 0)),
 og 7 5 true (.len .s (.t 6)),
 og 8 5 true (.bin .leq (.t 7) (ci 64)),
 oo 9 (.pick (.t 5) (.t 8) (.c (.bool false))),
 oo 2 (.mv (.t 9))])
 (.ret))
def n_names_Mark : Fn := ⟨c_names_Mark, [.t 2], false, false⟩
theorem ok_names_Mark : fnOf Tryd.prog eff keep f_names_Mark = some n_names_Mark.bare := by kernel_rfl
def b_gram_Grammar_rules_l0 : ACode :=
  (.seq (.reg 0 [oo 12 (.bin .lss (.t 11) (.t 10))])
 (.seq (.cond (.t 12) (.skip) (.keep [4] [1, 7] (.exit 0)))
 (.keep [1, 3, 4, 9, 10, 11] [1, 7] (.seq (.block 1 (.seq (.reg 0 [oo 13 (.ixa 2 (.t 9) (.t 11)),
 oo 14 (.load true 2 (.t 13)),
 oo 6 (.alloc [(.int .i64 0), (.sl [] .nil)]),
 ox (.store 2 (.t 6) (.t 14))])
 (.seq (.seq (.reg 0 [oo 15 (.fld 0 (.t 6)),
 oo 16 (.load false 1 (.t 15)),
 oo 17 (.bin .lss (.t 16) (ci 0)),
 oo 18 (.mv (.t 17)),
 og 19 18 false (.fld 0 (.t 6)),
 og 20 18 false (.load false 1 (.t 19)),
 og 21 18 false (.fld 0 (.t 1)),
 og 22 18 false (.load false 1 (.t 21)),
 og 23 18 false (.len .sl (.t 22)),
 og 24 18 false (.bin .geq (.t 20) (.t 23)),
 oo 25 (.pick (.t 18) (.c (.bool true)) (.t 24)),
 oo 26 (.mv (.t 25)),
 og 27 26 false (.fld 1 (.t 6)),
 og 28 26 false (.load false 1 (.t 27)),
 og 29 26 false (.mkf f_gram_Grammar_rules_1 [(.t 1)]),
 og 30 26 false (.call true (cf f_slices_ContainsFunc_gram_Sym_gram_Sym) [(.t 28), (.t 29)]),
 oo 31 (.pick (.t 26) (.c (.bool true)) (.t 30))])
 (.cond (.t 31) (.seq (.reg 0 [oo 2 (.mv (ci 3))])
 (.keep [2] [1, 7] (.ret))) (.skip)))
 (.keep [1, 3, 4, 6, 9, 10, 11] [1, 6, 7] (.seq (.seq (.reg 0 [oo 32 (.fld 1 (.t 6)),
 oo 33 (.load false 1 (.t 32)),
 oo 34 (.len .sl (.t 33)),
 oo 35 (.bin .gtr (.t 34) (ci 64))])
 (.cond (.t 35) (.seq (.reg 0 [oo 2 (.mv (ci 5))])
 (.keep [2] [1, 7] (.ret))) (.skip)))
 (.keep [1, 3, 4, 6, 9, 10, 11] [1, 6, 7] (.seq (.reg 0 [oo 36 (.mv (.t 3)),
 oo 37 (.load true 2 (.t 6)),
 oo 38 (.call true (cf f_gram_Rule_key) [(.t 37)]),
 oo 39 (.look .s (.int .i64 0) false (.t 36) (.t 38)),
 oo 40 (.bin .add (.t 39) (ci 1)),
 ox (.mset .s (.t 36) (.t 38) (.t 40))])
 (.seq (.reg 0 [oo 41 (.mv (.t 3)),
 oo 42 (.load true 2 (.t 6)),
 oo 43 (.call true (cf f_gram_Rule_key) [(.t 42)]),
 oo 44 (.look .s (.int .i64 0) false (.t 41) (.t 43)),
 oo 45 (.bin .gtr (.t 44) (ci 1))])
 (.cond (.t 45) (.reg 0 [oo 4 (.mv (ci 2))]) (.skip))))))))))
 (.keep [1, 3, 4, 9, 10, 11] [1, 7] (.reg 0 [oo 46 (.bin .add (.t 11) (ci 1)),
 oo 11 (.mv (.t 46))]))))))
def c_gram_Grammar_rules_l0 : ACode := .keep [1, 3, 4, 9, 10, 11] [1, 7] b_gram_Grammar_rules_l0
def c_gram_Grammar_rules : ACode :=
  .seq (.reg 0 [oo 1 (.box (.t 0)),
 oo 2 (.mv (ci 0))])
 (.seq (.reg 0 [oo 7 (.mkmap),
 oo 3 (.mv (.t 7))])
 (.seq (.reg 0 [oo 4 (.mv (ci 0))])
 (.seq (.seq (.reg 0 [oo 8 (.fld 3 (.t 1)),
 oo 9 (.load false 1 (.t 8)),
 oo 10 (.len .sl (.t 9)),
 oo 11 (.mv (ci 0))])
 (.block 0 (.loop c_gram_Grammar_rules_l0)))
 (.keep [4] [1, 7] (.seq (.reg 0 [oo 47 (.mv (.t 4)),
 oo 2 (.mv (.t 47))])
 (.ret))))))
def n_gram_Grammar_rules : Fn := ⟨c_gram_Grammar_rules, [.t 2], false, false⟩
theorem ok_gram_Grammar_rules : fnOf Tryd.prog eff keep f_gram_Grammar_rules = some n_gram_Grammar_rules.bare := by kernel_rfl
@[simp] theorem c_gram_Grammar_rules_l0_norm (st : St) : norm c_gram_Grammar_rules_l0 st = st.keep [1, 3, 4, 9, 10, 11] [1, 7] := rfl
def c_gram_Grammar_rules_1 : ACode :=
  .seq (.reg 0 [oo 3 (.mv (.c (.bool false)))])
 (.seq (.reg 0 [oo 4 (.load true 4 (.t 1)),
 oo 5 (.mv (.t 0)),
 oo 6 (.call true (cf f_gram_Grammar_has) [(.t 4), (.t 5)]),
 oo 7 (.un .not (.t 6)),
 oo 3 (.mv (.t 7))])
 (.ret))
def n_gram_Grammar_rules_1 : Fn := ⟨c_gram_Grammar_rules_1, [.t 3], false, false⟩
theorem ok_gram_Grammar_rules_1 : fnOf Tryd.prog eff keep f_gram_Grammar_rules_1 = some n_gram_Grammar_rules_1.bare := by kernel_rfl
def c_gram_Grammar_has : ACode :=
  .seq (.reg 0 [oo 2 (.box (.t 0)),
 oo 4 (.mv (.c (.bool false)))])
 (.seq (.seq (.reg 0 [oo 5 (.mv (.t 1)),
 oo 6 (.call true (cf f_gram_Sym_IsTerm) [(.t 5)])])
 (.cond (.t 6) (.seq (.reg 5 [oo 7 (.mv (.t 1)),
 oo 8 (.call true (cf f_gram_Sym_Place) [(.t 7)]),
 oo 9 (.fld 1 (.t 2)),
 oo 10 (.load false 1 (.t 9)),
 oo 11 (.len .sl (.t 10)),
 oo 12 (.bin .lss (.t 8) (.t 11)),
 oo 4 (.mv (.t 12))])
 (.ret)) (.skip)))
 (.keep [1, 2] [2] (.seq (.reg 5 [oo 13 (.mv (.t 1)),
 oo 14 (.call true (cf f_gram_Sym_Place) [(.t 13)]),
 oo 15 (.fld 0 (.t 2)),
 oo 16 (.load false 1 (.t 15)),
 oo 17 (.len .sl (.t 16)),
 oo 18 (.bin .lss (.t 14) (.t 17)),
 oo 4 (.mv (.t 18))])
 (.ret))))
def n_gram_Grammar_has : Fn := ⟨c_gram_Grammar_has, [.t 4], false, false⟩
theorem ok_gram_Grammar_has : fnOf Tryd.prog eff keep f_gram_Grammar_has = some n_gram_Grammar_has.bare := by kernel_rfl
def c_gram_Sym_IsTerm : ACode :=
  .seq (.reg 0 [oo 2 (.mv (.c (.bool false)))])
 (.seq (.reg 0 [oo 3 (.mv (.t 0)),
 oo 4 (.bin .lss (.t 3) (ci 0)),
 oo 2 (.mv (.t 4))])
 (.ret))
def n_gram_Sym_IsTerm : Fn := ⟨c_gram_Sym_IsTerm, [.t 2], false, false⟩
theorem ok_gram_Sym_IsTerm : fnOf Tryd.prog eff keep f_gram_Sym_IsTerm = some n_gram_Sym_IsTerm.bare := by kernel_rfl
def c_gram_Sym_Place : ACode :=
  .seq (.reg 0 [oo 2 (.mv (ci 0))])
 (.seq (.seq (.reg 0 [oo 3 (.mv (.t 0)),
 oo 4 (.call true (cf f_gram_Sym_IsTerm) [(.t 3)])])
 (.cond (.t 4) (.seq (.reg 0 [oo 5 (.mv (.t 0)),
 oo 6 (.bin .sub (ci (-1)) (.t 5)),
 oo 2 (.mv (.t 6))])
 (.ret)) (.skip)))
 (.keep [0] [] (.seq (.reg 0 [oo 7 (.mv (.t 0)),
 oo 2 (.mv (.t 7))])
 (.ret))))
def n_gram_Sym_Place : Fn := ⟨c_gram_Sym_Place, [.t 2], false, false⟩
theorem ok_gram_Sym_Place : fnOf Tryd.prog eff keep f_gram_Sym_Place = some n_gram_Sym_Place.bare := by kernel_rfl
def c_slices_ContainsFunc_gram_Sym_gram_Sym : ACode :=
  .seq (.reg 0 [oo 4 (.mv (.c (.bool false)))])
 (.seq (.reg 0 [oo 5 (.mv (.t 0)),
 oo 6 (.mv (.t 1)),
 oo 7 (.call true (cf f_slices_IndexFunc_gram_Sym_gram_Sym) [(.t 5), (.t 6)]),
 oo 8 (.bin .geq (.t 7) (ci 0)),
 oo 4 (.mv (.t 8))])
 (.ret))
def n_slices_ContainsFunc_gram_Sym_gram_Sym : Fn := ⟨c_slices_ContainsFunc_gram_Sym_gram_Sym, [.t 4], false, false⟩
theorem ok_slices_ContainsFunc_gram_Sym_gram_Sym : fnOf Tryd.prog eff keep f_slices_ContainsFunc_gram_Sym_gram_Sym = some n_slices_ContainsFunc_gram_Sym_gram_Sym.bare := by kernel_rfl
def b_slices_IndexFunc_gram_Sym_gram_Sym_l0 : ACode :=
  (.seq (.reg 0 [oo 9 (.bin .lss (.t 8) (.t 7))])
 (.seq (.cond (.t 9) (.skip) (.keep [] [] (.exit 0)))
 (.keep [0, 1, 7, 8] [] (.seq (.block 1 (.seq (.reg 0 [oo 10 (.mv (.t 8)),
 oo 5 (.mv (.t 10))])
 (.keep [0, 1, 5, 7, 8] [] (.seq (.reg 0 [oo 11 (.mv (.t 1)),
 oo 12 (.mv (.t 0)),
 oo 13 (.mv (.t 5)),
 oo 14 (.ixa 1 (.t 12) (.t 13)),
 oo 15 (.load false 1 (.t 14)),
 oo 16 (.call false (.t 11) [(.t 15)])])
 (.cond (.t 16) (.seq (.reg 0 [oo 17 (.mv (.t 5)),
 oo 4 (.mv (.t 17))])
 (.keep [4] [] (.ret))) (.skip))))))
 (.keep [0, 1, 7, 8] [] (.reg 0 [oo 18 (.bin .add (.t 8) (ci 1)),
 oo 8 (.mv (.t 18))]))))))
def c_slices_IndexFunc_gram_Sym_gram_Sym_l0 : ACode := .keep [0, 1, 7, 8] [] b_slices_IndexFunc_gram_Sym_gram_Sym_l0
def c_slices_IndexFunc_gram_Sym_gram_Sym : ACode :=
  .seq (.reg 0 [oo 4 (.mv (ci 0))])
 (.seq (.seq (.reg 0 [oo 6 (.mv (.t 0)),
 oo 7 (.len .sl (.t 6)),
 oo 8 (.mv (ci 0))])
 (.block 0 (.loop c_slices_IndexFunc_gram_Sym_gram_Sym_l0)))
 (.keep [] [] (.seq (.reg 0 [oo 4 (.mv (ci (-1)))])
 (.ret))))
def n_slices_IndexFunc_gram_Sym_gram_Sym : Fn := ⟨c_slices_IndexFunc_gram_Sym_gram_Sym, [.t 4], false, false⟩
theorem ok_slices_IndexFunc_gram_Sym_gram_Sym : fnOf Tryd.prog eff keep f_slices_IndexFunc_gram_Sym_gram_Sym = some n_slices_IndexFunc_gram_Sym_gram_Sym.bare := by kernel_rfl
@[simp] theorem c_slices_IndexFunc_gram_Sym_gram_Sym_l0_norm (st : St) : norm c_slices_IndexFunc_gram_Sym_gram_Sym_l0 st = st.keep [0, 1, 7, 8] [] := rfl
def c_units_walk_1 : ACode :=
  .seq (.reg 0 [oo 2 (.box (.t 0)),
 oo 3 (.mv (.c (.bool false)))])
 (.seq (.reg 0 [oo 4 (.load false 1 (.t 1)),
 oo 5 (.mkf f_units_walk_1_1 [(.t 2)]),
 oo 6 (.call true (cf f_slices_ContainsFunc_units_met_units_met) [(.t 4), (.t 5)]),
 oo 3 (.mv (.t 6))])
 (.ret))
def n_units_walk_1 : Fn := ⟨c_units_walk_1, [.t 3], false, false⟩
theorem ok_units_walk_1 : fnOf Tryd.prog eff keep f_units_walk_1 = some n_units_walk_1.bare := by kernel_rfl
def c_units_walk_1_1 : ACode :=
  .seq (.reg 0 [oo 2 (.box (.t 0)),
 oo 3 (.mv (.c (.bool false)))])
 (.seq (.reg 0 [oo 4 (.fld 0 (.t 2)),
 oo 5 (.load false 1 (.t 4)),
 oo 6 (.load false 1 (.t 1)),
 oo 7 (.bin .eql (.t 5) (.t 6)),
 oo 3 (.mv (.t 7))])
 (.ret))
def n_units_walk_1_1 : Fn := ⟨c_units_walk_1_1, [.t 3], false, false⟩
theorem ok_units_walk_1_1 : fnOf Tryd.prog eff keep f_units_walk_1_1 = some n_units_walk_1_1.bare := by kernel_rfl
def c_slices_ContainsFunc_units_met_units_met : ACode :=
  .seq (.reg 0 [oo 4 (.mv (.c (.bool false)))])
 (.seq (.reg 0 [oo 5 (.mv (.t 0)),
 oo 6 (.mv (.t 1)),
 oo 7 (.call true (cf f_slices_IndexFunc_units_met_units_met) [(.t 5), (.t 6)]),
 oo 8 (.bin .geq (.t 7) (ci 0)),
 oo 4 (.mv (.t 8))])
 (.ret))
def n_slices_ContainsFunc_units_met_units_met : Fn := ⟨c_slices_ContainsFunc_units_met_units_met, [.t 4], false, false⟩
theorem ok_slices_ContainsFunc_units_met_units_met : fnOf Tryd.prog eff keep f_slices_ContainsFunc_units_met_units_met = some n_slices_ContainsFunc_units_met_units_met.bare := by kernel_rfl
def b_slices_IndexFunc_units_met_units_met_l0 : ACode :=
  (.seq (.reg 0 [oo 9 (.bin .lss (.t 8) (.t 7))])
 (.seq (.cond (.t 9) (.skip) (.keep [] [] (.exit 0)))
 (.keep [0, 1, 7, 8] [] (.seq (.block 1 (.seq (.reg 0 [oo 10 (.mv (.t 8)),
 oo 5 (.mv (.t 10))])
 (.keep [0, 1, 5, 7, 8] [] (.seq (.reg 0 [oo 11 (.mv (.t 1)),
 oo 12 (.mv (.t 0)),
 oo 13 (.mv (.t 5)),
 oo 14 (.ixa 2 (.t 12) (.t 13)),
 oo 15 (.load true 2 (.t 14)),
 oo 16 (.call false (.t 11) [(.t 15)])])
 (.cond (.t 16) (.seq (.reg 0 [oo 17 (.mv (.t 5)),
 oo 4 (.mv (.t 17))])
 (.keep [4] [] (.ret))) (.skip))))))
 (.keep [0, 1, 7, 8] [] (.reg 0 [oo 18 (.bin .add (.t 8) (ci 1)),
 oo 8 (.mv (.t 18))]))))))
def c_slices_IndexFunc_units_met_units_met_l0 : ACode := .keep [0, 1, 7, 8] [] b_slices_IndexFunc_units_met_units_met_l0
def c_slices_IndexFunc_units_met_units_met : ACode :=
  .seq (.reg 0 [oo 4 (.mv (ci 0))])
 (.seq (.seq (.reg 0 [oo 6 (.mv (.t 0)),
 oo 7 (.len .sl (.t 6)),
 oo 8 (.mv (ci 0))])
 (.block 0 (.loop c_slices_IndexFunc_units_met_units_met_l0)))
 (.keep [] [] (.seq (.reg 0 [oo 4 (.mv (ci (-1)))])
 (.ret))))
def n_slices_IndexFunc_units_met_units_met : Fn := ⟨c_slices_IndexFunc_units_met_units_met, [.t 4], false, false⟩
theorem ok_slices_IndexFunc_units_met_units_met : fnOf Tryd.prog eff keep f_slices_IndexFunc_units_met_units_met = some n_slices_IndexFunc_units_met_units_met.bare := by kernel_rfl
@[simp] theorem c_slices_IndexFunc_units_met_units_met_l0_norm (st : St) : norm c_slices_IndexFunc_units_met_units_met_l0 st = st.keep [0, 1, 7, 8] [] := rfl
def b_gram_Grammar_Of_l0 : ACode :=
  (.seq (.reg 0 [oo 11 (.bin .lss (.t 10) (.t 9))])
 (.seq (.cond (.t 11) (.skip) (.keep [5] [] (.exit 0)))
 (.keep [1, 2, 260005, 9, 10] [2] (.seq (.block 1 (.seq (.reg 0 [oo 12 (.mv (.t 10)),
 oo 6 (.mv (.t 12))])
 (.seq (.reg 0 [oo 13 (.fld 3 (.t 2)),
 oo 14 (.load false 1 (.t 13)),
 oo 15 (.mv (.t 6)),
 oo 16 (.ixa 2 (.t 14) (.t 15)),
 oo 17 (.fld 0 (.t 16)),
 oo 18 (.load false 1 (.t 17)),
 oo 19 (.mv (.t 1)),
 oo 20 (.bin .eql (.t 18) (.t 19))])
 (.cond (.t 20) (.reg 0 [oo 21 (.mv (.t 5)),
 oo 22 (.mv (.t 6)),
 oo 23 (.bslice [(.int .i64 0)] 1 [(0, (.t 22))]),
 oo 24 (.app 1 (.t 21) (.t 23)),
 oo 5 (.mv (.t 24))]) (.skip)))))
 (.keep [1, 2, 260005, 9, 10] [2] (.reg 0 [oo 25 (.bin .add (.t 10) (ci 1)),
 oo 10 (.mv (.t 25))]))))))
def c_gram_Grammar_Of_l0 : ACode := .keep [1, 2, 260005, 9, 10] [2] b_gram_Grammar_Of_l0
def c_gram_Grammar_Of : ACode :=
  .seq (.reg 0 [oo 2 (.box (.t 0)),
 oo 4 (.mv (.c (.sl [] .nil)))])
 (.seq (.reg 0 [oo 5 (.mv (.c (.sl [] .nil)))])
 (.seq (.seq (.reg 0 [oo 7 (.fld 3 (.t 2)),
 oo 8 (.load false 1 (.t 7)),
 oo 9 (.len .sl (.t 8)),
 oo 10 (.mv (ci 0))])
 (.block 0 (.loop c_gram_Grammar_Of_l0)))
 (.keep [5] [] (.seq (.reg 0 [oo 26 (.mv (.t 5)),
 oo 4 (.mv (.t 26))])
 (.ret)))))
def n_gram_Grammar_Of : Fn := ⟨c_gram_Grammar_Of, [.t 4], false, false⟩
theorem ok_gram_Grammar_Of : fnOf Tryd.prog eff keep f_gram_Grammar_Of = some n_gram_Grammar_Of.bare := by kernel_rfl
@[simp] theorem c_gram_Grammar_Of_l0_norm (st : St) : norm c_gram_Grammar_Of_l0 st = st.keep [1, 2, 260005, 9, 10] [2] := rfl
def c_units_to : ACode :=
  .seq (.reg 0 [oo 1 (.box (.t 0)),
 oo 2 (.mv (ci 0))])
 (.seq (.seq (.reg 0 [oo 3 (.fld 1 (.t 1)),
 oo 4 (.load false 1 (.t 3)),
 oo 5 (.len .sl (.t 4)),
 oo 6 (.bin .neq (.t 5) (ci 1)),
 oo 7 (.mv (.t 6)),
 og 8 7 false (.fld 1 (.t 1)),
 og 9 7 false (.load false 1 (.t 8)),
 og 10 7 false (.ixa 1 (.t 9) (ci 0)),
 og 11 7 false (.load false 1 (.t 10)),
 og 12 7 false (.call true (cf f_gram_Sym_IsTerm) [(.t 11)]),
 oo 13 (.pick (.t 7) (.c (.bool true)) (.t 12))])
 (.cond (.t 13) (.seq (.reg 0 [oo 2 (.mv (ci (-1)))])
 (.ret)) (.skip)))
 (.keep [1] [1] (.seq (.reg 0 [oo 14 (.fld 1 (.t 1)),
 oo 15 (.load false 1 (.t 14)),
 oo 16 (.ixa 1 (.t 15) (ci 0)),
 oo 17 (.load false 1 (.t 16)),
 oo 18 (.call true (cf f_gram_Sym_Place) [(.t 17)]),
 oo 2 (.mv (.t 18))])
 (.ret))))
def n_units_to : Fn := ⟨c_units_to, [.t 2], false, false⟩
theorem ok_units_to : fnOf Tryd.prog eff keep f_units_to = some n_units_to.bare := by kernel_rfl
def c_slices_Clone_int_int : ACode :=
  .seq (.reg 0 [oo 2 (.mv (.c (.sl [] .nil)))])
 (.seq (.seq (.reg 0 [oo 3 (.mv (.t 0)),
 oo 4 (.eqv false .sl (.t 3) (.c (.sl [] .nil)))])
 (.cond (.t 4) (.seq (.reg 0 [oo 2 (.mv (.c (.sl [] .nil)))])
 (.ret)) (.skip)))
 (.keep [0] [] (.seq (.reg 0 [oo 5 (.bslice [(.int .i64 0)] 0 []),
 oo 6 (.mv (.t 0)),
 oo 7 (.app 1 (.t 5) (.t 6)),
 oo 2 (.mv (.t 7))])
 (.ret))))
def n_slices_Clone_int_int : Fn := ⟨c_slices_Clone_int_int, [.t 2], false, true⟩
theorem ok_slices_Clone_int_int : fnOf Tryd.prog eff keep f_slices_Clone_int_int = some n_slices_Clone_int_int.bare := by kernel_rfl
def c_law02_Awake : ACode :=
  .seq (.reg 0 [oo 0 (.mv (.c (.bool false)))])
 (.seq (.reg 0 [oo 2 (.call true (cf f_law02_Example) []),
 oo 1 (.alloc [(.sl [] .nil), (.sl [] .nil), (.int .i64 0), (.sl [] .nil)]),
 ox (.store 4 (.t 1) (.t 2))])
 (.seq (.reg 0 [oo 3 (.call true (cf f_law01_Awake) []),
 oo 4 (.mv (.t 3)),
 og 5 4 true (.load true 4 (.t 1)),
 og 6 4 true (.call true (cf f_gram_Grammar_Check) [(.t 5)]),
 og 7 4 true (.bin .eql (.t 6) (ci 0)),
 oo 8 (.pick (.t 4) (.t 7) (.c (.bool false))),
 oo 9 (.mv (.t 8)),
 og 10 9 true (.load true 4 (.t 1)),
 og 11 9 true (.call true (cf f_gram_Grammar_Size) [(.t 10)]),
 og 12 9 true (.bin .eql (.t 11) (ci 4)),
 oo 13 (.pick (.t 9) (.t 12) (.c (.bool false))),
 oo 14 (.mv (.t 13)),
 og 15 14 true (.load true 4 (.t 1)),
 og 16 14 true (.call true (cf f_gram_Grammar_Text) [(.t 15), (ci (-1))]),
 og 17 14 true (.bin .eql (.t 16) (.c (.str ⟨#[34, 97, 34]⟩))),
 oo 18 (.pick (.t 14) (.t 17) (.c (.bool false))),
 oo 19 (.mv (.t 18)),
 og 20 19 true (.load true 4 (.t 1)),
 og 21 19 true (.call true (cf f_gram_Grammar_Text) [(.t 20), (ci 0)]),
 og 22 19 true (.bin .eql (.t 21) (.c (.str ⟨#[60, 83, 62]⟩))),
 oo 23 (.pick (.t 19) (.t 22) (.c (.bool false))),
 oo 0 (.mv (.t 23))])
 (.ret)))
def n_law02_Awake : Fn := ⟨c_law02_Awake, [.t 0], false, false⟩
theorem ok_law02_Awake : fnOf Tryd.prog eff keep f_law02_Awake = some n_law02_Awake.bare := by kernel_rfl
def c_law02_Example : ACode :=
  .seq (.reg 0 [oo 0 (.alloc [(.sl [] .nil), (.sl [] .nil), (.int .i64 0), (.sl [] .nil)])])
 (.seq (.reg 0 [oo 1 (.bslice [(.str ⟨#[]⟩)] 1 [(0, (.c (.str ⟨#[83]⟩)))]),
 oo 2 (.bslice [(.str ⟨#[]⟩)] 1 [(0, (.c (.str ⟨#[97]⟩)))]),
 oo 3 (.bslice [(.int .i64 0)] 2 [(0, (ci (-1))), (1, (ci 0))]),
 oo 4 (.build [(.int .i64 0), (.sl [] .nil)] [(0, 1, (ci 0)), (1, 1, (.t 3))]),
 oo 5 (.build [(.int .i64 0), (.sl [] .nil)] [(0, 1, (ci 0))]),
 oo 6 (.bslice [(.int .i64 0), (.sl [] .nil)] 2 [(0, (.t 4)), (1, (.t 5))]),
 oo 7 (.build [(.sl [] .nil), (.sl [] .nil), (.int .i64 0), (.sl [] .nil)] [(0, 1, (.t 1)), (1, 1, (.t 2)), (3, 1, (.t 6))]),
 ox (.store 4 (.t 0) (.t 7))])
 (.ret))
def n_law02_Example : Fn := ⟨c_law02_Example, [.c 0 4 true], false, false⟩
theorem ok_law02_Example : fnOf Tryd.prog eff keep f_law02_Example = some n_law02_Example.bare := by kernel_rfl
def c_law01_Awake : ACode :=
  .seq (.reg 0 [oo 0 (.mv (.c (.bool false)))])
 (.seq (.reg 0 [oo 1 (.call true (cf f_names_Quote) [(.c (.str ⟨#[97, 34, 98]⟩))]),
 oo 2 (.bin .eql (.t 1) (.c (.str ⟨#[34, 97, 92, 34, 98, 34]⟩))),
 oo 3 (.mv (.t 2)),
 og 4 3 true (.bslice [(.str ⟨#[]⟩)] 2 [(0, (.c (.str ⟨#[83]⟩))), (1, (.c (.str ⟨#[83, 45, 49]⟩)))]),
 og 5 3 true (.call true (cf f_names_Fresh) [(.t 4), (.c (.str ⟨#[83]⟩))]),
 og 6 3 true (.bin .eql (.t 5) (.c (.str ⟨#[83, 45, 50]⟩))),
 oo 7 (.pick (.t 3) (.t 6) (.c (.bool false))),
 oo 8 (.mv (.t 7)),
 og 9 8 true (.call true (cf f_names_Name) [(.c (.str ⟨#[97, 45, 49]⟩))]),
 oo 10 (.pick (.t 8) (.t 9) (.c (.bool false))),
 oo 11 (.mv (.t 10)),
 og 12 11 true (.call true (cf f_names_Name) [(.c (.str ⟨#[49, 97]⟩))]),
 og 13 11 true (.un .not (.t 12)),
 oo 14 (.pick (.t 11) (.t 13) (.c (.bool false))),
 oo 0 (.mv (.t 14))])
 (.ret))
def n_law01_Awake : Fn := ⟨c_law01_Awake, [.t 0], false, false⟩
theorem ok_law01_Awake : fnOf Tryd.prog eff keep f_law01_Awake = some n_law01_Awake.bare := by kernel_rfl
def b_names_Fresh_l0 : ACode :=
  (.seq (.block 1 (.seq (.reg 0 [oo 15 (.mv (.t 1)),
 oo 16 (.mv (.t 5)),
 oo 17 (.call true (cf f_strconv_Itoa) [(.t 16)]),
 oo 18 (.bin .add (.t 15) (.t 17)),
 oo 6 (.mv (.t 18))])
 (.seq (.reg 0 [oo 19 (.mv (.t 0)),
 oo 20 (.mv (.t 6)),
 oo 21 (.call true (cf f_slices_Contains_string_string) [(.t 19), (.t 20)]),
 oo 22 (.un .not (.t 21))])
 (.cond (.t 22) (.seq (.reg 0 [oo 23 (.mv (.t 6)),
 oo 4 (.mv (.t 23))])
 (.keep [4] [] (.ret))) (.skip)))))
 (.keep [0, 1, 5] [] (.reg 0 [oo 13 (.mv (.t 5)),
 oo 14 (.bin .add (.t 13) (ci 1)),
 oo 5 (.mv (.t 14))])))
def c_names_Fresh_l0 : ACode := .keep [0, 1, 5] [] b_names_Fresh_l0
def c_names_Fresh : ACode :=
  .seq (.reg 0 [oo 4 (.mv (.c (.str ⟨#[]⟩)))])
 (.seq (.reg 0 [oo 7 (.mv (.t 1)),
 oo 8 (.mv (.t 1)),
 oo 9 (.len .s (.t 8)),
 oo 10 (.min [(.t 9), (ci 32)]),
 oo 11 (.slS (.t 7) none (some (.t 10))),
 oo 12 (.bin .add (.t 11) (.c (.str ⟨#[45]⟩))),
 oo 1 (.mv (.t 12))])
 (.seq (.reg 0 [oo 5 (.mv (ci 1))])
 (.block 0 (.loop c_names_Fresh_l0))))
def n_names_Fresh : Fn := ⟨c_names_Fresh, [.t 4], false, false⟩
theorem ok_names_Fresh : fnOf Tryd.prog eff keep f_names_Fresh = some n_names_Fresh.bare := by kernel_rfl
@[simp] theorem c_names_Fresh_l0_norm (st : St) : norm c_names_Fresh_l0 st = st.keep [0, 1, 5] [] := rfl
def c_slices_Contains_string_string : ACode :=
  .seq (.reg 0 [oo 4 (.mv (.c (.bool false)))])
 (.seq (.reg 0 [oo 5 (.mv (.t 0)),
 oo 6 (.mv (.t 1)),
 oo 7 (.call true (cf f_slices_Index_string_string) [(.t 5), (.t 6)]),
 oo 8 (.bin .geq (.t 7) (ci 0)),
 oo 4 (.mv (.t 8))])
 (.ret))
def n_slices_Contains_string_string : Fn := ⟨c_slices_Contains_string_string, [.t 4], false, false⟩
theorem ok_slices_Contains_string_string : fnOf Tryd.prog eff keep f_slices_Contains_string_string = some n_slices_Contains_string_string.bare := by kernel_rfl
def b_slices_Index_string_string_l0 : ACode :=
  (.seq (.reg 0 [oo 9 (.bin .lss (.t 8) (.t 7))])
 (.seq (.cond (.t 9) (.skip) (.keep [] [] (.exit 0)))
 (.keep [0, 1, 7, 8] [] (.seq (.block 1 (.seq (.reg 0 [oo 10 (.mv (.t 8)),
 oo 5 (.mv (.t 10))])
 (.seq (.reg 0 [oo 11 (.mv (.t 1)),
 oo 12 (.mv (.t 0)),
 oo 13 (.mv (.t 5)),
 oo 14 (.ixa 1 (.t 12) (.t 13)),
 oo 15 (.load false 1 (.t 14)),
 oo 16 (.bin .eql (.t 11) (.t 15))])
 (.cond (.t 16) (.seq (.reg 0 [oo 17 (.mv (.t 5)),
 oo 4 (.mv (.t 17))])
 (.keep [4] [] (.ret))) (.skip)))))
 (.keep [0, 1, 7, 8] [] (.reg 0 [oo 18 (.bin .add (.t 8) (ci 1)),
 oo 8 (.mv (.t 18))]))))))
def c_slices_Index_string_string_l0 : ACode := .keep [0, 1, 7, 8] [] b_slices_Index_string_string_l0
def c_slices_Index_string_string : ACode :=
  .seq (.reg 0 [oo 4 (.mv (ci 0))])
 (.seq (.seq (.reg 0 [oo 6 (.mv (.t 0)),
 oo 7 (.len .sl (.t 6)),
 oo 8 (.mv (ci 0))])
 (.block 0 (.loop c_slices_Index_string_string_l0)))
 (.keep [] [] (.seq (.reg 0 [oo 4 (.mv (ci (-1)))])
 (.ret))))
def n_slices_Index_string_string : Fn := ⟨c_slices_Index_string_string, [.t 4], false, false⟩
theorem ok_slices_Index_string_string : fnOf Tryd.prog eff keep f_slices_Index_string_string = some n_slices_Index_string_string.bare := by kernel_rfl
@[simp] theorem c_slices_Index_string_string_l0_norm (st : St) : norm c_slices_Index_string_string_l0 st = st.keep [0, 1, 7, 8] [] := rfl
def b_gram_Grammar_Size_l0 : ACode :=
  (.seq (.reg 0 [oo 10 (.bin .lss (.t 9) (.t 8))])
 (.seq (.cond (.t 10) (.skip) (.keep [3] [] (.exit 0)))
 (.keep [3, 7, 8, 9] [] (.seq (.block 1 (.seq (.reg 0 [oo 11 (.ixa 2 (.t 7) (.t 9)),
 oo 12 (.load true 2 (.t 11)),
 oo 5 (.alloc [(.int .i64 0), (.sl [] .nil)]),
 ox (.store 2 (.t 5) (.t 12))])
 (.reg 0 [oo 13 (.mv (.t 3)),
 oo 14 (.fld 1 (.t 5)),
 oo 15 (.load false 1 (.t 14)),
 oo 16 (.len .sl (.t 15)),
 oo 17 (.bin .add (ci 1) (.t 16)),
 oo 18 (.bin .add (.t 13) (.t 17)),
 oo 3 (.mv (.t 18))])))
 (.keep [3, 7, 8, 9] [] (.reg 0 [oo 19 (.bin .add (.t 9) (ci 1)),
 oo 9 (.mv (.t 19))]))))))
def c_gram_Grammar_Size_l0 : ACode := .keep [3, 7, 8, 9] [] b_gram_Grammar_Size_l0
def c_gram_Grammar_Size : ACode :=
  .seq (.reg 0 [oo 1 (.box (.t 0)),
 oo 2 (.mv (ci 0))])
 (.seq (.reg 0 [oo 3 (.mv (ci 0))])
 (.seq (.seq (.reg 0 [oo 6 (.fld 3 (.t 1)),
 oo 7 (.load false 1 (.t 6)),
 oo 8 (.len .sl (.t 7)),
 oo 9 (.mv (ci 0))])
 (.block 0 (.loop c_gram_Grammar_Size_l0)))
 (.keep [3] [] (.seq (.reg 0 [oo 20 (.mv (.t 3)),
 oo 2 (.mv (.t 20))])
 (.ret)))))
def n_gram_Grammar_Size : Fn := ⟨c_gram_Grammar_Size, [.t 2], false, false⟩
theorem ok_gram_Grammar_Size : fnOf Tryd.prog eff keep f_gram_Grammar_Size = some n_gram_Grammar_Size.bare := by kernel_rfl
@[simp] theorem c_gram_Grammar_Size_l0_norm (st : St) : norm c_gram_Grammar_Size_l0 st = st.keep [3, 7, 8, 9] [] := rfl
def c_gram_Grammar_Text : ACode :=
  .seq (.reg 0 [oo 2 (.box (.t 0)),
 oo 4 (.mv (.c (.str ⟨#[]⟩)))])
 (.seq (.block 0 (.seq (.reg 0 [oo 6 (.load true 4 (.t 2)),
 oo 7 (.mv (.t 1)),
 oo 8 (.call true (cf f_gram_Grammar_has) [(.t 6), (.t 7)]),
 oo 9 (.un .not (.t 8)),
 oo 5 (.mv (.t 9))])
 (.cond (.t 5) (.seq (.reg 0 [oo 4 (.mv (.c (.str ⟨#[]⟩)))])
 (.ret)) (.seq (.reg 0 [oo 11 (.mv (.t 1)),
 oo 12 (.call true (cf f_gram_Sym_IsTerm) [(.t 11)]),
 oo 10 (.mv (.t 12))])
 (.cond (.t 10) (.seq (.reg 4 [oo 13 (.fld 1 (.t 2)),
 oo 14 (.load false 1 (.t 13)),
 oo 15 (.mv (.t 1)),
 oo 16 (.call true (cf f_gram_Sym_Place) [(.t 15)]),
 oo 17 (.ixa 1 (.t 14) (.t 16)),
 oo 18 (.load false 1 (.t 17)),
 oo 19 (.call true (cf f_names_Quote) [(.t 18)]),
 oo 4 (.mv (.t 19))])
 (.ret)) (.skip))))))
 (.keep [1, 2] [2] (.seq (.reg 0 [oo 20 (.fld 0 (.t 2)),
 oo 21 (.load false 1 (.t 20)),
 oo 22 (.mv (.t 1)),
 oo 23 (.ixa 1 (.t 21) (.t 22)),
 oo 24 (.load false 1 (.t 23)),
 oo 25 (.bin .add (.c (.str ⟨#[60]⟩)) (.t 24)),
 oo 26 (.bin .add (.t 25) (.c (.str ⟨#[62]⟩))),
 oo 4 (.mv (.t 26))])
 (.ret))))
def n_gram_Grammar_Text : Fn := ⟨c_gram_Grammar_Text, [.t 4], false, false⟩
theorem ok_gram_Grammar_Text : fnOf Tryd.prog eff keep f_gram_Grammar_Text = some n_gram_Grammar_Text.bare := by kernel_rfl
def b_units_From_l0 : ACode :=
  (.seq (.reg 0 [oo 13 (.bin .lss (.t 12) (.t 11))])
 (.seq (.cond (.t 13) (.skip) (.keep [5] [] (.exit 0)))
 (.keep [220005, 10, 11, 12] [] (.seq (.block 1 (.seq (.reg 0 [oo 14 (.ixa 2 (.t 10) (.t 12)),
 oo 15 (.load true 2 (.t 14)),
 oo 7 (.alloc [(.int .i64 0), (.sl [] .nil)]),
 ox (.store 2 (.t 7) (.t 15))])
 (.reg 0 [oo 16 (.mv (.t 5)),
 oo 17 (.fld 0 (.t 7)),
 oo 18 (.load false 1 (.t 17)),
 oo 19 (.bslice [(.int .i64 0)] 1 [(0, (.t 18))]),
 oo 20 (.app 1 (.t 16) (.t 19)),
 oo 5 (.mv (.t 20))])))
 (.keep [220005, 10, 11, 12] [] (.reg 0 [oo 21 (.bin .add (.t 12) (ci 1)),
 oo 12 (.mv (.t 21))]))))))
def c_units_From_l0 : ACode := .keep [220005, 10, 11, 12] [] b_units_From_l0
def c_units_From : ACode :=
  .seq (.reg 0 [oo 2 (.box (.t 0)),
 oo 4 (.mv (.c (.sl [] .nil)))])
 (.seq (.reg 0 [oo 5 (.mv (.c (.sl [] .nil)))])
 (.seq (.seq (.reg 0 [oo 8 (.load true 4 (.t 2)),
 oo 9 (.mv (.t 1)),
 oo 10 (.call true (cf f_units_walk) [(.t 8), (.t 9)]),
 oo 11 (.len .sl (.t 10)),
 oo 12 (.mv (ci 0))])
 (.block 0 (.loop c_units_From_l0)))
 (.keep [5] [] (.seq (.reg 0 [oo 22 (.mv (.t 5)),
 oo 4 (.mv (.t 22))])
 (.ret)))))
def n_units_From : Fn := ⟨c_units_From, [.t 4], false, false⟩
theorem ok_units_From : fnOf Tryd.prog eff keep f_units_From = some n_units_From.bare := by kernel_rfl
@[simp] theorem c_units_From_l0_norm (st : St) : norm c_units_From_l0 st = st.keep [220005, 10, 11, 12] [] := rfl
def b_law10_ints_l0 : ACode :=
  (.seq (.reg 0 [oo 14 (.bin .lss (.t 13) (.t 12))])
 (.seq (.cond (.t 14) (.skip) (.keep [] [] (.exit 0)))
 (.keep [0, 1, 12, 13] [] (.seq (.block 1 (.seq (.reg 0 [oo 15 (.mv (.t 13)),
 oo 5 (.mv (.t 15))])
 (.seq (.reg 8 [oo 16 (.mv (.t 0)),
 oo 17 (.mv (.t 5)),
 oo 18 (.ixa 1 (.t 16) (.t 17)),
 oo 19 (.load false 1 (.t 18)),
 oo 20 (.mv (.t 1)),
 oo 21 (.mv (.t 5)),
 oo 22 (.ixa 1 (.t 20) (.t 21)),
 oo 23 (.load false 1 (.t 22)),
 oo 24 (.bin .neq (.t 19) (.t 23))])
 (.cond (.t 24) (.seq (.reg 0 [oo 4 (.mv (.c (.bool false)))])
 (.keep [4] [] (.ret))) (.skip)))))
 (.keep [0, 1, 12, 13] [] (.reg 0 [oo 25 (.bin .add (.t 13) (ci 1)),
 oo 13 (.mv (.t 25))]))))))
def c_law10_ints_l0 : ACode := .keep [0, 1, 12, 13] [] b_law10_ints_l0
def c_law10_ints : ACode :=
  .seq (.reg 0 [oo 4 (.mv (.c (.bool false)))])
 (.seq (.seq (.reg 0 [oo 6 (.mv (.t 0)),
 oo 7 (.len .sl (.t 6)),
 oo 8 (.mv (.t 1)),
 oo 9 (.len .sl (.t 8)),
 oo 10 (.bin .neq (.t 7) (.t 9))])
 (.cond (.t 10) (.seq (.reg 0 [oo 4 (.mv (.c (.bool false)))])
 (.ret)) (.skip)))
 (.keep [0, 1] [] (.seq (.seq (.reg 0 [oo 11 (.mv (.t 0)),
 oo 12 (.len .sl (.t 11)),
 oo 13 (.mv (ci 0))])
 (.block 0 (.loop c_law10_ints_l0)))
 (.keep [] [] (.seq (.reg 0 [oo 4 (.mv (.c (.bool true)))])
 (.ret))))))
def n_law10_ints : Fn := ⟨c_law10_ints, [.t 4], false, false⟩
theorem ok_law10_ints : fnOf Tryd.prog eff keep f_law10_ints = some n_law10_ints.bare := by kernel_rfl
@[simp] theorem c_law10_ints_l0_norm (st : St) : norm c_law10_ints_l0 st = st.keep [0, 1, 12, 13] [] := rfl
def c_law02_May : ACode :=
  .seq (.reg 0 [oo 1 (.box (.t 0)),
 oo 2 (.mv (.c (.bool false)))])
 (.seq (.reg 0 [oo 3 (.load true 4 (.t 1)),
 oo 4 (.call true (cf f_law02_Of) [(.t 3)]),
 oo 5 (.call true (cf f_ref02_Check) [(.t 4)]),
 oo 6 (.bin .eql (.t 5) (ci 0)),
 oo 2 (.mv (.t 6))])
 (.ret))
def n_law02_May : Fn := ⟨c_law02_May, [.t 2], false, false⟩
theorem ok_law02_May : fnOf Tryd.prog eff keep f_law02_May = some n_law02_May.bare := by kernel_rfl
def b_law02_Of_l0 : ACode :=
  (.seq (.reg 0 [oo 17 (.bin .lss (.t 16) (.t 15))])
 (.seq (.cond (.t 17) (.skip) (.keep [2, 3] [2, 3] (.exit 0)))
 (.keep [2, 3, 14, 15, 16] [2, 3] (.seq (.block 1 (.seq (.reg 0 [oo 18 (.ixa 2 (.t 14) (.t 16)),
 oo 19 (.load true 2 (.t 18)),
 oo 5 (.alloc [(.int .i64 0), (.sl [] .nil)]),
 ox (.store 2 (.t 5) (.t 19))])
 (.reg 5 [oo 20 (.fld 3 (.t 3)),
 oo 21 (.load false 1 (.t 20)),
 oo 22 (.load true 2 (.t 5)),
 oo 23 (.call true (cf f_law02_OfRule) [(.t 22)]),
 oo 24 (.bslice [(.int .i64 0), (.sl [] .nil)] 1 [(0, (.t 23))]),
 oo 25 (.app 2 (.t 21) (.t 24)),
 oo 26 (.fld 3 (.t 3)),
 ox (.store 1 (.t 26) (.t 25))])))
 (.keep [2, 3, 14, 15, 16] [2, 3] (.reg 0 [oo 27 (.bin .add (.t 16) (ci 1)),
 oo 16 (.mv (.t 27))]))))))
def c_law02_Of_l0 : ACode := .keep [2, 3, 14, 15, 16] [2, 3] b_law02_Of_l0
def c_law02_Of : ACode :=
  .seq (.reg 0 [oo 1 (.box (.t 0)),
 oo 2 (.alloc [(.sl [] .nil), (.sl [] .nil), (.int .i64 0), (.sl [] .nil)])])
 (.seq (.reg 0 [oo 6 (.fld 0 (.t 1)),
 oo 7 (.load false 1 (.t 6)),
 oo 8 (.fld 1 (.t 1)),
 oo 9 (.load false 1 (.t 8)),
 oo 10 (.fld 2 (.t 1)),
 oo 11 (.load false 1 (.t 10)),
 oo 12 (.build [(.sl [] .nil), (.sl [] .nil), (.int .i64 0), (.sl [] .nil)] [(0, 1, (.t 7)), (1, 1, (.t 9)), (2, 1, (.t 11))]),
 oo 3 (.alloc [(.sl [] .nil), (.sl [] .nil), (.int .i64 0), (.sl [] .nil)]),
 ox (.store 4 (.t 3) (.t 12))])
 (.seq (.seq (.reg 0 [oo 13 (.fld 3 (.t 1)),
 oo 14 (.load false 1 (.t 13)),
 oo 15 (.len .sl (.t 14)),
 oo 16 (.mv (ci 0))])
 (.block 0 (.loop c_law02_Of_l0)))
 (.keep [2, 3] [2, 3] (.seq (.reg 0 [oo 28 (.load true 4 (.t 3)),
 ox (.store 4 (.t 2) (.t 28))])
 (.ret)))))
def n_law02_Of : Fn := ⟨c_law02_Of, [.c 2 4 true], false, false⟩
theorem ok_law02_Of : fnOf Tryd.prog eff keep f_law02_Of = some n_law02_Of.bare := by kernel_rfl
@[simp] theorem c_law02_Of_l0_norm (st : St) : norm c_law02_Of_l0 st = st.keep [2, 3, 14, 15, 16] [2, 3] := rfl
def b_law02_OfRule_l0 : ACode :=
  (.seq (.reg 0 [oo 13 (.bin .lss (.t 12) (.t 11))])
 (.seq (.cond (.t 13) (.skip) (.keep [2, 3] [2, 3] (.exit 0)))
 (.keep [2, 3, 10, 11, 12] [2, 3] (.seq (.block 1 (.seq (.reg 0 [oo 14 (.ixa 1 (.t 10) (.t 12)),
 oo 15 (.load false 1 (.t 14)),
 oo 5 (.mv (.t 15))])
 (.reg 0 [oo 16 (.fld 1 (.t 3)),
 oo 17 (.load false 1 (.t 16)),
 oo 18 (.mv (.t 5)),
 oo 19 (.bslice [(.int .i64 0)] 1 [(0, (.t 18))]),
 oo 20 (.app 1 (.t 17) (.t 19)),
 oo 21 (.fld 1 (.t 3)),
 ox (.store 1 (.t 21) (.t 20))])))
 (.keep [2, 3, 10, 11, 12] [2, 3] (.reg 0 [oo 22 (.bin .add (.t 12) (ci 1)),
 oo 12 (.mv (.t 22))]))))))
def c_law02_OfRule_l0 : ACode := .keep [2, 3, 10, 11, 12] [2, 3] b_law02_OfRule_l0
def c_law02_OfRule : ACode :=
  .seq (.reg 0 [oo 1 (.box (.t 0)),
 oo 2 (.alloc [(.int .i64 0), (.sl [] .nil)])])
 (.seq (.reg 0 [oo 6 (.fld 0 (.t 1)),
 oo 7 (.load false 1 (.t 6)),
 oo 8 (.build [(.int .i64 0), (.sl [] .nil)] [(0, 1, (.t 7))]),
 oo 3 (.alloc [(.int .i64 0), (.sl [] .nil)]),
 ox (.store 2 (.t 3) (.t 8))])
 (.seq (.seq (.reg 0 [oo 9 (.fld 1 (.t 1)),
 oo 10 (.load false 1 (.t 9)),
 oo 11 (.len .sl (.t 10)),
 oo 12 (.mv (ci 0))])
 (.block 0 (.loop c_law02_OfRule_l0)))
 (.keep [2, 3] [2, 3] (.seq (.reg 0 [oo 23 (.load true 2 (.t 3)),
 ox (.store 2 (.t 2) (.t 23))])
 (.ret)))))
def n_law02_OfRule : Fn := ⟨c_law02_OfRule, [.c 2 2 true], false, false⟩
theorem ok_law02_OfRule : fnOf Tryd.prog eff keep f_law02_OfRule = some n_law02_OfRule.bare := by kernel_rfl
@[simp] theorem c_law02_OfRule_l0_norm (st : St) : norm c_law02_OfRule_l0 st = st.keep [2, 3, 10, 11, 12] [2, 3] := rfl
end Go.Proofs.YtlacnkjkcikodaaDoor.Am
end
section
set_option linter.unusedVariables false
set_option maxRecDepth 1000000
namespace Go.Proofs.YtlacnkjkcikodaaDoor.Am
open Go
def b_ref02_Check_l0 : ACode :=
  (.seq (.seq (.reg 0 [oo 31 (.mv (.t 3)),
 oo 32 (.fld 0 (.t 1)),
 oo 33 (.load false 1 (.t 32)),
 oo 34 (.len .sl (.t 33)),
 oo 35 (.bin .lss (.t 31) (.t 34))])
 (.cond (.t 35) (.skip) (.keep [1] [1] (.exit 0))))
 (.keep [1, 3] [1] (.seq (.block 1 (.seq (.reg 0 [oo 38 (.fld 0 (.t 1)),
 oo 39 (.load false 1 (.t 38)),
 oo 40 (.mv (.t 3)),
 oo 41 (.ixa 1 (.t 39) (.t 40)),
 oo 42 (.load false 1 (.t 41)),
 oo 43 (.call true (cf f_ref01_Name) [(.t 42)]),
 oo 44 (.un .not (.t 43))])
 (.cond (.t 44) (.seq (.reg 0 [oo 2 (.mv (ci 1))])
 (.keep [2] [] (.ret))) (.skip))))
 (.keep [1, 3] [1] (.reg 0 [oo 36 (.mv (.t 3)),
 oo 37 (.bin .add (.t 36) (ci 1)),
 oo 3 (.mv (.t 37))])))))
def c_ref02_Check_l0 : ACode := .keep [1, 3] [1] b_ref02_Check_l0
def b_ref02_Check_l1 : ACode :=
  (.seq (.seq (.reg 0 [oo 45 (.mv (.t 4)),
 oo 46 (.fld 1 (.t 1)),
 oo 47 (.load false 1 (.t 46)),
 oo 48 (.len .sl (.t 47)),
 oo 49 (.bin .lss (.t 45) (.t 48))])
 (.cond (.t 49) (.skip) (.keep [1] [1] (.exit 2))))
 (.keep [1, 4] [1] (.seq (.block 3 (.seq (.reg 0 [oo 52 (.fld 1 (.t 1)),
 oo 53 (.load false 1 (.t 52)),
 oo 54 (.mv (.t 4)),
 oo 55 (.ixa 1 (.t 53) (.t 54)),
 oo 56 (.load false 1 (.t 55)),
 oo 57 (.call true (cf f_ref01_Mark) [(.t 56)]),
 oo 58 (.un .not (.t 57))])
 (.cond (.t 58) (.seq (.reg 0 [oo 2 (.mv (ci 1))])
 (.keep [2] [] (.ret))) (.skip))))
 (.keep [1, 4] [1] (.reg 0 [oo 50 (.mv (.t 4)),
 oo 51 (.bin .add (.t 50) (ci 1)),
 oo 4 (.mv (.t 51))])))))
def c_ref02_Check_l1 : ACode := .keep [1, 4] [1] b_ref02_Check_l1
def b_ref02_Check_l2 : ACode :=
  (.seq (.seq (.reg 0 [oo 101 (.mv (.t 7)),
 oo 102 (.fld 1 (.t 6)),
 oo 103 (.load false 1 (.t 102)),
 oo 104 (.len .sl (.t 103)),
 oo 105 (.bin .lss (.t 101) (.t 104))])
 (.cond (.t 105) (.skip) (.keep [1, 5, 6] [1, 6] (.exit 6))))
 (.keep [1, 5, 6, 7] [1, 6] (.seq (.block 7 (.seq (.reg 6 [oo 108 (.load true 4 (.t 1)),
 oo 109 (.fld 1 (.t 6)),
 oo 110 (.load false 1 (.t 109)),
 oo 111 (.mv (.t 7)),
 oo 112 (.ixa 1 (.t 110) (.t 111)),
 oo 113 (.load false 1 (.t 112)),
 oo 114 (.call true (cf f_ref02_Has) [(.t 108), (.t 113)]),
 oo 115 (.un .not (.t 114))])
 (.cond (.t 115) (.seq (.reg 0 [oo 2 (.mv (ci 3))])
 (.keep [2] [] (.ret))) (.skip))))
 (.keep [1, 5, 6, 7] [1, 6] (.reg 0 [oo 106 (.mv (.t 7)),
 oo 107 (.bin .add (.t 106) (ci 1)),
 oo 7 (.mv (.t 107))])))))
def c_ref02_Check_l2 : ACode := .keep [1, 5, 6, 7] [1, 6] b_ref02_Check_l2
def b_ref02_Check_l3 : ACode :=
  (.seq (.seq (.reg 0 [oo 78 (.mv (.t 5)),
 oo 79 (.fld 3 (.t 1)),
 oo 80 (.load false 1 (.t 79)),
 oo 81 (.len .sl (.t 80)),
 oo 82 (.bin .lss (.t 78) (.t 81))])
 (.cond (.t 82) (.skip) (.keep [1] [1] (.exit 4))))
 (.keep [1, 5] [1] (.seq (.block 5 (.seq (.reg 0 [oo 85 (.fld 3 (.t 1)),
 oo 86 (.load false 1 (.t 85)),
 oo 87 (.mv (.t 5)),
 oo 88 (.ixa 2 (.t 86) (.t 87)),
 oo 89 (.load true 2 (.t 88)),
 oo 6 (.alloc [(.int .i64 0), (.sl [] .nil)]),
 ox (.store 2 (.t 6) (.t 89))])
 (.seq (.seq (.reg 0 [oo 90 (.fld 0 (.t 6)),
 oo 91 (.load false 1 (.t 90)),
 oo 92 (.bin .lss (.t 91) (ci 0)),
 oo 93 (.mv (.t 92)),
 og 94 93 false (.fld 0 (.t 6)),
 og 95 93 false (.load false 1 (.t 94)),
 og 96 93 false (.fld 0 (.t 1)),
 og 97 93 false (.load false 1 (.t 96)),
 og 98 93 false (.len .sl (.t 97)),
 og 99 93 false (.bin .geq (.t 95) (.t 98)),
 oo 100 (.pick (.t 93) (.c (.bool true)) (.t 99))])
 (.cond (.t 100) (.seq (.reg 0 [oo 2 (.mv (ci 3))])
 (.keep [2] [] (.ret))) (.skip)))
 (.keep [1, 5, 6] [1, 6] (.seq (.seq (.reg 0 [oo 7 (.mv (ci 0))])
 (.block 6 (.loop c_ref02_Check_l2)))
 (.keep [1, 5, 6] [1, 6] (.seq (.reg 0 [oo 116 (.fld 1 (.t 6)),
 oo 117 (.load false 1 (.t 116)),
 oo 118 (.len .sl (.t 117)),
 oo 119 (.bin .gtr (.t 118) (ci 64))])
 (.cond (.t 119) (.seq (.reg 0 [oo 2 (.mv (ci 5))])
 (.keep [2] [] (.ret))) (.skip)))))))))
 (.keep [1, 5] [1] (.reg 0 [oo 83 (.mv (.t 5)),
 oo 84 (.bin .add (.t 83) (ci 1)),
 oo 5 (.mv (.t 84))])))))
def c_ref02_Check_l3 : ACode := .keep [1, 5] [1] b_ref02_Check_l3
def b_ref02_Check_l4 : ACode :=
  (.seq (.seq (.reg 0 [oo 120 (.mv (.t 8)),
 oo 121 (.fld 3 (.t 1)),
 oo 122 (.load false 1 (.t 121)),
 oo 123 (.len .sl (.t 122)),
 oo 124 (.bin .lss (.t 120) (.t 123))])
 (.cond (.t 124) (.skip) (.keep [] [] (.exit 8))))
 (.keep [1, 8] [1] (.seq (.block 9 (.seq (.reg 9 [oo 127 (.fld 3 (.t 1)),
 oo 128 (.load false 1 (.t 127)),
 oo 129 (.fld 3 (.t 1)),
 oo 130 (.load false 1 (.t 129)),
 oo 131 (.mv (.t 8)),
 oo 132 (.ixa 2 (.t 130) (.t 131)),
 oo 133 (.load true 2 (.t 132)),
 oo 134 (.call true (cf f_ref02_Find) [(.t 128), (.t 133)]),
 oo 135 (.mv (.t 8)),
 oo 136 (.bin .lss (.t 134) (.t 135))])
 (.cond (.t 136) (.seq (.reg 0 [oo 2 (.mv (ci 2))])
 (.keep [2] [] (.ret))) (.skip))))
 (.keep [1, 8] [1] (.reg 0 [oo 125 (.mv (.t 8)),
 oo 126 (.bin .add (.t 125) (ci 1)),
 oo 8 (.mv (.t 126))])))))
def c_ref02_Check_l4 : ACode := .keep [1, 8] [1] b_ref02_Check_l4
def c_ref02_Check : ACode :=
  .seq (.reg 0 [oo 1 (.box (.t 0)),
 oo 2 (.mv (ci 0))])
 (.seq (.seq (.reg 0 [oo 9 (.fld 0 (.t 1)),
 oo 10 (.load false 1 (.t 9)),
 oo 11 (.len .sl (.t 10)),
 oo 12 (.bin .lss (.t 11) (ci 1)),
 oo 13 (.mv (.t 12)),
 og 14 13 false (.fld 0 (.t 1)),
 og 15 13 false (.load false 1 (.t 14)),
 og 16 13 false (.len .sl (.t 15)),
 og 17 13 false (.bin .gtr (.t 16) (ci 2048)),
 oo 18 (.pick (.t 13) (.c (.bool true)) (.t 17)),
 oo 19 (.mv (.t 18)),
 og 20 19 false (.fld 1 (.t 1)),
 og 21 19 false (.load false 1 (.t 20)),
 og 22 19 false (.len .sl (.t 21)),
 og 23 19 false (.bin .gtr (.t 22) (ci 2048)),
 oo 24 (.pick (.t 19) (.c (.bool true)) (.t 23)),
 oo 25 (.mv (.t 24)),
 og 26 25 false (.fld 3 (.t 1)),
 og 27 25 false (.load false 1 (.t 26)),
 og 28 25 false (.len .sl (.t 27)),
 og 29 25 false (.bin .gtr (.t 28) (ci 8192)),
 oo 30 (.pick (.t 25) (.c (.bool true)) (.t 29))])
 (.cond (.t 30) (.seq (.reg 0 [oo 2 (.mv (ci 11))])
 (.ret)) (.skip)))
 (.keep [1] [1] (.seq (.seq (.reg 0 [oo 3 (.mv (ci 0))])
 (.block 0 (.loop c_ref02_Check_l0)))
 (.keep [1] [1] (.seq (.seq (.reg 0 [oo 4 (.mv (ci 0))])
 (.block 2 (.loop c_ref02_Check_l1)))
 (.keep [1] [1] (.seq (.seq (.reg 0 [oo 59 (.fld 0 (.t 1)),
 oo 60 (.load false 1 (.t 59)),
 oo 61 (.call true (cf f_ref02_twice) [(.t 60)]),
 oo 62 (.mv (.t 61)),
 og 63 62 false (.fld 1 (.t 1)),
 og 64 62 false (.load false 1 (.t 63)),
 og 65 62 false (.call true (cf f_ref02_twice) [(.t 64)]),
 oo 66 (.pick (.t 62) (.c (.bool true)) (.t 65))])
 (.cond (.t 66) (.seq (.reg 0 [oo 2 (.mv (ci 2))])
 (.ret)) (.skip)))
 (.keep [1] [1] (.seq (.seq (.reg 0 [oo 67 (.fld 2 (.t 1)),
 oo 68 (.load false 1 (.t 67)),
 oo 69 (.bin .lss (.t 68) (ci 0)),
 oo 70 (.mv (.t 69)),
 og 71 70 false (.fld 2 (.t 1)),
 og 72 70 false (.load false 1 (.t 71)),
 og 73 70 false (.fld 0 (.t 1)),
 og 74 70 false (.load false 1 (.t 73)),
 og 75 70 false (.len .sl (.t 74)),
 og 76 70 false (.bin .geq (.t 72) (.t 75)),
 oo 77 (.pick (.t 70) (.c (.bool true)) (.t 76))])
 (.cond (.t 77) (.seq (.reg 0 [oo 2 (.mv (ci 3))])
 (.ret)) (.skip)))
 (.keep [1] [1] (.seq (.seq (.reg 0 [oo 5 (.mv (ci 0))])
 (.block 4 (.loop c_ref02_Check_l3)))
 (.keep [1] [1] (.seq (.seq (.reg 0 [oo 8 (.mv (ci 0))])
 (.block 8 (.loop c_ref02_Check_l4)))
 (.keep [] [] (.seq (.reg 0 [oo 2 (.mv (ci 0))])
 (.ret))))))))))))))))
def n_ref02_Check : Fn := ⟨c_ref02_Check, [.t 2], false, false⟩
theorem ok_ref02_Check : fnOf Tryd.prog eff keep f_ref02_Check = some n_ref02_Check.bare := by kernel_rfl
@[simp] theorem c_ref02_Check_l0_norm (st : St) : norm c_ref02_Check_l0 st = st.keep [1, 3] [1] := rfl
@[simp] theorem c_ref02_Check_l1_norm (st : St) : norm c_ref02_Check_l1 st = st.keep [1, 4] [1] := rfl
@[simp] theorem c_ref02_Check_l2_norm (st : St) : norm c_ref02_Check_l2 st = st.keep [1, 5, 6, 7] [1, 6] := rfl
@[simp] theorem c_ref02_Check_l3_norm (st : St) : norm c_ref02_Check_l3 st = st.keep [1, 5] [1] := rfl
@[simp] theorem c_ref02_Check_l4_norm (st : St) : norm c_ref02_Check_l4 st = st.keep [1, 8] [1] := rfl
def b_ref01_Name_l0 : ACode :=
  (.seq (.seq (.reg 0 [oo 18 (.mv (.t 3)),
 oo 19 (.mv (.t 0)),
 oo 20 (.len .s (.t 19)),
 oo 21 (.bin .lss (.t 18) (.t 20))])
 (.cond (.t 21) (.skip) (.keep [] [] (.exit 0))))
 (.keep [0, 3] [] (.seq (.block 1 (.seq (.reg 0 [oo 24 (.mv (.t 0)),
 oo 25 (.mv (.t 3)),
 oo 26 (.ixs (.t 24) (.t 25)),
 oo 27 (.call true (cf f_ref01_letter) [(.t 26)]),
 oo 28 (.un .not (.t 27)),
 oo 29 (.mv (.t 28)),
 og 30 29 true (.mv (.t 0)),
 og 31 29 true (.mv (.t 3)),
 og 32 29 true (.ixs (.t 30) (.t 31)),
 og 33 29 true (.bin .geq (.t 32) (.c (.int .u8 48))),
 og 34 29 true (.mv (.t 33)),
 og 35 34 true (.mv (.t 0)),
 og 36 34 true (.mv (.t 3)),
 og 37 34 true (.ixs (.t 35) (.t 36)),
 og 38 34 true (.bin .leq (.t 37) (.c (.int .u8 57))),
 og 39 29 true (.pick (.t 34) (.t 38) (.c (.bool false))),
 og 40 29 true (.un .not (.t 39)),
 oo 41 (.pick (.t 29) (.t 40) (.c (.bool false))),
 oo 42 (.mv (.t 41)),
 og 43 42 true (.mv (.t 0)),
 og 44 42 true (.mv (.t 3)),
 og 45 42 true (.ixs (.t 43) (.t 44)),
 og 46 42 true (.bin .neq (.t 45) (.c (.int .u8 45))),
 oo 47 (.pick (.t 42) (.t 46) (.c (.bool false)))])
 (.cond (.t 47) (.seq (.reg 0 [oo 2 (.mv (.c (.bool false)))])
 (.keep [2] [] (.ret))) (.skip))))
 (.keep [0, 3] [] (.reg 0 [oo 22 (.mv (.t 3)),
 oo 23 (.bin .add (.t 22) (ci 1)),
 oo 3 (.mv (.t 23))])))))
def c_ref01_Name_l0 : ACode := .keep [0, 3] [] b_ref01_Name_l0
def c_ref01_Name : ACode :=
  .seq (.reg 0 [oo 2 (.mv (.c (.bool false)))])
 (.seq (.seq (.reg 0 [oo 4 (.mv (.t 0)),
 oo 5 (.len .s (.t 4)),
 oo 6 (.bin .lss (.t 5) (ci 1)),
 oo 7 (.mv (.t 6)),
 og 8 7 false (.mv (.t 0)),
 og 9 7 false (.len .s (.t 8)),
 og 10 7 false (.bin .gtr (.t 9) (ci 64)),
 oo 11 (.pick (.t 7) (.c (.bool true)) (.t 10)),
 oo 12 (.mv (.t 11)),
 og 13 12 false (.mv (.t 0)),
 og 14 12 false (.ixs (.t 13) (ci 0)),
 og 15 12 false (.call true (cf f_ref01_letter) [(.t 14)]),
 og 16 12 false (.un .not (.t 15)),
 oo 17 (.pick (.t 12) (.c (.bool true)) (.t 16))])
 (.cond (.t 17) (.seq (.reg 0 [oo 2 (.mv (.c (.bool false)))])
 (.ret)) (.skip)))
 (.keep [0] [] (.seq (.seq (.reg 0 [oo 3 (.mv (ci 1))])
 (.block 0 (.loop c_ref01_Name_l0)))
 (.keep [] [] (.seq (.reg 0 [oo 2 (.mv (.c (.bool true)))])
 (.ret))))))
def n_ref01_Name : Fn := ⟨c_ref01_Name, [.t 2], false, false⟩
theorem ok_ref01_Name : fnOf Tryd.prog eff keep f_ref01_Name = some n_ref01_Name.bare := by kernel_rfl
@[simp] theorem c_ref01_Name_l0_norm (st : St) : norm c_ref01_Name_l0 st = st.keep [0, 3] [] := rfl
def c_ref01_letter : ACode :=
  .seq (.reg 0 [oo 2 (.mv (.c (.bool false)))])
 (.seq (.reg 0 [oo 3 (.mv (.t 0)),
 oo 4 (.bin .geq (.t 3) (.c (.int .u8 65))),
 oo 5 (.mv (.t 4)),
 og 6 5 true (.mv (.t 0)),
 og 7 5 true (.bin .leq (.t 6) (.c (.int .u8 90))),
 oo 8 (.pick (.t 5) (.t 7) (.c (.bool false))),
 oo 9 (.mv (.t 8)),
 og 10 9 false (.mv (.t 0)),
 og 11 9 false (.bin .geq (.t 10) (.c (.int .u8 97))),
 og 12 9 false (.mv (.t 11)),
 og 13 12 true (.mv (.t 0)),
 og 14 12 true (.bin .leq (.t 13) (.c (.int .u8 122))),
 og 15 9 false (.pick (.t 12) (.t 14) (.c (.bool false))),
 oo 16 (.pick (.t 9) (.c (.bool true)) (.t 15)),
 oo 2 (.mv (.t 16))])
 (.ret))
def n_ref01_letter : Fn := ⟨c_ref01_letter, [.t 2], false, false⟩
theorem ok_ref01_letter : fnOf Tryd.prog eff keep f_ref01_letter = some n_ref01_letter.bare := by kernel_rfl
def c_ref01_Mark : ACode :=
  .seq (.reg 0 [oo 2 (.mv (.c (.bool false)))])
 (.seq (.reg 0 [oo 3 (.mv (.t 0)),
 oo 4 (.len .s (.t 3)),
 oo 5 (.bin .geq (.t 4) (ci 1)),
 oo 6 (.mv (.t 5)),
 og 7 6 true (.mv (.t 0)),
 og 8 6 true (.len .s (.t 7)),
 og 9 6 true (.bin .leq (.t 8) (ci 64)),
 oo 10 (.pick (.t 6) (.t 9) (.c (.bool false))),
 oo 2 (.mv (.t 10))])
 (.ret))
def n_ref01_Mark : Fn := ⟨c_ref01_Mark, [.t 2], false, false⟩
theorem ok_ref01_Mark : fnOf Tryd.prog eff keep f_ref01_Mark = some n_ref01_Mark.bare := by kernel_rfl
def b_ref02_twice_l0 : ACode :=
  (.seq (.seq (.reg 0 [oo 11 (.mv (.t 4)),
 oo 12 (.mv (.t 3)),
 oo 13 (.bin .lss (.t 11) (.t 12))])
 (.cond (.t 13) (.skip) (.keep [0, 3] [] (.exit 2))))
 (.keep [0, 3, 4] [] (.seq (.block 3 (.seq (.reg 8 [oo 16 (.mv (.t 0)),
 oo 17 (.mv (.t 3)),
 oo 18 (.ixa 1 (.t 16) (.t 17)),
 oo 19 (.load false 1 (.t 18)),
 oo 20 (.mv (.t 0)),
 oo 21 (.mv (.t 4)),
 oo 22 (.ixa 1 (.t 20) (.t 21)),
 oo 23 (.load false 1 (.t 22)),
 oo 24 (.bin .eql (.t 19) (.t 23))])
 (.cond (.t 24) (.seq (.reg 0 [oo 2 (.mv (.c (.bool true)))])
 (.keep [2] [] (.ret))) (.skip))))
 (.keep [0, 3, 4] [] (.reg 0 [oo 14 (.mv (.t 4)),
 oo 15 (.bin .add (.t 14) (ci 1)),
 oo 4 (.mv (.t 15))])))))
def c_ref02_twice_l0 : ACode := .keep [0, 3, 4] [] b_ref02_twice_l0
def b_ref02_twice_l1 : ACode :=
  (.seq (.seq (.reg 0 [oo 5 (.mv (.t 3)),
 oo 6 (.mv (.t 0)),
 oo 7 (.len .sl (.t 6)),
 oo 8 (.bin .lss (.t 5) (.t 7))])
 (.cond (.t 8) (.skip) (.keep [] [] (.exit 0))))
 (.keep [0, 3] [] (.seq (.block 1 (.seq (.reg 0 [oo 4 (.mv (ci 0))])
 (.block 2 (.loop c_ref02_twice_l0))))
 (.keep [0, 3] [] (.reg 0 [oo 9 (.mv (.t 3)),
 oo 10 (.bin .add (.t 9) (ci 1)),
 oo 3 (.mv (.t 10))])))))
def c_ref02_twice_l1 : ACode := .keep [0, 3] [] b_ref02_twice_l1
def c_ref02_twice : ACode :=
  .seq (.reg 0 [oo 2 (.mv (.c (.bool false)))])
 (.seq (.seq (.reg 0 [oo 3 (.mv (ci 0))])
 (.block 0 (.loop c_ref02_twice_l1)))
 (.keep [] [] (.seq (.reg 0 [oo 2 (.mv (.c (.bool false)))])
 (.ret))))
def n_ref02_twice : Fn := ⟨c_ref02_twice, [.t 2], false, false⟩
theorem ok_ref02_twice : fnOf Tryd.prog eff keep f_ref02_twice = some n_ref02_twice.bare := by kernel_rfl
@[simp] theorem c_ref02_twice_l0_norm (st : St) : norm c_ref02_twice_l0 st = st.keep [0, 3, 4] [] := rfl
@[simp] theorem c_ref02_twice_l1_norm (st : St) : norm c_ref02_twice_l1 st = st.keep [0, 3] [] := rfl
def c_ref02_Has : ACode :=
  .seq (.reg 0 [oo 2 (.box (.t 0)),
 oo 4 (.mv (.c (.bool false)))])
 (.seq (.reg 0 [oo 5 (.mv (.t 1)),
 oo 6 (.fld 0 (.t 2)),
 oo 7 (.load false 1 (.t 6)),
 oo 8 (.len .sl (.t 7)),
 oo 9 (.bin .lss (.t 5) (.t 8)),
 oo 10 (.mv (.t 9)),
 og 11 10 true (.mv (.t 1)),
 og 12 10 true (.fld 1 (.t 2)),
 og 13 10 true (.load false 1 (.t 12)),
 og 14 10 true (.len .sl (.t 13)),
 og 15 10 true (.un .neg (.t 14)),
 og 16 10 true (.bin .geq (.t 11) (.t 15)),
 oo 17 (.pick (.t 10) (.t 16) (.c (.bool false))),
 oo 4 (.mv (.t 17))])
 (.ret))
def n_ref02_Has : Fn := ⟨c_ref02_Has, [.t 4], false, false⟩
theorem ok_ref02_Has : fnOf Tryd.prog eff keep f_ref02_Has = some n_ref02_Has.bare := by kernel_rfl
def b_ref02_Find_l0 : ACode :=
  (.seq (.seq (.reg 0 [oo 6 (.mv (.t 5)),
 oo 7 (.mv (.t 0)),
 oo 8 (.len .sl (.t 7)),
 oo 9 (.bin .lss (.t 6) (.t 8))])
 (.cond (.t 9) (.skip) (.keep [] [] (.exit 0))))
 (.keep [0, 3, 5] [3] (.seq (.block 1 (.seq (.reg 5 [oo 12 (.mv (.t 0)),
 oo 13 (.mv (.t 5)),
 oo 14 (.ixa 2 (.t 12) (.t 13)),
 oo 15 (.load true 2 (.t 14)),
 oo 16 (.load true 2 (.t 3)),
 oo 17 (.call true (cf f_ref02_Same) [(.t 15), (.t 16)])])
 (.cond (.t 17) (.seq (.reg 0 [oo 18 (.mv (.t 5)),
 oo 4 (.mv (.t 18))])
 (.keep [4] [] (.ret))) (.skip))))
 (.keep [0, 3, 5] [3] (.reg 0 [oo 10 (.mv (.t 5)),
 oo 11 (.bin .add (.t 10) (ci 1)),
 oo 5 (.mv (.t 11))])))))
def c_ref02_Find_l0 : ACode := .keep [0, 3, 5] [3] b_ref02_Find_l0
def c_ref02_Find : ACode :=
  .seq (.reg 0 [oo 3 (.box (.t 1)),
 oo 4 (.mv (ci 0))])
 (.seq (.seq (.reg 0 [oo 5 (.mv (ci 0))])
 (.block 0 (.loop c_ref02_Find_l0)))
 (.keep [] [] (.seq (.reg 0 [oo 4 (.mv (ci (-1)))])
 (.ret))))
def n_ref02_Find : Fn := ⟨c_ref02_Find, [.t 4], false, false⟩
theorem ok_ref02_Find : fnOf Tryd.prog eff keep f_ref02_Find = some n_ref02_Find.bare := by kernel_rfl
@[simp] theorem c_ref02_Find_l0_norm (st : St) : norm c_ref02_Find_l0 st = st.keep [0, 3, 5] [3] := rfl
def b_ref02_Same_l0 : ACode :=
  (.seq (.seq (.reg 0 [oo 20 (.mv (.t 5)),
 oo 21 (.fld 1 (.t 2)),
 oo 22 (.load false 1 (.t 21)),
 oo 23 (.len .sl (.t 22)),
 oo 24 (.bin .lss (.t 20) (.t 23))])
 (.cond (.t 24) (.skip) (.keep [] [] (.exit 0))))
 (.keep [2, 3, 5] [2, 3] (.seq (.block 1 (.seq (.reg 10 [oo 27 (.fld 1 (.t 2)),
 oo 28 (.load false 1 (.t 27)),
 oo 29 (.mv (.t 5)),
 oo 30 (.ixa 1 (.t 28) (.t 29)),
 oo 31 (.load false 1 (.t 30)),
 oo 32 (.fld 1 (.t 3)),
 oo 33 (.load false 1 (.t 32)),
 oo 34 (.mv (.t 5)),
 oo 35 (.ixa 1 (.t 33) (.t 34)),
 oo 36 (.load false 1 (.t 35)),
 oo 37 (.bin .neq (.t 31) (.t 36))])
 (.cond (.t 37) (.seq (.reg 0 [oo 4 (.mv (.c (.bool false)))])
 (.keep [4] [] (.ret))) (.skip))))
 (.keep [2, 3, 5] [2, 3] (.reg 0 [oo 25 (.mv (.t 5)),
 oo 26 (.bin .add (.t 25) (ci 1)),
 oo 5 (.mv (.t 26))])))))
def c_ref02_Same_l0 : ACode := .keep [2, 3, 5] [2, 3] b_ref02_Same_l0
def c_ref02_Same : ACode :=
  .seq (.reg 0 [oo 2 (.box (.t 0)),
 oo 3 (.box (.t 1)),
 oo 4 (.mv (.c (.bool false)))])
 (.seq (.seq (.reg 0 [oo 6 (.fld 0 (.t 2)),
 oo 7 (.load false 1 (.t 6)),
 oo 8 (.fld 0 (.t 3)),
 oo 9 (.load false 1 (.t 8)),
 oo 10 (.bin .neq (.t 7) (.t 9)),
 oo 11 (.mv (.t 10)),
 og 12 11 false (.fld 1 (.t 2)),
 og 13 11 false (.load false 1 (.t 12)),
 og 14 11 false (.len .sl (.t 13)),
 og 15 11 false (.fld 1 (.t 3)),
 og 16 11 false (.load false 1 (.t 15)),
 og 17 11 false (.len .sl (.t 16)),
 og 18 11 false (.bin .neq (.t 14) (.t 17)),
 oo 19 (.pick (.t 11) (.c (.bool true)) (.t 18))])
 (.cond (.t 19) (.seq (.reg 0 [oo 4 (.mv (.c (.bool false)))])
 (.ret)) (.skip)))
 (.keep [2, 3] [2, 3] (.seq (.seq (.reg 0 [oo 5 (.mv (ci 0))])
 (.block 0 (.loop c_ref02_Same_l0)))
 (.keep [] [] (.seq (.reg 0 [oo 4 (.mv (.c (.bool true)))])
 (.ret))))))
def n_ref02_Same : Fn := ⟨c_ref02_Same, [.t 4], false, false⟩
theorem ok_ref02_Same : fnOf Tryd.prog eff keep f_ref02_Same = some n_ref02_Same.bare := by kernel_rfl
@[simp] theorem c_ref02_Same_l0_norm (st : St) : norm c_ref02_Same_l0 st = st.keep [2, 3, 5] [2, 3] := rfl
def b_ref10_Walk_l0 : ACode :=
  (.seq (.seq (.reg 0 [oo 35 (.mv (.t 9)),
 oo 36 (.fld 3 (.t 2)),
 oo 37 (.load false 1 (.t 36)),
 oo 38 (.len .sl (.t 37)),
 oo 39 (.bin .lss (.t 35) (.t 38))])
 (.cond (.t 39) (.skip) (.keep [2, 1060005, 6, 1030007, 8] [2] (.exit 4))))
 (.keep [2, 1060005, 6, 1030007, 8, 9] [2] (.seq (.block 5 (.seq (.reg 0 [oo 42 (.fld 3 (.t 2)),
 oo 43 (.load false 1 (.t 42)),
 oo 44 (.mv (.t 9)),
 oo 45 (.ixa 2 (.t 43) (.t 44)),
 oo 46 (.load true 2 (.t 45)),
 oo 10 (.alloc [(.int .i64 0), (.sl [] .nil)]),
 ox (.store 2 (.t 10) (.t 46))])
 (.seq (.seq (.reg 35 [oo 47 (.fld 0 (.t 10)),
 oo 48 (.load false 1 (.t 47)),
 oo 49 (.mv (.t 6)),
 oo 50 (.mv (.t 8)),
 oo 51 (.ixa 2 (.t 49) (.t 50)),
 oo 52 (.fld 0 (.t 51)),
 oo 53 (.load false 1 (.t 52)),
 oo 54 (.bin .neq (.t 48) (.t 53)),
 oo 55 (.mv (.t 54)),
 og 56 55 false (.fld 1 (.t 10)),
 og 57 55 false (.load false 1 (.t 56)),
 og 58 55 false (.len .sl (.t 57)),
 og 59 55 false (.bin .neq (.t 58) (ci 1)),
 oo 60 (.pick (.t 55) (.c (.bool true)) (.t 59)),
 oo 61 (.mv (.t 60)),
 og 62 61 false (.fld 1 (.t 10)),
 og 63 61 false (.load false 1 (.t 62)),
 og 64 61 false (.ixa 1 (.t 63) (ci 0)),
 og 65 61 false (.load false 1 (.t 64)),
 og 66 61 false (.bin .lss (.t 65) (ci 0)),
 oo 67 (.pick (.t 61) (.c (.bool true)) (.t 66)),
 oo 68 (.mv (.t 67)),
 og 69 68 false (.mv (.t 5)),
 og 70 68 false (.fld 1 (.t 10)),
 og 71 68 false (.load false 1 (.t 70)),
 og 72 68 false (.ixa 1 (.t 71) (ci 0)),
 og 73 68 false (.load false 1 (.t 72)),
 og 74 68 false (.call true (cf f_ref10_has) [(.t 69), (.t 73)]),
 oo 75 (.pick (.t 68) (.c (.bool true)) (.t 74)),
 oo 76 (.mv (.t 75)),
 og 77 76 false (.mv (.t 7)),
 og 78 76 false (.fld 1 (.t 10)),
 og 79 76 false (.load false 1 (.t 78)),
 og 80 76 false (.ixa 1 (.t 79) (ci 0)),
 og 81 76 false (.load false 1 (.t 80)),
 og 82 76 false (.call true (cf f_ref10_has) [(.t 77), (.t 81)]),
 oo 83 (.pick (.t 76) (.c (.bool true)) (.t 82))])
 (.cond (.t 83) (.exit 5) (.skip)))
 (.keep [2, 1060005, 6, 1030007, 8, 9, 10] [2, 10] (.reg 17 [oo 84 (.mv (.t 7)),
 oo 85 (.fld 1 (.t 10)),
 oo 86 (.load false 1 (.t 85)),
 oo 87 (.ixa 1 (.t 86) (ci 0)),
 oo 88 (.load false 1 (.t 87)),
 oo 89 (.bslice [(.int .i64 0)] 0 []),
 oo 90 (.mv (.t 6)),
 oo 91 (.mv (.t 8)),
 oo 92 (.ixa 2 (.t 90) (.t 91)),
 oo 93 (.fld 1 (.t 92)),
 oo 94 (.load false 1 (.t 93)),
 oo 95 (.appN 1 (.t 89) (.t 94)),
 oo 96 (.mv (.t 9)),
 oo 97 (.bslice [(.int .i64 0)] 1 [(0, (.t 96))]),
 oo 98 (.appF 1 (.t 95) (.t 97)),
 oo 99 (.build [(.int .i64 0), (.sl [] .nil)] [(0, 1, (.t 88)), (1, 1, (.t 98))]),
 oo 100 (.bslice [(.int .i64 0), (.sl [] .nil)] 1 [(0, (.t 99))]),
 oo 101 (.app 2 (.t 84) (.t 100)),
 oo 7 (.mv (.t 101))])))))
 (.keep [2, 1060005, 6, 1030007, 8, 9] [2] (.reg 0 [oo 40 (.mv (.t 9)),
 oo 41 (.bin .add (.t 40) (ci 1)),
 oo 9 (.mv (.t 41))])))))
def c_ref10_Walk_l0 : ACode := .keep [2, 1060005, 6, 1030007, 8, 9] [2] b_ref10_Walk_l0
def b_ref10_Walk_l1 : ACode :=
  (.seq (.seq (.reg 0 [oo 29 (.mv (.t 8)),
 oo 30 (.mv (.t 6)),
 oo 31 (.len .sl (.t 30)),
 oo 32 (.bin .lss (.t 29) (.t 31))])
 (.cond (.t 32) (.skip) (.keep [2, 1060005, 7] [2] (.exit 2))))
 (.keep [2, 1060005, 6, 1030007, 8] [2] (.seq (.block 3 (.seq (.reg 0 [oo 9 (.mv (ci 0))])
 (.block 4 (.loop c_ref10_Walk_l0))))
 (.keep [2, 1060005, 6, 1030007, 8] [2] (.reg 0 [oo 33 (.mv (.t 8)),
 oo 34 (.bin .add (.t 33) (ci 1)),
 oo 8 (.mv (.t 34))])))))
def c_ref10_Walk_l1 : ACode := .keep [2, 1060005, 6, 1030007, 8] [2] b_ref10_Walk_l1
def b_ref10_Walk_l2 : ACode :=
  (.seq (.seq (.reg 0 [oo 26 (.mv (.t 6)),
 oo 27 (.len .sl (.t 26)),
 oo 28 (.bin .gtr (.t 27) (ci 0))])
 (.cond (.t 28) (.skip) (.keep [5] [] (.exit 0))))
 (.keep [2, 1060005, 6] [2] (.block 1 (.seq (.reg 0 [oo 7 (.mv (.c (.sl [] .nil)))])
 (.seq (.seq (.reg 0 [oo 8 (.mv (ci 0))])
 (.block 2 (.loop c_ref10_Walk_l1)))
 (.keep [2, 1060005, 7] [2] (.seq (.reg 0 [oo 102 (.mv (.t 5)),
 oo 103 (.mv (.t 7)),
 oo 104 (.app 2 (.t 102) (.t 103)),
 oo 5 (.mv (.t 104))])
 (.reg 0 [oo 105 (.mv (.t 7)),
 oo 6 (.mv (.t 105))]))))))))
def c_ref10_Walk_l2 : ACode := .keep [2, 1060005, 6] [2] b_ref10_Walk_l2
def c_ref10_Walk : ACode :=
  .seq (.reg 0 [oo 2 (.box (.t 0)),
 oo 4 (.mv (.c (.sl [] .nil)))])
 (.seq (.seq (.reg 0 [oo 11 (.mv (.t 1)),
 oo 12 (.bin .lss (.t 11) (ci 0)),
 oo 13 (.mv (.t 12)),
 og 14 13 false (.mv (.t 1)),
 og 15 13 false (.fld 0 (.t 2)),
 og 16 13 false (.load false 1 (.t 15)),
 og 17 13 false (.len .sl (.t 16)),
 og 18 13 false (.bin .geq (.t 14) (.t 17)),
 oo 19 (.pick (.t 13) (.c (.bool true)) (.t 18))])
 (.cond (.t 19) (.seq (.reg 0 [oo 4 (.mv (.c (.sl [] .nil)))])
 (.ret)) (.skip)))
 (.keep [1, 2] [2] (.seq (.reg 0 [oo 20 (.mv (.t 1)),
 oo 21 (.build [(.int .i64 0), (.sl [] .nil)] [(0, 1, (.t 20))]),
 oo 22 (.bslice [(.int .i64 0), (.sl [] .nil)] 1 [(0, (.t 21))]),
 oo 5 (.mv (.t 22))])
 (.seq (.reg 0 [oo 23 (.mv (.t 1)),
 oo 24 (.build [(.int .i64 0), (.sl [] .nil)] [(0, 1, (.t 23))]),
 oo 25 (.bslice [(.int .i64 0), (.sl [] .nil)] 1 [(0, (.t 24))]),
 oo 6 (.mv (.t 25))])
 (.seq (.block 0 (.loop c_ref10_Walk_l2))
 (.keep [5] [] (.seq (.reg 0 [oo 106 (.mv (.t 5)),
 oo 4 (.mv (.t 106))])
 (.ret))))))))
def n_ref10_Walk : Fn := ⟨c_ref10_Walk, [.t 4], false, false⟩
theorem ok_ref10_Walk : fnOf Tryd.prog eff keep f_ref10_Walk = some n_ref10_Walk.bare := by kernel_rfl
@[simp] theorem c_ref10_Walk_l0_norm (st : St) : norm c_ref10_Walk_l0 st = st.keep [2, 1060005, 6, 1030007, 8, 9] [2] := rfl
@[simp] theorem c_ref10_Walk_l1_norm (st : St) : norm c_ref10_Walk_l1 st = st.keep [2, 1060005, 6, 1030007, 8] [2] := rfl
@[simp] theorem c_ref10_Walk_l2_norm (st : St) : norm c_ref10_Walk_l2 st = st.keep [2, 1060005, 6] [2] := rfl
def b_ref10_has_l0 : ACode :=
  (.seq (.seq (.reg 0 [oo 6 (.mv (.t 5)),
 oo 7 (.mv (.t 0)),
 oo 8 (.len .sl (.t 7)),
 oo 9 (.bin .lss (.t 6) (.t 8))])
 (.cond (.t 9) (.skip) (.keep [] [] (.exit 0))))
 (.keep [0, 1, 5] [] (.seq (.block 1 (.seq (.reg 0 [oo 12 (.mv (.t 0)),
 oo 13 (.mv (.t 5)),
 oo 14 (.ixa 2 (.t 12) (.t 13)),
 oo 15 (.fld 0 (.t 14)),
 oo 16 (.load false 1 (.t 15)),
 oo 17 (.mv (.t 1)),
 oo 18 (.bin .eql (.t 16) (.t 17))])
 (.cond (.t 18) (.seq (.reg 0 [oo 4 (.mv (.c (.bool true)))])
 (.keep [4] [] (.ret))) (.skip))))
 (.keep [0, 1, 5] [] (.reg 0 [oo 10 (.mv (.t 5)),
 oo 11 (.bin .add (.t 10) (ci 1)),
 oo 5 (.mv (.t 11))])))))
def c_ref10_has_l0 : ACode := .keep [0, 1, 5] [] b_ref10_has_l0
def c_ref10_has : ACode :=
  .seq (.reg 0 [oo 4 (.mv (.c (.bool false)))])
 (.seq (.seq (.reg 0 [oo 5 (.mv (ci 0))])
 (.block 0 (.loop c_ref10_has_l0)))
 (.keep [] [] (.seq (.reg 0 [oo 4 (.mv (.c (.bool false)))])
 (.ret))))
def n_ref10_has : Fn := ⟨c_ref10_has, [.t 4], false, false⟩
theorem ok_ref10_has : fnOf Tryd.prog eff keep f_ref10_has = some n_ref10_has.bare := by kernel_rfl
@[simp] theorem c_ref10_has_l0_norm (st : St) : norm c_ref10_has_l0 st = st.keep [0, 1, 5] [] := rfl
def b_law14_MeterBounds_l0 : ACode :=
  (.seq (.reg 0 [oo 38 (.bin .lss (.t 37) (.t 36))])
 (.seq (.cond (.t 38) (.skip) (.keep [1, 2, 7] [] (.exit 0)))
 (.keep [1, 2, 3, 7, 35, 36, 37] [3] (.seq (.block 1 (.seq (.reg 0 [oo 39 (.mv (.t 37)),
 oo 40 (.ixa 2 (.t 35) (.t 37)),
 oo 41 (.load true 2 (.t 40)),
 oo 9 (.alloc [(.int .i64 0), (.sl [] .nil)]),
 oo 8 (.mv (.t 39)),
 ox (.store 2 (.t 9) (.t 41))])
 (.seq (.seq (.reg 0 [oo 42 (.fld 0 (.t 3)),
 oo 43 (.load false 1 (.t 42)),
 oo 44 (.len .sl (.t 43)),
 oo 45 (.fld 1 (.t 3)),
 oo 46 (.load false 1 (.t 45)),
 oo 47 (.len .sl (.t 46)),
 oo 48 (.load true 2 (.t 9)),
 oo 49 (.call true (cf f_law14_may) [(.t 44), (.t 47), (.t 48)]),
 oo 50 (.un .not (.t 49))])
 (.cond (.t 50) (.seq (.reg 0 [oo 51 (.call true (cf f_law14_Awake) []),
 oo 6 (.mv (.t 51))])
 (.keep [6] [] (.ret))) (.skip)))
 (.keep [1, 2, 3, 7, 8, 9, 35, 36, 37] [3, 9] (.reg 4 [oo 52 (.mv (.t 7)),
 oo 53 (.load true 2 (.t 9)),
 oo 54 (.mv (.t 8)),
 oo 55 (.call true (cf f_law14_mark) [(.t 54)]),
 oo 56 (.call true (cf f_meter_Pot_Put) [(.t 52), (.t 53), (.t 55)])])))))
 (.keep [1, 2, 3, 7, 35, 36, 37] [3] (.reg 0 [oo 57 (.bin .add (.t 37) (ci 1)),
 oo 37 (.mv (.t 57))]))))))
def c_law14_MeterBounds_l0 : ACode := .keep [1, 2, 3, 7, 35, 36, 37] [3] b_law14_MeterBounds_l0
def b_law14_MeterBounds_l1 : ACode :=
  (.seq (.reg 0 [oo 103 (.bin .lss (.t 102) (.t 101))])
 (.seq (.cond (.t 103) (.skip) (.keep [7] [] (.exit 2)))
 (.keep [7, 10, 100, 101, 102] [10] (.seq (.block 3 (.seq (.reg 0 [oo 104 (.mv (.t 102)),
 oo 105 (.ixa 2 (.t 100) (.t 102)),
 oo 106 (.load true 2 (.t 105)),
 oo 13 (.alloc [(.int .i64 0), (.sl [] .nil)]),
 oo 12 (.mv (.t 104)),
 ox (.store 2 (.t 13) (.t 106))])
 (.seq (.reg 0 [oo 107 (.fld 4 (.t 10)),
 oo 108 (.load true 4 (.t 107)),
 oo 109 (.load true 2 (.t 13)),
 oo 110 (.call true (cf f_gram_Grammar_Find) [(.t 108), (.t 109)]),
 oo 14 (.mv (.t 110))])
 (.seq (.reg 0 [oo 111 (.mv (.t 14)),
 oo 112 (.bin .lss (.t 111) (ci 0)),
 oo 113 (.mv (.t 112)),
 og 114 113 false (.fld 9 (.t 10)),
 og 115 113 false (.load false 1 (.t 114)),
 og 116 113 false (.mv (.t 14)),
 og 117 113 false (.ixa 1 (.t 115) (.t 116)),
 og 118 113 false (.load false 1 (.t 117)),
 og 119 113 false (.len .sl (.t 118)),
 og 120 113 false (.bin .neq (.t 119) (ci 1)),
 oo 121 (.pick (.t 113) (.c (.bool true)) (.t 120)),
 oo 122 (.mv (.t 121)),
 og 123 122 false (.fld 9 (.t 10)),
 og 124 122 false (.load false 1 (.t 123)),
 og 125 122 false (.mv (.t 14)),
 og 126 122 false (.ixa 1 (.t 124) (.t 125)),
 og 127 122 false (.load false 1 (.t 126)),
 og 128 122 false (.ixa 3 (.t 127) (ci 0)),
 og 129 122 false (.fld 1 (.t 128)),
 og 130 122 false (.load false 1 (.t 129)),
 og 131 122 false (.mv (.t 12)),
 og 132 122 false (.bin .gtr (.t 130) (.t 131)),
 oo 133 (.pick (.t 122) (.c (.bool true)) (.t 132))])
 (.cond (.t 133) (.seq (.reg 0 [oo 6 (.mv (.c (.bool false)))])
 (.keep [6] [] (.ret))) (.skip))))))
 (.keep [7, 10, 100, 101, 102] [10] (.reg 0 [oo 134 (.bin .add (.t 102) (ci 1)),
 oo 102 (.mv (.t 134))]))))))
def c_law14_MeterBounds_l1 : ACode := .keep [7, 10, 100, 101, 102] [10] b_law14_MeterBounds_l1
def c_law14_MeterBounds : ACode :=
  .seq (.reg 0 [oo 3 (.box (.t 0)),
 oo 6 (.mv (.c (.bool false)))])
 (.seq (.seq (.reg 0 [oo 15 (.load true 4 (.t 3)),
 oo 16 (.call true (cf f_law02_Small) [(.t 15)]),
 oo 17 (.un .not (.t 16)),
 oo 18 (.mv (.t 17)),
 og 19 18 false (.load true 4 (.t 3)),
 og 20 18 false (.call true (cf f_law02_May) [(.t 19)]),
 og 21 18 false (.un .not (.t 20)),
 oo 22 (.pick (.t 18) (.c (.bool true)) (.t 21)),
 oo 23 (.mv (.t 22)),
 og 24 23 false (.mv (.t 2)),
 og 25 23 false (.len .sl (.t 24)),
 og 26 23 false (.bin .gtr (.t 25) (ci 60)),
 oo 27 (.pick (.t 23) (.c (.bool true)) (.t 26))])
 (.cond (.t 27) (.seq (.reg 0 [oo 28 (.call true (cf f_law14_Awake) []),
 oo 6 (.mv (.t 28))])
 (.ret)) (.skip)))
 (.keep [1, 2, 3] [3] (.seq (.reg 0 [oo 29 (.load true 4 (.t 3)),
 oo 30 (.mv (.t 1)),
 oo 31 (.conv .i64 (.t 30)),
 oo 32 (.call true (cf f_meter_New) [(.t 29), (.t 31)]),
 oo 7 (.mv (.t 32))])
 (.seq (.seq (.reg 0 [oo 33 (.mv (.t 7)),
 oo 34 (.eqv false .p (.t 33) (.c .nilp))])
 (.cond (.t 34) (.seq (.reg 0 [oo 6 (.mv (.c (.bool false)))])
 (.ret)) (.skip)))
 (.keep [1, 2, 3, 7] [3] (.seq (.seq (.reg 0 [oo 35 (.mv (.t 2)),
 oo 36 (.len .sl (.t 35)),
 oo 37 (.mv (ci 0))])
 (.block 0 (.loop c_law14_MeterBounds_l0)))
 (.keep [1, 2, 7] [] (.seq (.reg 0 [oo 59 (.mv (.t 7)),
 oo 60 (.call true (cf f_meter_Pot_Table) [(.t 59)]),
 oo 58 (.mv (.t 60)),
 oo 61 (.ext (.t 58) 0),
 oo 62 (.ext (.t 58) 1),
 oo 10 (.alloc [(.sl [] .nil), (.sl [] .nil), (.int .i64 0), (.sl [] .nil), (.sl [] .nil), (.sl [] .nil), (.int .i64 0), (.sl [] .nil), (.sl [] .nil), (.sl [] .nil)]),
 ox (.store 10 (.t 10) (.t 61)),
 oo 11 (.mv (.t 62))])
 (.seq (.seq (.reg 0 [oo 63 (.mv (.t 11)),
 oo 64 (.bin .neq (.t 63) (ci 0))])
 (.cond (.t 64) (.seq (.reg 0 [oo 65 (.call true (cf f_law14_Awake) []),
 oo 66 (.mv (.t 65)),
 og 67 66 true (.mv (.t 7)),
 og 68 66 true (.call true (cf f_meter_Pot_Spoilt) [(.t 67)]),
 oo 69 (.pick (.t 66) (.t 68) (.c (.bool false))),
 oo 6 (.mv (.t 69))])
 (.ret)) (.skip)))
 (.keep [1, 2, 7, 10] [10] (.seq (.seq (.reg 0 [oo 70 (.fld 4 (.t 10)),
 oo 71 (.load true 4 (.t 70)),
 oo 72 (.call true (cf f_gram_Grammar_Size) [(.t 71)]),
 oo 73 (.mv (.t 1)),
 oo 74 (.conv .i64 (.t 73)),
 oo 75 (.bin .gtr (.t 72) (.t 74)),
 oo 76 (.mv (.t 75)),
 og 77 76 false (.fld 4 (.t 10)),
 og 78 76 false (.load true 4 (.t 77)),
 og 79 76 false (.call true (cf f_gram_Grammar_Size) [(.t 78)]),
 og 80 76 false (.mv (.t 7)),
 og 81 76 false (.call true (cf f_meter_Pot_Size) [(.t 80)]),
 og 82 76 false (.bin .neq (.t 79) (.t 81)),
 oo 83 (.pick (.t 76) (.c (.bool true)) (.t 82)),
 oo 84 (.mv (.t 83)),
 og 85 84 false (.fld 9 (.t 10)),
 og 86 84 false (.load false 1 (.t 85)),
 og 87 84 false (.len .sl (.t 86)),
 og 88 84 false (.fld 4 (.t 10)),
 og 89 84 false (.fld 3 (.t 88)),
 og 90 84 false (.load false 1 (.t 89)),
 og 91 84 false (.len .sl (.t 90)),
 og 92 84 false (.bin .neq (.t 87) (.t 91)),
 oo 93 (.pick (.t 84) (.c (.bool true)) (.t 92)),
 oo 94 (.mv (.t 93)),
 og 95 94 false (.fld 4 (.t 10)),
 og 96 94 false (.load true 4 (.t 95)),
 og 97 94 false (.call true (cf f_gram_Grammar_Check) [(.t 96)]),
 og 98 94 false (.bin .neq (.t 97) (ci 0)),
 oo 99 (.pick (.t 94) (.c (.bool true)) (.t 98))])
 (.cond (.t 99) (.seq (.reg 0 [oo 6 (.mv (.c (.bool false)))])
 (.ret)) (.skip)))
 (.keep [2, 7, 10] [10] (.seq (.seq (.reg 0 [oo 100 (.mv (.t 2)),
 oo 101 (.len .sl (.t 100)),
 oo 102 (.mv (ci 0))])
 (.block 2 (.loop c_law14_MeterBounds_l1)))
 (.keep [7] [] (.seq (.reg 0 [oo 135 (.call true (cf f_law14_Awake) []),
 oo 136 (.mv (.t 135)),
 og 137 136 true (.mv (.t 7)),
 og 138 136 true (.call true (cf f_meter_Pot_Spoilt) [(.t 137)]),
 og 139 136 true (.un .not (.t 138)),
 oo 140 (.pick (.t 136) (.t 139) (.c (.bool false))),
 oo 6 (.mv (.t 140))])
 (.ret))))))))))))))))
def n_law14_MeterBounds : Fn := ⟨c_law14_MeterBounds, [.t 6], false, false⟩
theorem ok_law14_MeterBounds : fnOf Tryd.prog eff keep f_law14_MeterBounds = some n_law14_MeterBounds.bare := by kernel_rfl
@[simp] theorem c_law14_MeterBounds_l0_norm (st : St) : norm c_law14_MeterBounds_l0 st = st.keep [1, 2, 3, 7, 35, 36, 37] [3] := rfl
@[simp] theorem c_law14_MeterBounds_l1_norm (st : St) : norm c_law14_MeterBounds_l1 st = st.keep [7, 10, 100, 101, 102] [10] := rfl
def c_law14_Awake : ACode :=
  .seq (.reg 0 [oo 0 (.mv (.c (.bool false)))])
 (.seq (.reg 0 [oo 4 (.call true (cf f_law02_Example) []),
 oo 5 (.call true (cf f_meter_New) [(.t 4), (ci 3)]),
 oo 1 (.mv (.t 5))])
 (.seq (.seq (.reg 0 [oo 6 (.mv (.t 1)),
 oo 7 (.eqv false .p (.t 6) (.c .nilp))])
 (.cond (.t 7) (.seq (.reg 0 [oo 0 (.mv (.c (.bool false)))])
 (.ret)) (.skip)))
 (.keep [1] [] (.seq (.reg 0 [oo 8 (.mv (.t 1)),
 oo 9 (.bslice [(.int .i64 0)] 2 [(0, (ci (-1))), (1, (ci 0))]),
 oo 10 (.build [(.int .i64 0), (.sl [] .nil)] [(1, 1, (.t 9))]),
 oo 11 (.call true (cf f_meter_Pot_Put) [(.t 8), (.t 10), (.c (.sl [] .nil))]),
 oo 2 (.mv (.t 11))])
 (.seq (.reg 0 [oo 12 (.mv (.t 1)),
 oo 13 (.build [(.int .i64 0), (.sl [] .nil)] []),
 oo 14 (.call true (cf f_meter_Pot_Put) [(.t 12), (.t 13), (.c (.sl [] .nil))]),
 oo 3 (.mv (.t 14))])
 (.seq (.reg 0 [oo 15 (.call true (cf f_law02_Awake) []),
 oo 16 (.mv (.t 15)),
 og 17 16 true (.call true (cf f_law12_Awake) []),
 oo 18 (.pick (.t 16) (.t 17) (.c (.bool false))),
 oo 19 (.mv (.t 18)),
 og 20 19 true (.mv (.t 2)),
 oo 21 (.pick (.t 19) (.t 20) (.c (.bool false))),
 oo 22 (.mv (.t 21)),
 og 23 22 true (.mv (.t 3)),
 og 24 22 true (.un .not (.t 23)),
 oo 25 (.pick (.t 22) (.t 24) (.c (.bool false))),
 oo 26 (.mv (.t 25)),
 og 27 26 true (.mv (.t 1)),
 og 28 26 true (.call true (cf f_meter_Pot_Spoilt) [(.t 27)]),
 oo 29 (.pick (.t 26) (.t 28) (.c (.bool false))),
 oo 30 (.mv (.t 29)),
 og 31 30 true (.mv (.t 1)),
 og 32 30 true (.call true (cf f_meter_Pot_Size) [(.t 31)]),
 og 33 30 true (.bin .eql (.t 32) (ci 3)),
 oo 34 (.pick (.t 30) (.t 33) (.c (.bool false))),
 oo 0 (.mv (.t 34))])
 (.ret)))))))
def n_law14_Awake : Fn := ⟨c_law14_Awake, [.t 0], false, false⟩
theorem ok_law14_Awake : fnOf Tryd.prog eff keep f_law14_Awake = some n_law14_Awake.bare := by kernel_rfl
def c_meter_New : ACode :=
  .seq (.reg 0 [oo 2 (.box (.t 0)),
 oo 4 (.mv (.c .nilp))])
 (.seq (.reg 0 [oo 7 (.load true 4 (.t 2)),
 oo 8 (.call true (cf f_gram_Grammar_Clone) [(.t 7)]),
 oo 5 (.alloc [(.sl [] .nil), (.sl [] .nil), (.int .i64 0), (.sl [] .nil)]),
 ox (.store 4 (.t 5) (.t 8))])
 (.seq (.reg 0 [oo 9 (.fld 3 (.t 5)),
 ox (.store 1 (.t 9) (.c (.sl [] .nil)))])
 (.seq (.reg 10 [oo 10 (.load true 4 (.t 2)),
 oo 11 (.call true (cf f_gram_Grammar_Clone) [(.t 10)]),
 oo 12 (.load true 4 (.t 5)),
 oo 13 (.load true 4 (.t 2)),
 oo 14 (.fld 0 (.t 2)),
 oo 15 (.load false 1 (.t 14)),
 oo 16 (.len .sl (.t 15)),
 oo 17 (.call true (cf f_tmpl_Sorts) [(.t 13), (.t 16)]),
 oo 18 (.build [(.sl [] .nil), (.sl [] .nil), (.int .i64 0), (.sl [] .nil), (.sl [] .nil), (.sl [] .nil), (.int .i64 0), (.sl [] .nil), (.sl [] .nil), (.sl [] .nil)] [(0, 4, (.t 11)), (4, 4, (.t 12)), (8, 1, (.t 17))]),
 oo 6 (.alloc [(.sl [] .nil), (.sl [] .nil), (.int .i64 0), (.sl [] .nil), (.sl [] .nil), (.sl [] .nil), (.int .i64 0), (.sl [] .nil), (.sl [] .nil), (.sl [] .nil)]),
 ox (.store 10 (.t 6) (.t 18))])
 (.seq (.reg 0 [oo 19 (.load true 10 (.t 6)),
 oo 20 (.mv (.t 1)),
 oo 21 (.mv (.t 1)),
 oo 22 (.bin .lss (.t 21) (ci 0)),
 oo 23 (.mkmap),
 oo 24 (.build [(.sl [] .nil), (.sl [] .nil), (.int .i64 0), (.sl [] .nil), (.sl [] .nil), (.sl [] .nil), (.int .i64 0), (.sl [] .nil), (.sl [] .nil), (.sl [] .nil), (.int .i64 0), (.int .i64 0), (.bool false), .nilm] [(0, 10, (.t 19)), (10, 1, (.t 20)), (12, 1, (.t 22)), (13, 1, (.t 23))]),
 oo 25 (.box (.t 24)),
 oo 4 (.mv (.t 25))])
 (.ret)))))
def n_meter_New : Fn := ⟨c_meter_New, [.t 4], false, false⟩
theorem ok_meter_New : fnOf Tryd.prog eff keep f_meter_New = some n_meter_New.bare := by kernel_rfl
def b_gram_Grammar_Clone_l0 : ACode :=
  (.seq (.reg 0 [oo 20 (.bin .lss (.t 19) (.t 18))])
 (.seq (.cond (.t 20) (.skip) (.keep [1, 2] [1, 2] (.exit 0)))
 (.keep [1, 2, 18, 19] [1, 2] (.seq (.block 1 (.seq (.reg 0 [oo 21 (.mv (.t 19)),
 oo 3 (.mv (.t 21))])
 (.reg 10 [oo 22 (.fld 3 (.t 1)),
 oo 23 (.load false 1 (.t 22)),
 oo 24 (.mv (.t 3)),
 oo 25 (.fld 3 (.t 1)),
 oo 26 (.load false 1 (.t 25)),
 oo 27 (.mv (.t 3)),
 oo 28 (.ixa 2 (.t 26) (.t 27)),
 oo 29 (.fld 1 (.t 28)),
 oo 30 (.load false 1 (.t 29)),
 oo 31 (.call true (cf f_slices_Clone_gram_Sym_gram_Sym) [(.t 30)]),
 oo 32 (.ixa 2 (.t 23) (.t 24)),
 oo 33 (.fld 1 (.t 32)),
 ox (.store 1 (.t 33) (.t 31))])))
 (.keep [1, 2, 18, 19] [1, 2] (.reg 0 [oo 34 (.bin .add (.t 19) (ci 1)),
 oo 19 (.mv (.t 34))]))))))
def c_gram_Grammar_Clone_l0 : ACode := .keep [1, 2, 18, 19] [1, 2] b_gram_Grammar_Clone_l0
def c_gram_Grammar_Clone : ACode :=
  .seq (.reg 0 [oo 1 (.box (.t 0)),
 oo 2 (.alloc [(.sl [] .nil), (.sl [] .nil), (.int .i64 0), (.sl [] .nil)])])
 (.seq (.reg 7 [oo 4 (.fld 0 (.t 1)),
 oo 5 (.load false 1 (.t 4)),
 oo 6 (.call true (cf f_slices_Clone_string_string) [(.t 5)]),
 oo 7 (.fld 1 (.t 1)),
 oo 8 (.load false 1 (.t 7)),
 oo 9 (.call true (cf f_slices_Clone_string_string) [(.t 8)]),
 oo 10 (.fld 0 (.t 1)),
 ox (.store 1 (.t 10) (.t 6)),
 oo 11 (.fld 1 (.t 1)),
 ox (.store 1 (.t 11) (.t 9))])
 (.seq (.reg 0 [oo 12 (.fld 3 (.t 1)),
 oo 13 (.load false 1 (.t 12)),
 oo 14 (.call true (cf f_slices_Clone_gram_Rule_gram_Rule) [(.t 13)]),
 oo 15 (.fld 3 (.t 1)),
 ox (.store 1 (.t 15) (.t 14))])
 (.seq (.seq (.reg 0 [oo 16 (.fld 3 (.t 1)),
 oo 17 (.load false 1 (.t 16)),
 oo 18 (.len .sl (.t 17)),
 oo 19 (.mv (ci 0))])
 (.block 0 (.loop c_gram_Grammar_Clone_l0)))
 (.keep [1, 2] [1, 2] (.seq (.reg 0 [oo 35 (.load true 4 (.t 1)),
 ox (.store 4 (.t 2) (.t 35))])
 (.ret))))))
def n_gram_Grammar_Clone : Fn := ⟨c_gram_Grammar_Clone, [.c 2 4 true], false, false⟩
theorem ok_gram_Grammar_Clone : fnOf Tryd.prog eff keep f_gram_Grammar_Clone = some n_gram_Grammar_Clone.bare := by kernel_rfl
@[simp] theorem c_gram_Grammar_Clone_l0_norm (st : St) : norm c_gram_Grammar_Clone_l0 st = st.keep [1, 2, 18, 19] [1, 2] := rfl
def c_slices_Clone_string_string : ACode :=
  .seq (.reg 0 [oo 2 (.mv (.c (.sl [] .nil)))])
 (.seq (.seq (.reg 0 [oo 3 (.mv (.t 0)),
 oo 4 (.eqv false .sl (.t 3) (.c (.sl [] .nil)))])
 (.cond (.t 4) (.seq (.reg 0 [oo 2 (.mv (.c (.sl [] .nil)))])
 (.ret)) (.skip)))
 (.keep [0] [] (.seq (.reg 0 [oo 5 (.bslice [(.str ⟨#[]⟩)] 0 []),
 oo 6 (.mv (.t 0)),
 oo 7 (.app 1 (.t 5) (.t 6)),
 oo 2 (.mv (.t 7))])
 (.ret))))
def n_slices_Clone_string_string : Fn := ⟨c_slices_Clone_string_string, [.t 2], false, true⟩
theorem ok_slices_Clone_string_string : fnOf Tryd.prog eff keep f_slices_Clone_string_string = some n_slices_Clone_string_string.bare := by kernel_rfl
def c_slices_Clone_gram_Rule_gram_Rule : ACode :=
  .seq (.reg 0 [oo 2 (.mv (.c (.sl [] .nil)))])
 (.seq (.seq (.reg 0 [oo 3 (.mv (.t 0)),
 oo 4 (.eqv false .sl (.t 3) (.c (.sl [] .nil)))])
 (.cond (.t 4) (.seq (.reg 0 [oo 2 (.mv (.c (.sl [] .nil)))])
 (.ret)) (.skip)))
 (.keep [0] [] (.seq (.reg 0 [oo 5 (.bslice [(.int .i64 0), (.sl [] .nil)] 0 []),
 oo 6 (.mv (.t 0)),
 oo 7 (.app 2 (.t 5) (.t 6)),
 oo 2 (.mv (.t 7))])
 (.ret))))
def n_slices_Clone_gram_Rule_gram_Rule : Fn := ⟨c_slices_Clone_gram_Rule_gram_Rule, [.t 2], false, true⟩
theorem ok_slices_Clone_gram_Rule_gram_Rule : fnOf Tryd.prog eff keep f_slices_Clone_gram_Rule_gram_Rule = some n_slices_Clone_gram_Rule_gram_Rule.bare := by kernel_rfl
def c_slices_Clone_gram_Sym_gram_Sym : ACode :=
  .seq (.reg 0 [oo 2 (.mv (.c (.sl [] .nil)))])
 (.seq (.seq (.reg 0 [oo 3 (.mv (.t 0)),
 oo 4 (.eqv false .sl (.t 3) (.c (.sl [] .nil)))])
 (.cond (.t 4) (.seq (.reg 0 [oo 2 (.mv (.c (.sl [] .nil)))])
 (.ret)) (.skip)))
 (.keep [0] [] (.seq (.reg 0 [oo 5 (.bslice [(.int .i64 0)] 0 []),
 oo 6 (.mv (.t 0)),
 oo 7 (.app 1 (.t 5) (.t 6)),
 oo 2 (.mv (.t 7))])
 (.ret))))
def n_slices_Clone_gram_Sym_gram_Sym : Fn := ⟨c_slices_Clone_gram_Sym_gram_Sym, [.t 2], false, true⟩
theorem ok_slices_Clone_gram_Sym_gram_Sym : fnOf Tryd.prog eff keep f_slices_Clone_gram_Sym_gram_Sym = some n_slices_Clone_gram_Sym_gram_Sym.bare := by kernel_rfl
def b_tmpl_Sorts_l0 : ACode :=
  (.seq (.reg 0 [oo 10 (.bin .lss (.t 9) (.t 8))])
 (.seq (.cond (.t 10) (.skip) (.keep [5] [] (.exit 0)))
 (.keep [190005, 8, 9] [] (.seq (.block 1 (.seq (.reg 0 [oo 11 (.mv (.t 9)),
 oo 6 (.mv (.t 11))])
 (.reg 0 [oo 12 (.mv (.t 5)),
 oo 13 (.mv (.t 6)),
 oo 14 (.bslice [(.int .i64 0)] 1 [(0, (.t 13))]),
 oo 15 (.build [(.bool false), (.sl [] .nil), (.sl [] .nil)] [(2, 1, (.t 14))]),
 oo 16 (.bslice [(.bool false), (.sl [] .nil), (.sl [] .nil)] 1 [(0, (.t 15))]),
 oo 17 (.app 3 (.t 12) (.t 16)),
 oo 5 (.mv (.t 17))])))
 (.keep [190005, 8, 9] [] (.reg 0 [oo 18 (.bin .add (.t 9) (ci 1)),
 oo 9 (.mv (.t 18))]))))))
def c_tmpl_Sorts_l0 : ACode := .keep [190005, 8, 9] [] b_tmpl_Sorts_l0
def c_tmpl_Sorts : ACode :=
  .seq (.reg 0 [oo 2 (.box (.t 0)),
 oo 4 (.mv (.c (.sl [] .nil)))])
 (.seq (.reg 0 [oo 5 (.mv (.c (.sl [] .nil)))])
 (.seq (.seq (.reg 0 [oo 7 (.mv (.t 1)),
 oo 8 (.max [(.t 7), (ci 0)]),
 oo 9 (.mv (ci 0))])
 (.block 0 (.loop c_tmpl_Sorts_l0)))
 (.keep [5] [] (.seq (.reg 0 [oo 19 (.mv (.t 5)),
 oo 4 (.mv (.t 19))])
 (.ret)))))
def n_tmpl_Sorts : Fn := ⟨c_tmpl_Sorts, [.t 4], false, false⟩
theorem ok_tmpl_Sorts : fnOf Tryd.prog eff keep f_tmpl_Sorts = some n_tmpl_Sorts.bare := by kernel_rfl
@[simp] theorem c_tmpl_Sorts_l0_norm (st : St) : norm c_tmpl_Sorts_l0 st = st.keep [190005, 8, 9] [] := rfl
def c_meter_Pot_Put : ACode :=
  .seq (.reg 0 [oo 4 (.box (.t 1)),
 oo 6 (.mv (.c (.bool false)))])
 (.seq (.reg 0 [oo 8 (.load true 2 (.t 4)),
 oo 9 (.call true (cf f_meter_key) [(.t 8)]),
 oo 7 (.mv (.t 9))])
 (.seq (.block 0 (.seq (.reg 0 [oo 11 (.mv (.t 0)),
 oo 12 (.nilc (.t 11)),
 oo 13 (.fld 13 (.t 12)),
 oo 14 (.load false 1 (.t 13)),
 oo 15 (.mv (.t 7)),
 oo 16 (.look .s (.int .i64 0) false (.t 14) (.t 15)),
 oo 17 (.bin .gtr (.t 16) (ci 0)),
 oo 10 (.mv (.t 17))])
 (.cond (.t 10) (.seq (.reg 0 [oo 6 (.mv (.c (.bool true)))])
 (.ret)) (.seq (.reg 33 [oo 19 (.mv (.t 0)),
 oo 20 (.nilc (.t 19)),
 oo 21 (.fld 12 (.t 20)),
 oo 22 (.load false 1 (.t 21)),
 oo 23 (.mv (.t 22)),
 og 24 23 false (.fld 1 (.t 4)),
 og 25 23 false (.load false 1 (.t 24)),
 og 26 23 false (.len .sl (.t 25)),
 og 27 23 false (.bin .gtr (.t 26) (ci 64)),
 oo 28 (.pick (.t 23) (.c (.bool true)) (.t 27)),
 oo 29 (.mv (.t 28)),
 og 30 29 false (.mv (.t 0)),
 og 31 29 false (.nilc (.t 30)),
 og 32 29 false (.fld 0 (.t 31)),
 og 33 29 false (.fld 9 (.t 32)),
 og 34 29 false (.load false 1 (.t 33)),
 og 35 29 false (.len .sl (.t 34)),
 og 36 29 false (.bin .geq (.t 35) (ci 8192)),
 oo 37 (.pick (.t 29) (.c (.bool true)) (.t 36)),
 oo 38 (.mv (.t 37)),
 og 39 38 false (.mv (.t 0)),
 og 40 38 false (.nilc (.t 39)),
 og 41 38 false (.fld 11 (.t 40)),
 og 42 38 false (.load false 1 (.t 41)),
 og 43 38 false (.bin .add (.t 42) (ci 1)),
 og 44 38 false (.fld 1 (.t 4)),
 og 45 38 false (.load false 1 (.t 44)),
 og 46 38 false (.len .sl (.t 45)),
 og 47 38 false (.bin .add (.t 43) (.t 46)),
 og 48 38 false (.mv (.t 0)),
 og 49 38 false (.nilc (.t 48)),
 og 50 38 false (.fld 10 (.t 49)),
 og 51 38 false (.load false 1 (.t 50)),
 og 52 38 false (.bin .gtr (.t 47) (.t 51)),
 oo 53 (.pick (.t 38) (.c (.bool true)) (.t 52)),
 oo 18 (.mv (.t 53))])
 (.cond (.t 18) (.seq (.reg 0 [oo 54 (.mv (.t 0)),
 oo 55 (.nilc (.t 54)),
 oo 56 (.fld 12 (.t 55)),
 ox (.store 1 (.t 56) (.c (.bool true)))])
 (.seq (.reg 0 [oo 6 (.mv (.c (.bool false)))])
 (.ret))) (.skip))))))
 (.keep [0, 2, 4, 7] [4] (.seq (.reg 0 [oo 57 (.mv (.t 0)),
 oo 58 (.nilc (.t 57)),
 oo 59 (.fld 13 (.t 58)),
 oo 60 (.load false 1 (.t 59)),
 oo 61 (.mv (.t 7)),
 oo 62 (.look .s (.int .i64 0) false (.t 60) (.t 61)),
 oo 63 (.bin .add (.t 62) (ci 1)),
 ox (.mset .s (.t 60) (.t 61) (.t 63))])
 (.seq (.reg 8 [oo 64 (.mv (.t 0)),
 oo 65 (.nilc (.t 64)),
 oo 66 (.fld 11 (.t 65)),
 oo 67 (.load false 1 (.t 66)),
 oo 68 (.fld 1 (.t 4)),
 oo 69 (.load false 1 (.t 68)),
 oo 70 (.len .sl (.t 69)),
 oo 71 (.bin .add (ci 1) (.t 70)),
 oo 72 (.bin .add (.t 67) (.t 71)),
 oo 73 (.nilc (.t 64)),
 oo 74 (.fld 11 (.t 73)),
 ox (.store 1 (.t 74) (.t 72))])
 (.seq (.reg 14 [oo 75 (.mv (.t 0)),
 oo 76 (.mv (.t 0)),
 oo 77 (.nilc (.t 76)),
 oo 78 (.fld 0 (.t 77)),
 oo 79 (.fld 4 (.t 78)),
 oo 80 (.fld 3 (.t 79)),
 oo 81 (.load false 1 (.t 80)),
 oo 82 (.fld 0 (.t 4)),
 oo 83 (.load false 1 (.t 82)),
 oo 84 (.fld 1 (.t 4)),
 oo 85 (.load false 1 (.t 84)),
 oo 86 (.call true (cf f_slices_Clone_gram_Sym_gram_Sym) [(.t 85)]),
 oo 87 (.build [(.int .i64 0), (.sl [] .nil)] [(0, 1, (.t 83)), (1, 1, (.t 86))]),
 oo 88 (.bslice [(.int .i64 0), (.sl [] .nil)] 1 [(0, (.t 87))]),
 oo 89 (.app 2 (.t 81) (.t 88)),
 oo 90 (.nilc (.t 75)),
 oo 91 (.fld 0 (.t 90)),
 oo 92 (.fld 4 (.t 91)),
 oo 93 (.fld 3 (.t 92)),
 ox (.store 1 (.t 93) (.t 89))])
 (.seq (.reg 0 [oo 94 (.mv (.t 0)),
 oo 95 (.mv (.t 0)),
 oo 96 (.nilc (.t 95)),
 oo 97 (.fld 0 (.t 96)),
 oo 98 (.fld 9 (.t 97)),
 oo 99 (.load false 1 (.t 98)),
 oo 100 (.mv (.t 2)),
 oo 101 (.bslice [(.sl [] .nil)] 1 [(0, (.t 100))]),
 oo 102 (.app 1 (.t 99) (.t 101)),
 oo 103 (.nilc (.t 94)),
 oo 104 (.fld 0 (.t 103)),
 oo 105 (.fld 9 (.t 104)),
 ox (.store 1 (.t 105) (.t 102))])
 (.seq (.reg 0 [oo 6 (.mv (.c (.bool true)))])
 (.ret)))))))))
def n_meter_Pot_Put : Fn := ⟨c_meter_Pot_Put, [.t 6], false, false⟩
theorem ok_meter_Pot_Put : fnOf Tryd.prog eff keep f_meter_Pot_Put = some n_meter_Pot_Put.bare := by kernel_rfl
def b_meter_key_l0 : ACode :=
  (.seq (.reg 0 [oo 14 (.bin .lss (.t 13) (.t 12))])
 (.seq (.cond (.t 14) (.skip) (.keep [3] [3] (.exit 0)))
 (.keep [3, 11, 12, 13] [3] (.seq (.block 1 (.seq (.reg 0 [oo 15 (.ixa 1 (.t 11) (.t 13)),
 oo 16 (.load false 1 (.t 15)),
 oo 5 (.mv (.t 16))])
 (.reg 0 [oo 17 (.mv (.t 5)),
 oo 18 (.call true (cf f_strconv_Itoa) [(.t 17)]),
 oo 19 (.bin .add (.c (.str ⟨#[44]⟩)) (.t 18)),
 oo 20 (.call true (cf f_none_140) [(.t 3), (.t 19)])])))
 (.keep [3, 11, 12, 13] [3] (.reg 0 [oo 21 (.bin .add (.t 13) (ci 1)),
 oo 13 (.mv (.t 21))]))))))
def c_meter_key_l0 : ACode := .keep [3, 11, 12, 13] [3] b_meter_key_l0
def c_meter_key : ACode :=
  .seq (.reg 0 [oo 1 (.box (.t 0)),
 oo 2 (.mv (.c (.str ⟨#[]⟩)))])
 (.seq (.reg 0 [oo 3 (.alloc [.nilp, (.sl [] .nil)])])
 (.seq (.reg 0 [oo 6 (.fld 0 (.t 1)),
 oo 7 (.load false 1 (.t 6)),
 oo 8 (.call true (cf f_strconv_Itoa) [(.t 7)]),
 oo 9 (.call true (cf f_none_140) [(.t 3), (.t 8)])])
 (.seq (.seq (.reg 0 [oo 10 (.fld 1 (.t 1)),
 oo 11 (.load false 1 (.t 10)),
 oo 12 (.len .sl (.t 11)),
 oo 13 (.mv (ci 0))])
 (.block 0 (.loop c_meter_key_l0)))
 (.keep [3] [3] (.seq (.reg 0 [oo 22 (.call true (cf f_none_142) [(.t 3)]),
 oo 2 (.mv (.t 22))])
 (.ret))))))
def n_meter_key : Fn := ⟨c_meter_key, [.t 2], false, false⟩
theorem ok_meter_key : fnOf Tryd.prog eff keep f_meter_key = some n_meter_key.bare := by kernel_rfl
@[simp] theorem c_meter_key_l0_norm (st : St) : norm c_meter_key_l0 st = st.keep [3, 11, 12, 13] [3] := rfl
def c_law12_Awake : ACode :=
  .seq (.reg 0 [oo 0 (.mv (.c (.bool false)))])
 (.seq (.reg 0 [oo 2 (.call true (cf f_law02_Example) []),
 oo 3 (.call true (cf f_tmpl_Plain) [(.t 2), (ci 0)]),
 oo 1 (.mv (.t 3))])
 (.seq (.reg 0 [oo 4 (.call true (cf f_law02_Awake) []),
 oo 5 (.mv (.t 4)),
 og 6 5 true (.mv (.t 1)),
 og 7 5 true (.len .sl (.t 6)),
 og 8 5 true (.bin .eql (.t 7) (ci 1)),
 oo 9 (.pick (.t 5) (.t 8) (.c (.bool false))),
 oo 10 (.mv (.t 9)),
 og 11 10 true (.mv (.t 1)),
 og 12 10 true (.ixa 3 (.t 11) (ci 0)),
 og 13 10 true (.fld 0 (.t 12)),
 og 14 10 true (.load false 1 (.t 13)),
 og 15 10 true (.bin .eql (.t 14) (ci 0)),
 oo 16 (.pick (.t 10) (.t 15) (.c (.bool false))),
 oo 17 (.mv (.t 16)),
 og 18 17 true (.mv (.t 1)),
 og 19 17 true (.ixa 3 (.t 18) (ci 0)),
 og 20 17 true (.fld 1 (.t 19)),
 og 21 17 true (.load false 1 (.t 20)),
 og 22 17 true (.bin .eql (.t 21) (ci 0)),
 oo 23 (.pick (.t 17) (.t 22) (.c (.bool false))),
 oo 24 (.mv (.t 23)),
 og 25 24 true (.mv (.t 1)),
 og 26 24 true (.ixa 3 (.t 25) (ci 0)),
 og 27 24 true (.fld 2 (.t 26)),
 og 28 24 true (.load false 1 (.t 27)),
 og 29 24 true (.len .sl (.t 28)),
 og 30 24 true (.bin .eql (.t 29) (ci 2)),
 oo 31 (.pick (.t 24) (.t 30) (.c (.bool false))),
 oo 32 (.mv (.t 31)),
 og 33 32 true (.mv (.t 1)),
 og 34 32 true (.ixa 3 (.t 33) (ci 0)),
 og 35 32 true (.fld 2 (.t 34)),
 og 36 32 true (.load false 1 (.t 35)),
 og 37 32 true (.ixa 3 (.t 36) (ci 1)),
 og 38 32 true (.fld 0 (.t 37)),
 og 39 32 true (.load false 1 (.t 38)),
 og 40 32 true (.bin .eql (.t 39) (ci 1)),
 oo 41 (.pick (.t 32) (.t 40) (.c (.bool false))),
 oo 42 (.mv (.t 41)),
 og 43 42 true (.mv (.t 1)),
 og 44 42 true (.ixa 3 (.t 43) (ci 0)),
 og 45 42 true (.fld 2 (.t 44)),
 og 46 42 true (.load false 1 (.t 45)),
 og 47 42 true (.ixa 3 (.t 46) (ci 1)),
 og 48 42 true (.fld 1 (.t 47)),
 og 49 42 true (.load false 1 (.t 48)),
 og 50 42 true (.bin .eql (.t 49) (ci 1)),
 oo 51 (.pick (.t 42) (.t 50) (.c (.bool false))),
 oo 0 (.mv (.t 51))])
 (.ret)))
def n_law12_Awake : Fn := ⟨c_law12_Awake, [.t 0], false, false⟩
theorem ok_law12_Awake : fnOf Tryd.prog eff keep f_law12_Awake = some n_law12_Awake.bare := by kernel_rfl
def b_tmpl_Plain_l0 : ACode :=
  (.seq (.reg 0 [oo 26 (.bin .lss (.t 25) (.t 24))])
 (.seq (.cond (.t 26) (.skip) (.keep [5] [5] (.exit 0)))
 (.keep [5, 24, 25] [5] (.seq (.block 1 (.seq (.reg 0 [oo 27 (.mv (.t 25)),
 oo 6 (.mv (.t 27))])
 (.reg 0 [oo 28 (.fld 2 (.t 5)),
 oo 29 (.load false 1 (.t 28)),
 oo 30 (.mv (.t 6)),
 oo 31 (.build [(.int .i64 0), (.int .i64 0), (.sl [] .nil)] [(0, 1, (ci 1)), (1, 1, (.t 30))]),
 oo 32 (.bslice [(.int .i64 0), (.int .i64 0), (.sl [] .nil)] 1 [(0, (.t 31))]),
 oo 33 (.app 3 (.t 29) (.t 32)),
 oo 34 (.fld 2 (.t 5)),
 ox (.store 1 (.t 34) (.t 33))])))
 (.keep [5, 24, 25] [5] (.reg 0 [oo 35 (.bin .add (.t 25) (ci 1)),
 oo 25 (.mv (.t 35))]))))))
def c_tmpl_Plain_l0 : ACode := .keep [5, 24, 25] [5] b_tmpl_Plain_l0
def c_tmpl_Plain : ACode :=
  .seq (.reg 0 [oo 2 (.box (.t 0)),
 oo 4 (.mv (.c (.sl [] .nil)))])
 (.seq (.seq (.reg 0 [oo 7 (.mv (.t 1)),
 oo 8 (.bin .lss (.t 7) (ci 0)),
 oo 9 (.mv (.t 8)),
 og 10 9 false (.mv (.t 1)),
 og 11 9 false (.fld 3 (.t 2)),
 og 12 9 false (.load false 1 (.t 11)),
 og 13 9 false (.len .sl (.t 12)),
 og 14 9 false (.bin .geq (.t 10) (.t 13)),
 oo 15 (.pick (.t 9) (.c (.bool true)) (.t 14))])
 (.cond (.t 15) (.seq (.reg 0 [oo 4 (.mv (.c (.sl [] .nil)))])
 (.ret)) (.skip)))
 (.keep [1, 2] [2] (.seq (.reg 0 [oo 16 (.mv (.t 1)),
 oo 17 (.build [(.int .i64 0), (.int .i64 0), (.sl [] .nil)] [(0, 1, (ci 0)), (1, 1, (.t 16))]),
 oo 5 (.alloc [(.int .i64 0), (.int .i64 0), (.sl [] .nil)]),
 ox (.store 3 (.t 5) (.t 17))])
 (.seq (.seq (.reg 0 [oo 18 (.fld 3 (.t 2)),
 oo 19 (.load false 1 (.t 18)),
 oo 20 (.mv (.t 1)),
 oo 21 (.ixa 2 (.t 19) (.t 20)),
 oo 22 (.fld 1 (.t 21)),
 oo 23 (.load false 1 (.t 22)),
 oo 24 (.len .sl (.t 23)),
 oo 25 (.mv (ci 0))])
 (.block 0 (.loop c_tmpl_Plain_l0)))
 (.keep [5] [5] (.seq (.reg 0 [oo 36 (.load true 3 (.t 5)),
 oo 37 (.bslice [(.int .i64 0), (.int .i64 0), (.sl [] .nil)] 1 [(0, (.t 36))]),
 oo 4 (.mv (.t 37))])
 (.ret)))))))
def n_tmpl_Plain : Fn := ⟨c_tmpl_Plain, [.t 4], false, false⟩
theorem ok_tmpl_Plain : fnOf Tryd.prog eff keep f_tmpl_Plain = some n_tmpl_Plain.bare := by kernel_rfl
@[simp] theorem c_tmpl_Plain_l0_norm (st : St) : norm c_tmpl_Plain_l0 st = st.keep [5, 24, 25] [5] := rfl
def c_meter_Pot_Spoilt : ACode :=
  .seq (.reg 0 [oo 2 (.mv (.c (.bool false)))])
 (.seq (.reg 0 [oo 3 (.mv (.t 0)),
 oo 4 (.nilc (.t 3)),
 oo 5 (.fld 12 (.t 4)),
 oo 6 (.load false 1 (.t 5)),
 oo 2 (.mv (.t 6))])
 (.ret))
def n_meter_Pot_Spoilt : Fn := ⟨c_meter_Pot_Spoilt, [.t 2], false, false⟩
theorem ok_meter_Pot_Spoilt : fnOf Tryd.prog eff keep f_meter_Pot_Spoilt = some n_meter_Pot_Spoilt.bare := by kernel_rfl
def c_meter_Pot_Size : ACode :=
  .seq (.reg 0 [oo 2 (.mv (ci 0))])
 (.seq (.reg 0 [oo 3 (.mv (.t 0)),
 oo 4 (.nilc (.t 3)),
 oo 5 (.fld 11 (.t 4)),
 oo 6 (.load false 1 (.t 5)),
 oo 2 (.mv (.t 6))])
 (.ret))
def n_meter_Pot_Size : Fn := ⟨c_meter_Pot_Size, [.t 2], false, false⟩
theorem ok_meter_Pot_Size : fnOf Tryd.prog eff keep f_meter_Pot_Size = some n_meter_Pot_Size.bare := by kernel_rfl
def b_law14_may_l0 : ACode :=
  (.seq (.reg 0 [oo 28 (.bin .lss (.t 27) (.t 26))])
 (.seq (.cond (.t 28) (.skip) (.keep [] [] (.exit 0)))
 (.keep [0, 1, 25, 26, 27] [] (.seq (.block 1 (.seq (.reg 0 [oo 29 (.ixa 1 (.t 25) (.t 27)),
 oo 30 (.load false 1 (.t 29)),
 oo 8 (.mv (.t 30))])
 (.seq (.reg 0 [oo 31 (.mv (.t 8)),
 oo 32 (.call true (cf f_gram_Sym_IsTerm) [(.t 31)]),
 oo 33 (.mv (.t 32)),
 og 34 33 true (.mv (.t 8)),
 og 35 33 true (.call true (cf f_gram_Sym_Place) [(.t 34)]),
 og 36 33 true (.mv (.t 1)),
 og 37 33 true (.bin .geq (.t 35) (.t 36)),
 oo 38 (.pick (.t 33) (.t 37) (.c (.bool false))),
 oo 39 (.mv (.t 38)),
 og 40 39 false (.mv (.t 8)),
 og 41 39 false (.call true (cf f_gram_Sym_IsTerm) [(.t 40)]),
 og 42 39 false (.un .not (.t 41)),
 og 43 39 false (.mv (.t 42)),
 og 44 43 true (.mv (.t 8)),
 og 45 43 true (.call true (cf f_gram_Sym_Place) [(.t 44)]),
 og 46 43 true (.mv (.t 0)),
 og 47 43 true (.bin .geq (.t 45) (.t 46)),
 og 48 39 false (.pick (.t 43) (.t 47) (.c (.bool false))),
 oo 49 (.pick (.t 39) (.c (.bool true)) (.t 48))])
 (.cond (.t 49) (.seq (.reg 0 [oo 6 (.mv (.c (.bool false)))])
 (.keep [6] [] (.ret))) (.skip)))))
 (.keep [0, 1, 25, 26, 27] [] (.reg 0 [oo 50 (.bin .add (.t 27) (ci 1)),
 oo 27 (.mv (.t 50))]))))))
def c_law14_may_l0 : ACode := .keep [0, 1, 25, 26, 27] [] b_law14_may_l0
def c_law14_may : ACode :=
  .seq (.reg 0 [oo 5 (.box (.t 2)),
 oo 6 (.mv (.c (.bool false)))])
 (.seq (.seq (.reg 0 [oo 9 (.fld 0 (.t 5)),
 oo 10 (.load false 1 (.t 9)),
 oo 11 (.bin .lss (.t 10) (ci 0)),
 oo 12 (.mv (.t 11)),
 og 13 12 false (.fld 0 (.t 5)),
 og 14 12 false (.load false 1 (.t 13)),
 og 15 12 false (.mv (.t 0)),
 og 16 12 false (.bin .geq (.t 14) (.t 15)),
 oo 17 (.pick (.t 12) (.c (.bool true)) (.t 16)),
 oo 18 (.mv (.t 17)),
 og 19 18 false (.fld 1 (.t 5)),
 og 20 18 false (.load false 1 (.t 19)),
 og 21 18 false (.len .sl (.t 20)),
 og 22 18 false (.bin .gtr (.t 21) (ci 70)),
 oo 23 (.pick (.t 18) (.c (.bool true)) (.t 22))])
 (.cond (.t 23) (.seq (.reg 0 [oo 6 (.mv (.c (.bool false)))])
 (.ret)) (.skip)))
 (.keep [0, 1, 5] [5] (.seq (.seq (.reg 0 [oo 24 (.fld 1 (.t 5)),
 oo 25 (.load false 1 (.t 24)),
 oo 26 (.len .sl (.t 25)),
 oo 27 (.mv (ci 0))])
 (.block 0 (.loop c_law14_may_l0)))
 (.keep [] [] (.seq (.reg 0 [oo 6 (.mv (.c (.bool true)))])
 (.ret))))))
def n_law14_may : Fn := ⟨c_law14_may, [.t 6], false, false⟩
theorem ok_law14_may : fnOf Tryd.prog eff keep f_law14_may = some n_law14_may.bare := by kernel_rfl
@[simp] theorem c_law14_may_l0_norm (st : St) : norm c_law14_may_l0 st = st.keep [0, 1, 25, 26, 27] [] := rfl
def c_law14_mark : ACode :=
  .seq (.reg 0 [oo 2 (.mv (.c (.sl [] .nil)))])
 (.seq (.reg 0 [oo 3 (.mv (.t 0)),
 oo 4 (.build [(.int .i64 0), (.int .i64 0), (.sl [] .nil)] [(0, 1, (ci 1)), (1, 1, (.t 3))]),
 oo 5 (.bslice [(.int .i64 0), (.int .i64 0), (.sl [] .nil)] 1 [(0, (.t 4))]),
 oo 2 (.mv (.t 5))])
 (.ret))
def n_law14_mark : Fn := ⟨c_law14_mark, [.t 2], false, false⟩
theorem ok_law14_mark : fnOf Tryd.prog eff keep f_law14_mark = some n_law14_mark.bare := by kernel_rfl
def c_meter_Pot_Table : ACode :=
  .seq (.reg 0 [oo 2 (.alloc [(.sl [] .nil), (.sl [] .nil), (.int .i64 0), (.sl [] .nil), (.sl [] .nil), (.sl [] .nil), (.int .i64 0), (.sl [] .nil), (.sl [] .nil), (.sl [] .nil)]),
 oo 3 (.mv (ci 0))])
 (.seq (.seq (.reg 0 [oo 5 (.mv (.t 0)),
 oo 6 (.nilc (.t 5)),
 oo 7 (.fld 12 (.t 6)),
 oo 8 (.load false 1 (.t 7))])
 (.cond (.t 8) (.seq (.reg 0 [oo 9 (.build [(.sl [] .nil), (.sl [] .nil), (.int .i64 0), (.sl [] .nil), (.sl [] .nil), (.sl [] .nil), (.int .i64 0), (.sl [] .nil), (.sl [] .nil), (.sl [] .nil)] []),
 ox (.store 10 (.t 2) (.t 9)),
 oo 3 (.mv (ci 11))])
 (.ret)) (.skip)))
 (.keep [0, 2] [2] (.seq (.reg 0 [oo 10 (.mv (.t 0)),
 oo 11 (.nilc (.t 10)),
 oo 12 (.fld 0 (.t 11)),
 oo 13 (.load true 10 (.t 12)),
 oo 4 (.alloc [(.sl [] .nil), (.sl [] .nil), (.int .i64 0), (.sl [] .nil), (.sl [] .nil), (.sl [] .nil), (.int .i64 0), (.sl [] .nil), (.sl [] .nil), (.sl [] .nil)]),
 ox (.store 10 (.t 4) (.t 13))])
 (.seq (.reg 0 [oo 14 (.fld 4 (.t 4)),
 oo 15 (.load true 4 (.t 14)),
 oo 16 (.call true (cf f_gram_Grammar_Clone) [(.t 15)]),
 oo 17 (.fld 4 (.t 4)),
 ox (.store 4 (.t 17) (.t 16))])
 (.seq (.reg 7 [oo 18 (.fld 8 (.t 4)),
 oo 19 (.load false 1 (.t 18)),
 oo 20 (.call true (cf f_slices_Clone_tmpl_Sort_tmpl_Sort) [(.t 19)]),
 oo 21 (.fld 9 (.t 4)),
 oo 22 (.load false 1 (.t 21)),
 oo 23 (.call true (cf f_slices_Clone_tmpl_Item_tmpl_Item) [(.t 22)]),
 oo 24 (.fld 8 (.t 4)),
 ox (.store 1 (.t 24) (.t 20)),
 oo 25 (.fld 9 (.t 4)),
 ox (.store 1 (.t 25) (.t 23))])
 (.seq (.reg 0 [oo 26 (.load true 10 (.t 4)),
 ox (.store 10 (.t 2) (.t 26)),
 oo 3 (.mv (ci 0))])
 (.ret)))))))
def n_meter_Pot_Table : Fn := ⟨c_meter_Pot_Table, [.c 2 10 true, .t 3], false, false⟩
theorem ok_meter_Pot_Table : fnOf Tryd.prog eff keep f_meter_Pot_Table = some n_meter_Pot_Table.bare := by kernel_rfl
def c_slices_Clone_tmpl_Sort_tmpl_Sort : ACode :=
  .seq (.reg 0 [oo 2 (.mv (.c (.sl [] .nil)))])
 (.seq (.seq (.reg 0 [oo 3 (.mv (.t 0)),
 oo 4 (.eqv false .sl (.t 3) (.c (.sl [] .nil)))])
 (.cond (.t 4) (.seq (.reg 0 [oo 2 (.mv (.c (.sl [] .nil)))])
 (.ret)) (.skip)))
 (.keep [0] [] (.seq (.reg 0 [oo 5 (.bslice [(.bool false), (.sl [] .nil), (.sl [] .nil)] 0 []),
 oo 6 (.mv (.t 0)),
 oo 7 (.app 3 (.t 5) (.t 6)),
 oo 2 (.mv (.t 7))])
 (.ret))))
def n_slices_Clone_tmpl_Sort_tmpl_Sort : Fn := ⟨c_slices_Clone_tmpl_Sort_tmpl_Sort, [.t 2], false, true⟩
theorem ok_slices_Clone_tmpl_Sort_tmpl_Sort : fnOf Tryd.prog eff keep f_slices_Clone_tmpl_Sort_tmpl_Sort = some n_slices_Clone_tmpl_Sort_tmpl_Sort.bare := by kernel_rfl
def c_slices_Clone_tmpl_Item_tmpl_Item : ACode :=
  .seq (.reg 0 [oo 2 (.mv (.c (.sl [] .nil)))])
 (.seq (.seq (.reg 0 [oo 3 (.mv (.t 0)),
 oo 4 (.eqv false .sl (.t 3) (.c (.sl [] .nil)))])
 (.cond (.t 4) (.seq (.reg 0 [oo 2 (.mv (.c (.sl [] .nil)))])
 (.ret)) (.skip)))
 (.keep [0] [] (.seq (.reg 0 [oo 5 (.bslice [(.sl [] .nil)] 0 []),
 oo 6 (.mv (.t 0)),
 oo 7 (.app 1 (.t 5) (.t 6)),
 oo 2 (.mv (.t 7))])
 (.ret))))
def n_slices_Clone_tmpl_Item_tmpl_Item : Fn := ⟨c_slices_Clone_tmpl_Item_tmpl_Item, [.t 2], false, true⟩
theorem ok_slices_Clone_tmpl_Item_tmpl_Item : fnOf Tryd.prog eff keep f_slices_Clone_tmpl_Item_tmpl_Item = some n_slices_Clone_tmpl_Item_tmpl_Item.bare := by kernel_rfl
def c_gram_Grammar_Find : ACode :=
  .seq (.reg 0 [oo 2 (.box (.t 0)),
 oo 3 (.box (.t 1)),
 oo 4 (.mv (ci 0))])
 (.seq (.reg 0 [oo 5 (.fld 3 (.t 2)),
 oo 6 (.load false 1 (.t 5)),
 oo 7 (.mkf f_gram_Grammar_Find_1 [(.t 3)]),
 oo 8 (.call true (cf f_slices_IndexFunc_gram_Rule_gram_Rule) [(.t 6), (.t 7)]),
 oo 4 (.mv (.t 8))])
 (.ret))
def n_gram_Grammar_Find : Fn := ⟨c_gram_Grammar_Find, [.t 4], false, false⟩
theorem ok_gram_Grammar_Find : fnOf Tryd.prog eff keep f_gram_Grammar_Find = some n_gram_Grammar_Find.bare := by kernel_rfl
end Go.Proofs.YtlacnkjkcikodaaDoor.Am
end
section
set_option linter.unusedVariables false
set_option maxRecDepth 1000000
namespace Go.Proofs.YtlacnkjkcikodaaDoor.Am
open Go
def c_gram_Grammar_Find_1 : ACode :=
  .seq (.reg 0 [oo 2 (.box (.t 0)),
 oo 3 (.mv (.c (.bool false)))])
 (.seq (.reg 0 [oo 4 (.load true 2 (.t 2)),
 oo 5 (.load true 2 (.t 1)),
 oo 6 (.call true (cf f_gram_Rule_Same) [(.t 4), (.t 5)]),
 oo 3 (.mv (.t 6))])
 (.ret))
def n_gram_Grammar_Find_1 : Fn := ⟨c_gram_Grammar_Find_1, [.t 3], false, false⟩
theorem ok_gram_Grammar_Find_1 : fnOf Tryd.prog eff keep f_gram_Grammar_Find_1 = some n_gram_Grammar_Find_1.bare := by kernel_rfl
def c_gram_Rule_Same : ACode :=
  .seq (.reg 0 [oo 2 (.box (.t 0)),
 oo 3 (.box (.t 1)),
 oo 4 (.mv (.c (.bool false)))])
 (.seq (.reg 0 [oo 5 (.fld 0 (.t 2)),
 oo 6 (.load false 1 (.t 5)),
 oo 7 (.fld 0 (.t 3)),
 oo 8 (.load false 1 (.t 7)),
 oo 9 (.bin .eql (.t 6) (.t 8)),
 oo 10 (.mv (.t 9)),
 og 11 10 true (.fld 1 (.t 2)),
 og 12 10 true (.load false 1 (.t 11)),
 og 13 10 true (.fld 1 (.t 3)),
 og 14 10 true (.load false 1 (.t 13)),
 og 15 10 true (.call true (cf f_slices_Equal_gram_Sym_gram_Sym) [(.t 12), (.t 14)]),
 oo 16 (.pick (.t 10) (.t 15) (.c (.bool false))),
 oo 4 (.mv (.t 16))])
 (.ret))
def n_gram_Rule_Same : Fn := ⟨c_gram_Rule_Same, [.t 4], false, false⟩
theorem ok_gram_Rule_Same : fnOf Tryd.prog eff keep f_gram_Rule_Same = some n_gram_Rule_Same.bare := by kernel_rfl
def b_slices_Equal_gram_Sym_gram_Sym_l0 : ACode :=
  (.seq (.reg 0 [oo 14 (.bin .lss (.t 13) (.t 12))])
 (.seq (.cond (.t 14) (.skip) (.keep [] [] (.exit 0)))
 (.keep [0, 1, 12, 13] [] (.seq (.block 1 (.seq (.reg 0 [oo 15 (.mv (.t 13)),
 oo 5 (.mv (.t 15))])
 (.seq (.reg 8 [oo 16 (.mv (.t 0)),
 oo 17 (.mv (.t 5)),
 oo 18 (.ixa 1 (.t 16) (.t 17)),
 oo 19 (.load false 1 (.t 18)),
 oo 20 (.mv (.t 1)),
 oo 21 (.mv (.t 5)),
 oo 22 (.ixa 1 (.t 20) (.t 21)),
 oo 23 (.load false 1 (.t 22)),
 oo 24 (.bin .neq (.t 19) (.t 23))])
 (.cond (.t 24) (.seq (.reg 0 [oo 4 (.mv (.c (.bool false)))])
 (.keep [4] [] (.ret))) (.skip)))))
 (.keep [0, 1, 12, 13] [] (.reg 0 [oo 25 (.bin .add (.t 13) (ci 1)),
 oo 13 (.mv (.t 25))]))))))
def c_slices_Equal_gram_Sym_gram_Sym_l0 : ACode := .keep [0, 1, 12, 13] [] b_slices_Equal_gram_Sym_gram_Sym_l0
def c_slices_Equal_gram_Sym_gram_Sym : ACode :=
  .seq (.reg 0 [oo 4 (.mv (.c (.bool false)))])
 (.seq (.seq (.reg 0 [oo 6 (.mv (.t 0)),
 oo 7 (.len .sl (.t 6)),
 oo 8 (.mv (.t 1)),
 oo 9 (.len .sl (.t 8)),
 oo 10 (.bin .neq (.t 7) (.t 9))])
 (.cond (.t 10) (.seq (.reg 0 [oo 4 (.mv (.c (.bool false)))])
 (.ret)) (.skip)))
 (.keep [0, 1] [] (.seq (.seq (.reg 0 [oo 11 (.mv (.t 0)),
 oo 12 (.len .sl (.t 11)),
 oo 13 (.mv (ci 0))])
 (.block 0 (.loop c_slices_Equal_gram_Sym_gram_Sym_l0)))
 (.keep [] [] (.seq (.reg 0 [oo 4 (.mv (.c (.bool true)))])
 (.ret))))))
def n_slices_Equal_gram_Sym_gram_Sym : Fn := ⟨c_slices_Equal_gram_Sym_gram_Sym, [.t 4], false, false⟩
theorem ok_slices_Equal_gram_Sym_gram_Sym : fnOf Tryd.prog eff keep f_slices_Equal_gram_Sym_gram_Sym = some n_slices_Equal_gram_Sym_gram_Sym.bare := by kernel_rfl
@[simp] theorem c_slices_Equal_gram_Sym_gram_Sym_l0_norm (st : St) : norm c_slices_Equal_gram_Sym_gram_Sym_l0 st = st.keep [0, 1, 12, 13] [] := rfl
def b_slices_IndexFunc_gram_Rule_gram_Rule_l0 : ACode :=
  (.seq (.reg 0 [oo 9 (.bin .lss (.t 8) (.t 7))])
 (.seq (.cond (.t 9) (.skip) (.keep [] [] (.exit 0)))
 (.keep [0, 1, 7, 8] [] (.seq (.block 1 (.seq (.reg 0 [oo 10 (.mv (.t 8)),
 oo 5 (.mv (.t 10))])
 (.keep [0, 1, 5, 7, 8] [] (.seq (.reg 0 [oo 11 (.mv (.t 1)),
 oo 12 (.mv (.t 0)),
 oo 13 (.mv (.t 5)),
 oo 14 (.ixa 2 (.t 12) (.t 13)),
 oo 15 (.load true 2 (.t 14)),
 oo 16 (.call false (.t 11) [(.t 15)])])
 (.cond (.t 16) (.seq (.reg 0 [oo 17 (.mv (.t 5)),
 oo 4 (.mv (.t 17))])
 (.keep [4] [] (.ret))) (.skip))))))
 (.keep [0, 1, 7, 8] [] (.reg 0 [oo 18 (.bin .add (.t 8) (ci 1)),
 oo 8 (.mv (.t 18))]))))))
def c_slices_IndexFunc_gram_Rule_gram_Rule_l0 : ACode := .keep [0, 1, 7, 8] [] b_slices_IndexFunc_gram_Rule_gram_Rule_l0
def c_slices_IndexFunc_gram_Rule_gram_Rule : ACode :=
  .seq (.reg 0 [oo 4 (.mv (ci 0))])
 (.seq (.seq (.reg 0 [oo 6 (.mv (.t 0)),
 oo 7 (.len .sl (.t 6)),
 oo 8 (.mv (ci 0))])
 (.block 0 (.loop c_slices_IndexFunc_gram_Rule_gram_Rule_l0)))
 (.keep [] [] (.seq (.reg 0 [oo 4 (.mv (ci (-1)))])
 (.ret))))
def n_slices_IndexFunc_gram_Rule_gram_Rule : Fn := ⟨c_slices_IndexFunc_gram_Rule_gram_Rule, [.t 4], false, false⟩
theorem ok_slices_IndexFunc_gram_Rule_gram_Rule : fnOf Tryd.prog eff keep f_slices_IndexFunc_gram_Rule_gram_Rule = some n_slices_IndexFunc_gram_Rule_gram_Rule.bare := by kernel_rfl
@[simp] theorem c_slices_IndexFunc_gram_Rule_gram_Rule_l0_norm (st : St) : norm c_slices_IndexFunc_gram_Rule_gram_Rule_l0 st = st.keep [0, 1, 7, 8] [] := rfl
def b_law14_MeterPlays_l0 : ACode :=
  (.seq (.reg 0 [oo 153 (.bin .lss (.t 152) (.t 151))])
 (.seq (.cond (.t 153) (.skip) (.keep [3, 7, 8, 48, 49, 50] [3, 8] (.exit 3)))
 (.keep [3, 7, 8, 13, 14, 15, 16, 18, 19, 48, 49, 50, 151, 152] [3, 8] (.seq (.block 4 (.seq (.reg 0 [oo 154 (.mv (.t 152)),
 oo 20 (.mv (.t 154))])
 (.seq (.reg 46 [oo 155 (.mv (.t 15)),
 oo 156 (.mv (.t 20)),
 oo 157 (.ixa 2 (.t 155) (.t 156)),
 oo 158 (.load true 2 (.t 157)),
 oo 159 (.call true (cf f_law02_OfRule) [(.t 158)]),
 oo 160 (.mv (.t 18)),
 oo 161 (.mv (.t 20)),
 oo 162 (.ixa 2 (.t 160) (.t 161)),
 oo 163 (.load true 2 (.t 162)),
 oo 164 (.call true (cf f_ref02_Same) [(.t 159), (.t 163)]),
 oo 165 (.un .not (.t 164)),
 oo 166 (.mv (.t 165)),
 og 167 166 false (.mv (.t 16)),
 og 168 166 false (.mv (.t 20)),
 og 169 166 false (.ixa 1 (.t 167) (.t 168)),
 og 170 166 false (.load false 1 (.t 169)),
 og 171 166 false (.call true (cf f_law12_Items) [(.t 170)]),
 og 172 166 false (.mv (.t 19)),
 og 173 166 false (.mv (.t 20)),
 og 174 166 false (.ixa 1 (.t 172) (.t 173)),
 og 175 166 false (.load false 1 (.t 174)),
 og 176 166 false (.call true (cf f_ref12_Same) [(.t 171), (.t 175)]),
 og 177 166 false (.un .not (.t 176)),
 oo 178 (.pick (.t 166) (.c (.bool true)) (.t 177)),
 oo 179 (.mv (.t 178)),
 og 180 179 false (.mv (.t 13)),
 og 181 179 false (.mv (.t 20)),
 og 182 179 false (.ixa 2 (.t 180) (.t 181)),
 og 183 179 false (.load true 2 (.t 182)),
 og 184 179 false (.mv (.t 15)),
 og 185 179 false (.mv (.t 20)),
 og 186 179 false (.ixa 2 (.t 184) (.t 185)),
 og 187 179 false (.load true 2 (.t 186)),
 og 188 179 false (.call true (cf f_gram_Rule_Same) [(.t 183), (.t 187)]),
 og 189 179 false (.un .not (.t 188)),
 oo 190 (.pick (.t 179) (.c (.bool true)) (.t 189)),
 oo 191 (.mv (.t 190)),
 og 192 191 false (.mv (.t 14)),
 og 193 191 false (.mv (.t 20)),
 og 194 191 false (.ixa 1 (.t 192) (.t 193)),
 og 195 191 false (.load false 1 (.t 194)),
 og 196 191 false (.call true (cf f_law12_Items) [(.t 195)]),
 og 197 191 false (.mv (.t 19)),
 og 198 191 false (.mv (.t 20)),
 og 199 191 false (.ixa 1 (.t 197) (.t 198)),
 og 200 191 false (.load false 1 (.t 199)),
 og 201 191 false (.call true (cf f_ref12_Same) [(.t 196), (.t 200)]),
 og 202 191 false (.un .not (.t 201)),
 oo 203 (.pick (.t 191) (.c (.bool true)) (.t 202))])
 (.cond (.t 203) (.seq (.reg 0 [oo 6 (.mv (.c (.bool false)))])
 (.keep [6] [] (.ret))) (.skip)))))
 (.keep [3, 7, 8, 13, 14, 15, 16, 18, 19, 48, 49, 50, 151, 152] [3, 8] (.reg 0 [oo 204 (.bin .add (.t 152) (ci 1)),
 oo 152 (.mv (.t 204))]))))))
def c_law14_MeterPlays_l0 : ACode := .keep [3, 7, 8, 13, 14, 15, 16, 18, 19, 48, 49, 50, 151, 152] [3, 8] b_law14_MeterPlays_l0
def b_law14_MeterPlays_l1 : ACode :=
  (.seq (.reg 0 [oo 51 (.bin .lss (.t 50) (.t 49))])
 (.seq (.cond (.t 51) (.skip) (.keep [] [] (.exit 0)))
 (.keep [3, 7, 8, 48, 49, 50] [3, 8] (.seq (.block 1 (.seq (.reg 0 [oo 52 (.mv (.t 50)),
 oo 53 (.ixa 5 (.t 48) (.t 50)),
 oo 54 (.load true 5 (.t 53)),
 oo 10 (.alloc [(.int .u8 0), (.int .i64 0), (.sl [] .nil), (.int .i64 0), (.str ⟨#[]⟩)]),
 oo 9 (.mv (.t 52)),
 ox (.store 5 (.t 10) (.t 54))])
 (.seq (.seq (.reg 0 [oo 55 (.fld 0 (.t 10)),
 oo 56 (.load false 1 (.t 55))])
 (.block 2 (.seq (.reg 0 [oo 58 (.bin .eql (.t 56) (.c (.int .u8 0))),
 oo 57 (.mv (.t 58))])
 (.cond (.t 57) (.seq (.seq (.reg 0 [oo 59 (.fld 0 (.t 8)),
 oo 60 (.fld 4 (.t 59)),
 oo 61 (.fld 0 (.t 60)),
 oo 62 (.load false 1 (.t 61)),
 oo 63 (.len .sl (.t 62)),
 oo 64 (.fld 1 (.t 3)),
 oo 65 (.load false 1 (.t 64)),
 oo 66 (.len .sl (.t 65)),
 oo 67 (.fld 1 (.t 10)),
 oo 68 (.load true 2 (.t 67)),
 oo 69 (.call true (cf f_law14_may) [(.t 63), (.t 66), (.t 68)]),
 oo 70 (.un .not (.t 69))])
 (.cond (.t 70) (.seq (.reg 0 [oo 71 (.call true (cf f_law14_Awake) []),
 oo 6 (.mv (.t 71))])
 (.keep [6] [] (.ret))) (.skip)))
 (.keep [3, 7, 8, 9, 10, 48, 49, 50] [3, 8, 10] (.seq (.reg 13 [oo 73 (.load true 12 (.t 8)),
 oo 74 (.fld 1 (.t 10)),
 oo 75 (.load true 2 (.t 74)),
 oo 76 (.call true (cf f_law02_OfRule) [(.t 75)]),
 oo 77 (.mv (.t 9)),
 oo 78 (.call true (cf f_law14_mark) [(.t 77)]),
 oo 79 (.call true (cf f_law12_Items) [(.t 78)]),
 oo 80 (.call true (cf f_ref14_Put) [(.t 73), (.t 76), (.t 79)]),
 oo 72 (.mv (.t 80)),
 oo 81 (.ext (.t 72) 0),
 oo 82 (.ext (.t 72) 1),
 oo 11 (.alloc [(.sl [] .nil), (.sl [] .nil), (.int .i64 0), (.sl [] .nil), (.sl [] .nil), (.sl [] .nil), (.int .i64 0), (.sl [] .nil), (.sl [] .nil), (.sl [] .nil), (.int .i64 0), (.bool false)]),
 ox (.store 12 (.t 11) (.t 81)),
 oo 12 (.mv (.t 82))])
 (.seq (.reg 0 [oo 83 (.load true 12 (.t 11)),
 ox (.store 12 (.t 8) (.t 83))])
 (.seq (.reg 7 [oo 84 (.mv (.t 7)),
 oo 85 (.fld 1 (.t 10)),
 oo 86 (.load true 2 (.t 85)),
 oo 87 (.mv (.t 9)),
 oo 88 (.call true (cf f_law14_mark) [(.t 87)]),
 oo 89 (.call true (cf f_meter_Pot_Put) [(.t 84), (.t 86), (.t 88)]),
 oo 90 (.mv (.t 12)),
 oo 91 (.eqv true .b (.t 89) (.t 90))])
 (.cond (.t 91) (.seq (.reg 0 [oo 6 (.mv (.c (.bool false)))])
 (.keep [6] [] (.ret))) (.skip))))))) (.seq (.reg 0 [oo 93 (.bin .eql (.t 56) (.c (.int .u8 1))),
 oo 92 (.mv (.t 93))])
 (.cond (.t 92) (.seq (.reg 0 [oo 95 (.mv (.t 7)),
 oo 96 (.fld 3 (.t 10)),
 oo 97 (.load false 1 (.t 96)),
 oo 98 (.call true (cf f_meter_Pot_Of) [(.t 95), (.t 97)]),
 oo 94 (.mv (.t 98)),
 oo 99 (.ext (.t 94) 0),
 oo 100 (.ext (.t 94) 1),
 oo 13 (.mv (.t 99)),
 oo 14 (.mv (.t 100))])
 (.seq (.reg 0 [oo 102 (.mv (.t 7)),
 oo 103 (.fld 3 (.t 10)),
 oo 104 (.load false 1 (.t 103)),
 oo 105 (.call true (cf f_meter_Pot_Drop) [(.t 102), (.t 104)]),
 oo 101 (.mv (.t 105)),
 oo 106 (.ext (.t 101) 0),
 oo 107 (.ext (.t 101) 1),
 oo 15 (.mv (.t 106)),
 oo 16 (.mv (.t 107))])
 (.seq (.reg 0 [oo 109 (.load true 12 (.t 8)),
 oo 110 (.fld 3 (.t 10)),
 oo 111 (.load false 1 (.t 110)),
 oo 112 (.call true (cf f_ref14_Drop) [(.t 109), (.t 111)]),
 oo 108 (.mv (.t 112)),
 oo 113 (.ext (.t 108) 0),
 oo 114 (.ext (.t 108) 1),
 oo 115 (.ext (.t 108) 2),
 oo 17 (.alloc [(.sl [] .nil), (.sl [] .nil), (.int .i64 0), (.sl [] .nil), (.sl [] .nil), (.sl [] .nil), (.int .i64 0), (.sl [] .nil), (.sl [] .nil), (.sl [] .nil), (.int .i64 0), (.bool false)]),
 ox (.store 12 (.t 17) (.t 113)),
 oo 18 (.mv (.t 114)),
 oo 19 (.mv (.t 115))])
 (.seq (.seq (.reg 0 [oo 116 (.load true 12 (.t 17)),
 ox (.store 12 (.t 8) (.t 116))])
 (.seq (.reg 0 [oo 117 (.mv (.t 15)),
 oo 118 (.len .sl (.t 117)),
 oo 119 (.mv (.t 18)),
 oo 120 (.len .sl (.t 119)),
 oo 121 (.bin .neq (.t 118) (.t 120)),
 oo 122 (.mv (.t 121)),
 og 123 122 false (.mv (.t 16)),
 og 124 122 false (.len .sl (.t 123)),
 og 125 122 false (.mv (.t 19)),
 og 126 122 false (.len .sl (.t 125)),
 og 127 122 false (.bin .neq (.t 124) (.t 126)),
 oo 128 (.pick (.t 122) (.c (.bool true)) (.t 127)),
 oo 129 (.mv (.t 128)),
 og 130 129 false (.mv (.t 16)),
 og 131 129 false (.len .sl (.t 130)),
 og 132 129 false (.mv (.t 15)),
 og 133 129 false (.len .sl (.t 132)),
 og 134 129 false (.bin .neq (.t 131) (.t 133)),
 oo 135 (.pick (.t 129) (.c (.bool true)) (.t 134)),
 oo 136 (.mv (.t 135)),
 og 137 136 false (.mv (.t 13)),
 og 138 136 false (.len .sl (.t 137)),
 og 139 136 false (.mv (.t 15)),
 og 140 136 false (.len .sl (.t 139)),
 og 141 136 false (.bin .neq (.t 138) (.t 140)),
 oo 142 (.pick (.t 136) (.c (.bool true)) (.t 141)),
 oo 143 (.mv (.t 142)),
 og 144 143 false (.mv (.t 14)),
 og 145 143 false (.len .sl (.t 144)),
 og 146 143 false (.mv (.t 15)),
 og 147 143 false (.len .sl (.t 146)),
 og 148 143 false (.bin .neq (.t 145) (.t 147)),
 oo 149 (.pick (.t 143) (.c (.bool true)) (.t 148))])
 (.cond (.t 149) (.seq (.reg 0 [oo 6 (.mv (.c (.bool false)))])
 (.keep [6] [] (.ret))) (.skip))))
 (.keep [3, 7, 8, 13, 14, 15, 16, 18, 19, 48, 49, 50] [3, 8] (.seq (.reg 0 [oo 150 (.mv (.t 15)),
 oo 151 (.len .sl (.t 150)),
 oo 152 (.mv (ci 0))])
 (.block 3 (.loop c_law14_MeterPlays_l0)))))))) (.seq (.reg 0 [oo 206 (.bin .eql (.t 56) (.c (.int .u8 2))),
 oo 205 (.mv (.t 206))])
 (.cond (.t 205) (.seq (.seq (.reg 0 [oo 207 (.fld 4 (.t 10)),
 oo 208 (.load false 1 (.t 207)),
 oo 209 (.len .s (.t 208)),
 oo 210 (.bin .gtr (.t 209) (ci 100)),
 oo 211 (.mv (.t 210)),
 og 212 211 false (.fld 4 (.t 10)),
 og 213 211 false (.load false 1 (.t 212)),
 og 214 211 false (.len .s (.t 213)),
 og 215 211 false (.bin .eql (.t 214) (ci 0)),
 oo 216 (.pick (.t 211) (.c (.bool true)) (.t 215)),
 oo 217 (.mv (.t 216)),
 og 218 217 false (.fld 4 (.t 10)),
 og 219 217 false (.load false 1 (.t 218)),
 og 220 217 false (.ixs (.t 219) (ci 0)),
 og 221 217 false (.bin .lss (.t 220) (.c (.int .u8 65))),
 oo 222 (.pick (.t 217) (.c (.bool true)) (.t 221)),
 oo 223 (.mv (.t 222)),
 og 224 223 false (.fld 4 (.t 10)),
 og 225 223 false (.load false 1 (.t 224)),
 og 226 223 false (.ixs (.t 225) (ci 0)),
 og 227 223 false (.bin .gtr (.t 226) (.c (.int .u8 90))),
 oo 228 (.pick (.t 223) (.c (.bool true)) (.t 227)),
 oo 229 (.mv (.t 228)),
 og 230 229 false (.fld 4 (.t 10)),
 og 231 229 false (.load false 1 (.t 230)),
 og 232 229 false (.len .s (.t 231)),
 og 233 229 false (.bin .gtr (.t 232) (ci 1)),
 oo 234 (.pick (.t 229) (.c (.bool true)) (.t 233))])
 (.cond (.t 234) (.seq (.reg 0 [oo 235 (.call true (cf f_law14_Awake) []),
 oo 6 (.mv (.t 235))])
 (.keep [6] [] (.ret))) (.skip)))
 (.keep [3, 7, 8, 10, 48, 49, 50] [3, 8, 10] (.seq (.reg 0 [oo 237 (.load true 12 (.t 8)),
 oo 238 (.fld 4 (.t 10)),
 oo 239 (.load false 1 (.t 238)),
 oo 240 (.bslice [(.int .i64 0)] 1 [(0, (ci 0))]),
 oo 241 (.build [(.bool false), (.sl [] .nil), (.sl [] .nil)] [(2, 1, (.t 240))]),
 oo 242 (.call true (cf f_ref14_Fresh) [(.t 237), (.t 239), (.t 241)]),
 oo 236 (.mv (.t 242)),
 oo 243 (.ext (.t 236) 0),
 oo 244 (.ext (.t 236) 1),
 oo 21 (.alloc [(.sl [] .nil), (.sl [] .nil), (.int .i64 0), (.sl [] .nil), (.sl [] .nil), (.sl [] .nil), (.int .i64 0), (.sl [] .nil), (.sl [] .nil), (.sl [] .nil), (.int .i64 0), (.bool false)]),
 ox (.store 12 (.t 21) (.t 243)),
 oo 22 (.mv (.t 244))])
 (.seq (.reg 0 [oo 245 (.load true 12 (.t 21)),
 ox (.store 12 (.t 8) (.t 245))])
 (.seq (.reg 0 [oo 246 (.mv (.t 7)),
 oo 247 (.fld 4 (.t 10)),
 oo 248 (.load false 1 (.t 247)),
 oo 249 (.bslice [(.int .i64 0)] 1 [(0, (ci 0))]),
 oo 250 (.build [(.bool false), (.sl [] .nil), (.sl [] .nil)] [(2, 1, (.t 249))]),
 oo 251 (.call true (cf f_meter_Pot_Fresh) [(.t 246), (.t 248), (.t 250)]),
 oo 252 (.mv (.t 22)),
 oo 253 (.bin .neq (.t 251) (.t 252))])
 (.cond (.t 253) (.seq (.reg 0 [oo 6 (.mv (.c (.bool false)))])
 (.keep [6] [] (.ret))) (.skip))))))) (.skip)))))))))
 (.keep [3, 7, 8, 48, 49, 50] [3, 8] (.seq (.seq (.reg 12 [oo 254 (.mv (.t 7)),
 oo 255 (.call true (cf f_meter_Pot_Spoilt) [(.t 254)]),
 oo 256 (.fld 11 (.t 8)),
 oo 257 (.load false 1 (.t 256)),
 oo 258 (.eqv true .b (.t 255) (.t 257)),
 oo 259 (.mv (.t 258)),
 og 260 259 false (.mv (.t 7)),
 og 261 259 false (.call true (cf f_meter_Pot_Size) [(.t 260)]),
 og 262 259 false (.fld 0 (.t 8)),
 og 263 259 false (.fld 4 (.t 262)),
 og 264 259 false (.fld 3 (.t 263)),
 og 265 259 false (.load false 1 (.t 264)),
 og 266 259 false (.call true (cf f_ref02_Size) [(.t 265)]),
 og 267 259 false (.bin .neq (.t 261) (.t 266)),
 oo 268 (.pick (.t 259) (.c (.bool true)) (.t 267))])
 (.cond (.t 268) (.seq (.reg 0 [oo 6 (.mv (.c (.bool false)))])
 (.keep [6] [] (.ret))) (.skip)))
 (.keep [3, 7, 8, 48, 49, 50] [3, 8] (.seq (.reg 0 [oo 270 (.mv (.t 7)),
 oo 271 (.call true (cf f_meter_Pot_Table) [(.t 270)]),
 oo 269 (.mv (.t 271)),
 oo 272 (.ext (.t 269) 0),
 oo 273 (.ext (.t 269) 1),
 oo 23 (.alloc [(.sl [] .nil), (.sl [] .nil), (.int .i64 0), (.sl [] .nil), (.sl [] .nil), (.sl [] .nil), (.int .i64 0), (.sl [] .nil), (.sl [] .nil), (.sl [] .nil)]),
 ox (.store 10 (.t 23) (.t 272)),
 oo 24 (.mv (.t 273))])
 (.seq (.reg 21 [oo 274 (.mv (.t 24)),
 oo 275 (.bin .eql (.t 274) (ci 11)),
 oo 276 (.fld 11 (.t 8)),
 oo 277 (.load false 1 (.t 276)),
 oo 278 (.eqv true .b (.t 275) (.t 277)),
 oo 279 (.mv (.t 278)),
 og 280 279 false (.mv (.t 24)),
 og 281 279 false (.bin .neq (.t 280) (ci 0)),
 og 282 279 false (.mv (.t 281)),
 og 283 282 true (.mv (.t 24)),
 og 284 282 true (.bin .neq (.t 283) (ci 11)),
 og 285 279 false (.pick (.t 282) (.t 284) (.c (.bool false))),
 oo 286 (.pick (.t 279) (.c (.bool true)) (.t 285)),
 oo 287 (.mv (.t 286)),
 og 288 287 false (.mv (.t 24)),
 og 289 287 false (.bin .eql (.t 288) (ci 0)),
 og 290 287 false (.mv (.t 289)),
 og 291 290 true (.load true 10 (.t 23)),
 og 292 290 true (.call true (cf f_law12_Of) [(.t 291)]),
 og 293 290 true (.fld 0 (.t 8)),
 og 294 290 true (.load true 10 (.t 293)),
 og 295 290 true (.call true (cf f_ref14_Same) [(.t 292), (.t 294)]),
 og 296 290 true (.un .not (.t 295)),
 og 297 287 false (.pick (.t 290) (.t 296) (.c (.bool false))),
 oo 298 (.pick (.t 287) (.c (.bool true)) (.t 297))])
 (.cond (.t 298) (.seq (.reg 0 [oo 6 (.mv (.c (.bool false)))])
 (.keep [6] [] (.ret))) (.skip))))))))))
 (.keep [3, 7, 8, 48, 49, 50] [3, 8] (.reg 0 [oo 299 (.bin .add (.t 50) (ci 1)),
 oo 50 (.mv (.t 299))]))))))
def c_law14_MeterPlays_l1 : ACode := .keep [3, 7, 8, 48, 49, 50] [3, 8] b_law14_MeterPlays_l1
def c_law14_MeterPlays : ACode :=
  .seq (.reg 0 [oo 3 (.box (.t 0)),
 oo 6 (.mv (.c (.bool false)))])
 (.seq (.seq (.reg 0 [oo 25 (.load true 4 (.t 3)),
 oo 26 (.call true (cf f_law02_Small) [(.t 25)]),
 oo 27 (.un .not (.t 26)),
 oo 28 (.mv (.t 27)),
 og 29 28 false (.load true 4 (.t 3)),
 og 30 28 false (.call true (cf f_law02_May) [(.t 29)]),
 og 31 28 false (.un .not (.t 30)),
 oo 32 (.pick (.t 28) (.c (.bool true)) (.t 31)),
 oo 33 (.mv (.t 32)),
 og 34 33 false (.mv (.t 2)),
 og 35 33 false (.len .sl (.t 34)),
 og 36 33 false (.bin .gtr (.t 35) (ci 60)),
 oo 37 (.pick (.t 33) (.c (.bool true)) (.t 36))])
 (.cond (.t 37) (.seq (.reg 0 [oo 38 (.call true (cf f_law14_Awake) []),
 oo 6 (.mv (.t 38))])
 (.ret)) (.skip)))
 (.keep [1, 2, 3] [3] (.seq (.reg 0 [oo 39 (.load true 4 (.t 3)),
 oo 40 (.mv (.t 1)),
 oo 41 (.call true (cf f_meter_New) [(.t 39), (.t 40)]),
 oo 7 (.mv (.t 41))])
 (.seq (.seq (.reg 0 [oo 42 (.mv (.t 7)),
 oo 43 (.eqv false .p (.t 42) (.c .nilp))])
 (.cond (.t 43) (.seq (.reg 0 [oo 6 (.mv (.c (.bool false)))])
 (.ret)) (.skip)))
 (.keep [1, 2, 3, 7] [3] (.seq (.reg 0 [oo 44 (.load true 4 (.t 3)),
 oo 45 (.call true (cf f_law02_Of) [(.t 44)]),
 oo 46 (.mv (.t 1)),
 oo 47 (.call true (cf f_ref14_New) [(.t 45), (.t 46)]),
 oo 8 (.alloc [(.sl [] .nil), (.sl [] .nil), (.int .i64 0), (.sl [] .nil), (.sl [] .nil), (.sl [] .nil), (.int .i64 0), (.sl [] .nil), (.sl [] .nil), (.sl [] .nil), (.int .i64 0), (.bool false)]),
 ox (.store 12 (.t 8) (.t 47))])
 (.seq (.seq (.reg 0 [oo 48 (.mv (.t 2)),
 oo 49 (.len .sl (.t 48)),
 oo 50 (.mv (ci 0))])
 (.block 0 (.loop c_law14_MeterPlays_l1)))
 (.keep [] [] (.seq (.reg 0 [oo 300 (.call true (cf f_law14_Awake) []),
 oo 6 (.mv (.t 300))])
 (.ret))))))))))
def n_law14_MeterPlays : Fn := ⟨c_law14_MeterPlays, [.t 6], false, false⟩
theorem ok_law14_MeterPlays : fnOf Tryd.prog eff keep f_law14_MeterPlays = some n_law14_MeterPlays.bare := by kernel_rfl
@[simp] theorem c_law14_MeterPlays_l0_norm (st : St) : norm c_law14_MeterPlays_l0 st = st.keep [3, 7, 8, 13, 14, 15, 16, 18, 19, 48, 49, 50, 151, 152] [3, 8] := rfl
@[simp] theorem c_law14_MeterPlays_l1_norm (st : St) : norm c_law14_MeterPlays_l1 st = st.keep [3, 7, 8, 48, 49, 50] [3, 8] := rfl
def b_ref14_New_l0 : ACode :=
  (.seq (.seq (.reg 0 [oo 20 (.mv (.t 6)),
 oo 21 (.fld 0 (.t 2)),
 oo 22 (.load false 1 (.t 21)),
 oo 23 (.len .sl (.t 22)),
 oo 24 (.bin .lss (.t 20) (.t 23))])
 (.cond (.t 24) (.skip) (.keep [4, 5] [4, 5] (.exit 0))))
 (.keep [2, 4, 5, 6] [2, 4, 5] (.seq (.block 1 (.reg 0 [oo 27 (.fld 0 (.t 5)),
 oo 28 (.fld 8 (.t 27)),
 oo 29 (.load false 1 (.t 28)),
 oo 30 (.mv (.t 6)),
 oo 31 (.bslice [(.int .i64 0)] 1 [(0, (.t 30))]),
 oo 32 (.build [(.bool false), (.sl [] .nil), (.sl [] .nil)] [(2, 1, (.t 31))]),
 oo 33 (.bslice [(.bool false), (.sl [] .nil), (.sl [] .nil)] 1 [(0, (.t 32))]),
 oo 34 (.app 3 (.t 29) (.t 33)),
 oo 35 (.fld 0 (.t 5)),
 oo 36 (.fld 8 (.t 35)),
 ox (.store 1 (.t 36) (.t 34))]))
 (.keep [2, 4, 5, 6] [2, 4, 5] (.reg 0 [oo 25 (.mv (.t 6)),
 oo 26 (.bin .add (.t 25) (ci 1)),
 oo 6 (.mv (.t 26))])))))
def c_ref14_New_l0 : ACode := .keep [2, 4, 5, 6] [2, 4, 5] b_ref14_New_l0
def c_ref14_New : ACode :=
  .seq (.reg 0 [oo 2 (.box (.t 0)),
 oo 4 (.alloc [(.sl [] .nil), (.sl [] .nil), (.int .i64 0), (.sl [] .nil), (.sl [] .nil), (.sl [] .nil), (.int .i64 0), (.sl [] .nil), (.sl [] .nil), (.sl [] .nil), (.int .i64 0), (.bool false)])])
 (.seq (.reg 0 [oo 7 (.load true 4 (.t 2)),
 oo 8 (.fld 0 (.t 2)),
 oo 9 (.load false 1 (.t 8)),
 oo 10 (.fld 1 (.t 2)),
 oo 11 (.load false 1 (.t 10)),
 oo 12 (.fld 2 (.t 2)),
 oo 13 (.load false 1 (.t 12)),
 oo 14 (.build [(.sl [] .nil), (.sl [] .nil), (.int .i64 0), (.sl [] .nil)] [(0, 1, (.t 9)), (1, 1, (.t 11)), (2, 1, (.t 13))]),
 oo 15 (.build [(.sl [] .nil), (.sl [] .nil), (.int .i64 0), (.sl [] .nil), (.sl [] .nil), (.sl [] .nil), (.int .i64 0), (.sl [] .nil), (.sl [] .nil), (.sl [] .nil)] [(0, 4, (.t 7)), (4, 4, (.t 14))]),
 oo 16 (.mv (.t 1)),
 oo 17 (.mv (.t 1)),
 oo 18 (.bin .lss (.t 17) (ci 0)),
 oo 19 (.build [(.sl [] .nil), (.sl [] .nil), (.int .i64 0), (.sl [] .nil), (.sl [] .nil), (.sl [] .nil), (.int .i64 0), (.sl [] .nil), (.sl [] .nil), (.sl [] .nil), (.int .i64 0), (.bool false)] [(0, 10, (.t 15)), (10, 1, (.t 16)), (11, 1, (.t 18))]),
 oo 5 (.alloc [(.sl [] .nil), (.sl [] .nil), (.int .i64 0), (.sl [] .nil), (.sl [] .nil), (.sl [] .nil), (.int .i64 0), (.sl [] .nil), (.sl [] .nil), (.sl [] .nil), (.int .i64 0), (.bool false)]),
 ox (.store 12 (.t 5) (.t 19))])
 (.seq (.seq (.reg 0 [oo 6 (.mv (ci 0))])
 (.block 0 (.loop c_ref14_New_l0)))
 (.keep [4, 5] [4, 5] (.seq (.reg 0 [oo 37 (.load true 12 (.t 5)),
 ox (.store 12 (.t 4) (.t 37))])
 (.ret)))))
def n_ref14_New : Fn := ⟨c_ref14_New, [.c 4 12 true], false, false⟩
theorem ok_ref14_New : fnOf Tryd.prog eff keep f_ref14_New = some n_ref14_New.bare := by kernel_rfl
@[simp] theorem c_ref14_New_l0_norm (st : St) : norm c_ref14_New_l0 st = st.keep [2, 4, 5, 6] [2, 4, 5] := rfl
def b_law12_Items_l0 : ACode :=
  (.seq (.reg 0 [oo 9 (.bin .lss (.t 8) (.t 7))])
 (.seq (.cond (.t 9) (.skip) (.keep [3] [] (.exit 0)))
 (.keep [240003, 6, 7, 8] [] (.seq (.block 1 (.seq (.reg 0 [oo 10 (.ixa 3 (.t 6) (.t 8)),
 oo 11 (.load true 3 (.t 10)),
 oo 5 (.alloc [(.int .i64 0), (.int .i64 0), (.sl [] .nil)]),
 ox (.store 3 (.t 5) (.t 11))])
 (.reg 10 [oo 12 (.mv (.t 3)),
 oo 13 (.fld 0 (.t 5)),
 oo 14 (.load false 1 (.t 13)),
 oo 15 (.fld 1 (.t 5)),
 oo 16 (.load false 1 (.t 15)),
 oo 17 (.fld 2 (.t 5)),
 oo 18 (.load false 1 (.t 17)),
 oo 19 (.call true (cf f_law12_Items) [(.t 18)]),
 oo 20 (.build [(.int .i64 0), (.int .i64 0), (.sl [] .nil)] [(0, 1, (.t 14)), (1, 1, (.t 16)), (2, 1, (.t 19))]),
 oo 21 (.bslice [(.int .i64 0), (.int .i64 0), (.sl [] .nil)] 1 [(0, (.t 20))]),
 oo 22 (.app 3 (.t 12) (.t 21)),
 oo 3 (.mv (.t 22))])))
 (.keep [240003, 6, 7, 8] [] (.reg 0 [oo 23 (.bin .add (.t 8) (ci 1)),
 oo 8 (.mv (.t 23))]))))))
def c_law12_Items_l0 : ACode := .keep [240003, 6, 7, 8] [] b_law12_Items_l0
def c_law12_Items : ACode :=
  .seq (.reg 0 [oo 2 (.mv (.c (.sl [] .nil)))])
 (.seq (.reg 0 [oo 3 (.mv (.c (.sl [] .nil)))])
 (.seq (.seq (.reg 0 [oo 6 (.mv (.t 0)),
 oo 7 (.len .sl (.t 6)),
 oo 8 (.mv (ci 0))])
 (.block 0 (.loop c_law12_Items_l0)))
 (.keep [3] [] (.seq (.reg 0 [oo 24 (.mv (.t 3)),
 oo 2 (.mv (.t 24))])
 (.ret)))))
def n_law12_Items : Fn := ⟨c_law12_Items, [.t 2], false, false⟩
theorem ok_law12_Items : fnOf Tryd.prog eff keep f_law12_Items = some n_law12_Items.bare := by kernel_rfl
@[simp] theorem c_law12_Items_l0_norm (st : St) : norm c_law12_Items_l0 st = st.keep [240003, 6, 7, 8] [] := rfl
def c_ref14_Put : ACode :=
  .seq (.reg 0 [oo 3 (.box (.t 0)),
 oo 4 (.box (.t 1)),
 oo 6 (.alloc [(.sl [] .nil), (.sl [] .nil), (.int .i64 0), (.sl [] .nil), (.sl [] .nil), (.sl [] .nil), (.int .i64 0), (.sl [] .nil), (.sl [] .nil), (.sl [] .nil), (.int .i64 0), (.bool false)]),
 oo 7 (.mv (.c (.bool false)))])
 (.seq (.seq (.reg 0 [oo 8 (.fld 0 (.t 3)),
 oo 9 (.fld 4 (.t 8)),
 oo 10 (.fld 3 (.t 9)),
 oo 11 (.load false 1 (.t 10)),
 oo 12 (.load true 2 (.t 4)),
 oo 13 (.call true (cf f_ref02_Find) [(.t 11), (.t 12)]),
 oo 14 (.bin .geq (.t 13) (ci 0))])
 (.cond (.t 14) (.seq (.reg 0 [oo 15 (.load true 12 (.t 3)),
 ox (.store 12 (.t 6) (.t 15)),
 oo 7 (.mv (.c (.bool true)))])
 (.ret)) (.skip)))
 (.keep [2, 3, 4, 6] [3, 4, 6] (.seq (.seq (.reg 29 [oo 16 (.fld 11 (.t 3)),
 oo 17 (.load false 1 (.t 16)),
 oo 18 (.mv (.t 17)),
 og 19 18 false (.fld 1 (.t 4)),
 og 20 18 false (.load false 1 (.t 19)),
 og 21 18 false (.len .sl (.t 20)),
 og 22 18 false (.bin .gtr (.t 21) (ci 64)),
 oo 23 (.pick (.t 18) (.c (.bool true)) (.t 22)),
 oo 24 (.mv (.t 23)),
 og 25 24 false (.fld 0 (.t 3)),
 og 26 24 false (.fld 4 (.t 25)),
 og 27 24 false (.fld 3 (.t 26)),
 og 28 24 false (.load false 1 (.t 27)),
 og 29 24 false (.len .sl (.t 28)),
 og 30 24 false (.bin .geq (.t 29) (ci 8192)),
 oo 31 (.pick (.t 24) (.c (.bool true)) (.t 30)),
 oo 32 (.mv (.t 31)),
 og 33 32 false (.fld 0 (.t 3)),
 og 34 32 false (.fld 4 (.t 33)),
 og 35 32 false (.fld 3 (.t 34)),
 og 36 32 false (.load false 1 (.t 35)),
 og 37 32 false (.call true (cf f_ref02_Size) [(.t 36)]),
 og 38 32 false (.bin .add (.t 37) (ci 1)),
 og 39 32 false (.fld 1 (.t 4)),
 og 40 32 false (.load false 1 (.t 39)),
 og 41 32 false (.len .sl (.t 40)),
 og 42 32 false (.bin .add (.t 38) (.t 41)),
 og 43 32 false (.fld 10 (.t 3)),
 og 44 32 false (.load false 1 (.t 43)),
 og 45 32 false (.bin .gtr (.t 42) (.t 44)),
 oo 46 (.pick (.t 32) (.c (.bool true)) (.t 45))])
 (.cond (.t 46) (.seq (.reg 0 [oo 47 (.fld 11 (.t 3)),
 ox (.store 1 (.t 47) (.c (.bool true)))])
 (.seq (.reg 0 [oo 48 (.load true 12 (.t 3)),
 ox (.store 12 (.t 6) (.t 48)),
 oo 7 (.mv (.c (.bool false)))])
 (.ret))) (.skip)))
 (.keep [2, 3, 4, 6] [3, 4, 6] (.seq (.reg 8 [oo 49 (.bslice [(.int .i64 0), (.sl [] .nil)] 0 []),
 oo 50 (.fld 0 (.t 3)),
 oo 51 (.fld 4 (.t 50)),
 oo 52 (.fld 3 (.t 51)),
 oo 53 (.load false 1 (.t 52)),
 oo 54 (.app 2 (.t 49) (.t 53)),
 oo 55 (.load true 2 (.t 4)),
 oo 56 (.bslice [(.int .i64 0), (.sl [] .nil)] 1 [(0, (.t 55))]),
 oo 57 (.app 2 (.t 54) (.t 56)),
 oo 58 (.fld 0 (.t 3)),
 oo 59 (.fld 4 (.t 58)),
 oo 60 (.fld 3 (.t 59)),
 ox (.store 1 (.t 60) (.t 57))])
 (.seq (.reg 0 [oo 61 (.bslice [(.sl [] .nil)] 0 []),
 oo 62 (.fld 0 (.t 3)),
 oo 63 (.fld 9 (.t 62)),
 oo 64 (.load false 1 (.t 63)),
 oo 65 (.app 1 (.t 61) (.t 64)),
 oo 66 (.mv (.t 2)),
 oo 67 (.bslice [(.sl [] .nil)] 1 [(0, (.t 66))]),
 oo 68 (.app 1 (.t 65) (.t 67)),
 oo 69 (.fld 0 (.t 3)),
 oo 70 (.fld 9 (.t 69)),
 ox (.store 1 (.t 70) (.t 68))])
 (.seq (.reg 0 [oo 71 (.load true 12 (.t 3)),
 ox (.store 12 (.t 6) (.t 71)),
 oo 7 (.mv (.c (.bool true)))])
 (.ret))))))))
def n_ref14_Put : Fn := ⟨c_ref14_Put, [.c 6 12 true, .t 7], false, false⟩
theorem ok_ref14_Put : fnOf Tryd.prog eff keep f_ref14_Put = some n_ref14_Put.bare := by kernel_rfl
def b_ref02_Size_l0 : ACode :=
  (.seq (.seq (.reg 0 [oo 5 (.mv (.t 4)),
 oo 6 (.mv (.t 0)),
 oo 7 (.len .sl (.t 6)),
 oo 8 (.bin .lss (.t 5) (.t 7))])
 (.cond (.t 8) (.skip) (.keep [3] [] (.exit 0))))
 (.keep [0, 3, 4] [] (.seq (.block 1 (.reg 0 [oo 11 (.mv (.t 3)),
 oo 12 (.bin .add (.t 11) (ci 1)),
 oo 13 (.mv (.t 0)),
 oo 14 (.mv (.t 4)),
 oo 15 (.ixa 2 (.t 13) (.t 14)),
 oo 16 (.fld 1 (.t 15)),
 oo 17 (.load false 1 (.t 16)),
 oo 18 (.len .sl (.t 17)),
 oo 19 (.bin .add (.t 12) (.t 18)),
 oo 3 (.mv (.t 19))]))
 (.keep [0, 3, 4] [] (.reg 0 [oo 9 (.mv (.t 4)),
 oo 10 (.bin .add (.t 9) (ci 1)),
 oo 4 (.mv (.t 10))])))))
def c_ref02_Size_l0 : ACode := .keep [0, 3, 4] [] b_ref02_Size_l0
def c_ref02_Size : ACode :=
  .seq (.reg 0 [oo 2 (.mv (ci 0))])
 (.seq (.reg 0 [oo 3 (.mv (ci 0))])
 (.seq (.seq (.reg 0 [oo 4 (.mv (ci 0))])
 (.block 0 (.loop c_ref02_Size_l0)))
 (.keep [3] [] (.seq (.reg 0 [oo 20 (.mv (.t 3)),
 oo 2 (.mv (.t 20))])
 (.ret)))))
def n_ref02_Size : Fn := ⟨c_ref02_Size, [.t 2], false, false⟩
theorem ok_ref02_Size : fnOf Tryd.prog eff keep f_ref02_Size = some n_ref02_Size.bare := by kernel_rfl
@[simp] theorem c_ref02_Size_l0_norm (st : St) : norm c_ref02_Size_l0 st = st.keep [0, 3, 4] [] := rfl
def b_meter_Pot_Of_l0 : ACode :=
  (.seq (.reg 0 [oo 18 (.bin .lss (.t 17) (.t 16))])
 (.seq (.cond (.t 18) (.skip) (.keep [6, 7] [] (.exit 0)))
 (.keep [0, 1, 350006, 460007, 15, 16, 17] [] (.seq (.block 1 (.seq (.reg 0 [oo 19 (.mv (.t 17)),
 oo 20 (.ixa 2 (.t 15) (.t 17)),
 oo 21 (.load true 2 (.t 20)),
 oo 9 (.alloc [(.int .i64 0), (.sl [] .nil)]),
 oo 8 (.mv (.t 19)),
 ox (.store 2 (.t 9) (.t 21))])
 (.seq (.reg 0 [oo 22 (.fld 0 (.t 9)),
 oo 23 (.load false 1 (.t 22)),
 oo 24 (.mv (.t 1)),
 oo 25 (.bin .eql (.t 23) (.t 24))])
 (.cond (.t 25) (.seq (.reg 0 [oo 26 (.mv (.t 6)),
 oo 27 (.mv (.t 1)),
 oo 28 (.fld 1 (.t 9)),
 oo 29 (.load false 1 (.t 28)),
 oo 30 (.call true (cf f_slices_Clone_gram_Sym_gram_Sym) [(.t 29)]),
 oo 31 (.build [(.int .i64 0), (.sl [] .nil)] [(0, 1, (.t 27)), (1, 1, (.t 30))]),
 oo 32 (.bslice [(.int .i64 0), (.sl [] .nil)] 1 [(0, (.t 31))]),
 oo 33 (.app 2 (.t 26) (.t 32)),
 oo 6 (.mv (.t 33))])
 (.reg 0 [oo 34 (.mv (.t 7)),
 oo 35 (.mv (.t 0)),
 oo 36 (.nilc (.t 35)),
 oo 37 (.fld 0 (.t 36)),
 oo 38 (.fld 9 (.t 37)),
 oo 39 (.load false 1 (.t 38)),
 oo 40 (.mv (.t 8)),
 oo 41 (.ixa 1 (.t 39) (.t 40)),
 oo 42 (.load false 1 (.t 41)),
 oo 43 (.bslice [(.sl [] .nil)] 1 [(0, (.t 42))]),
 oo 44 (.app 1 (.t 34) (.t 43)),
 oo 7 (.mv (.t 44))])) (.skip)))))
 (.keep [0, 1, 350006, 460007, 15, 16, 17] [] (.reg 0 [oo 45 (.bin .add (.t 17) (ci 1)),
 oo 17 (.mv (.t 45))]))))))
def c_meter_Pot_Of_l0 : ACode := .keep [0, 1, 350006, 460007, 15, 16, 17] [] b_meter_Pot_Of_l0
def c_meter_Pot_Of : ACode :=
  .seq (.reg 0 [oo 4 (.mv (.c (.sl [] .nil))),
 oo 5 (.mv (.c (.sl [] .nil)))])
 (.seq (.reg 0 [oo 6 (.mv (.c (.sl [] .nil)))])
 (.seq (.reg 0 [oo 7 (.mv (.c (.sl [] .nil)))])
 (.seq (.seq (.reg 0 [oo 10 (.mv (.t 0)),
 oo 11 (.nilc (.t 10)),
 oo 12 (.fld 0 (.t 11)),
 oo 13 (.fld 4 (.t 12)),
 oo 14 (.fld 3 (.t 13)),
 oo 15 (.load false 1 (.t 14)),
 oo 16 (.len .sl (.t 15)),
 oo 17 (.mv (ci 0))])
 (.block 0 (.loop c_meter_Pot_Of_l0)))
 (.keep [6, 7] [] (.seq (.reg 0 [oo 46 (.mv (.t 6)),
 oo 47 (.mv (.t 7)),
 oo 4 (.mv (.t 46)),
 oo 5 (.mv (.t 47))])
 (.ret))))))
def n_meter_Pot_Of : Fn := ⟨c_meter_Pot_Of, [.t 4, .t 5], false, false⟩
theorem ok_meter_Pot_Of : fnOf Tryd.prog eff keep f_meter_Pot_Of = some n_meter_Pot_Of.bare := by kernel_rfl
@[simp] theorem c_meter_Pot_Of_l0_norm (st : St) : norm c_meter_Pot_Of_l0 st = st.keep [0, 1, 350006, 460007, 15, 16, 17] [] := rfl
def b_meter_Pot_Drop_l0 : ACode :=
  (.seq (.reg 0 [oo 22 (.bin .lss (.t 21) (.t 20))])
 (.seq (.cond (.t 22) (.skip) (.keep [2, 6, 7, 8, 9] [2, 3, 6, 7, 8, 9] (.exit 0)))
 (.keep [2, 6, 7, 8, 9, 10, 19, 20, 21] [2, 3, 6, 7, 8, 9] (.seq (.block 1 (.seq (.reg 0 [oo 23 (.mv (.t 21)),
 oo 24 (.ixa 2 (.t 19) (.t 21)),
 oo 25 (.load true 2 (.t 24)),
 oo 12 (.alloc [(.int .i64 0), (.sl [] .nil)]),
 oo 11 (.mv (.t 23)),
 ox (.store 2 (.t 12) (.t 25))])
 (.keep [2, 6, 7, 8, 9, 10, 11, 12, 19, 20, 21] [2, 3, 6, 7, 8, 9, 12] (.reg 0 [oo 26 (.mv (.t 10)),
 oo 27 (.mv (.t 11)),
 oo 28 (.load true 2 (.t 12)),
 oo 29 (.call false (.t 26) [(.t 27), (.t 28)])]))))
 (.keep [2, 6, 7, 8, 9, 10, 19, 20, 21] [2, 3, 6, 7, 8, 9] (.reg 0 [oo 30 (.bin .add (.t 21) (ci 1)),
 oo 21 (.mv (.t 30))]))))))
def c_meter_Pot_Drop_l0 : ACode := .keep [2, 6, 7, 8, 9, 10, 19, 20, 21] [2, 3, 6, 7, 8, 9] b_meter_Pot_Drop_l0
def c_meter_Pot_Drop : ACode :=
  .seq (.reg 0 [oo 2 (.box (.t 0)),
 oo 3 (.box (.t 1)),
 oo 4 (.mv (.c (.sl [] .nil))),
 oo 5 (.mv (.c (.sl [] .nil)))])
 (.seq (.reg 0 [oo 6 (.alloc [(.sl [] .nil)]),
 oo 7 (.alloc [(.sl [] .nil)])])
 (.seq (.reg 0 [oo 8 (.alloc [(.sl [] .nil)]),
 oo 9 (.alloc [(.sl [] .nil)])])
 (.seq (.reg 0 [oo 13 (.mkf f_meter_Pot_Drop_1 [(.t 3), (.t 7), (.t 9), (.t 2), (.t 6), (.t 8)]),
 oo 10 (.mv (.t 13))])
 (.seq (.seq (.reg 0 [oo 14 (.load false 1 (.t 2)),
 oo 15 (.nilc (.t 14)),
 oo 16 (.fld 0 (.t 15)),
 oo 17 (.fld 4 (.t 16)),
 oo 18 (.fld 3 (.t 17)),
 oo 19 (.load false 1 (.t 18)),
 oo 20 (.len .sl (.t 19)),
 oo 21 (.mv (ci 0))])
 (.block 0 (.loop c_meter_Pot_Drop_l0)))
 (.keep [2, 6, 7, 8, 9] [2, 3, 6, 7, 8, 9] (.seq (.reg 9 [oo 31 (.load false 1 (.t 2)),
 oo 32 (.load false 1 (.t 2)),
 oo 33 (.load false 1 (.t 7)),
 oo 34 (.load false 1 (.t 9)),
 oo 35 (.nilc (.t 31)),
 oo 36 (.fld 0 (.t 35)),
 oo 37 (.fld 4 (.t 36)),
 oo 38 (.fld 3 (.t 37)),
 ox (.store 1 (.t 38) (.t 33)),
 oo 39 (.nilc (.t 32)),
 oo 40 (.fld 0 (.t 39)),
 oo 41 (.fld 9 (.t 40)),
 ox (.store 1 (.t 41) (.t 34))])
 (.seq (.reg 3 [oo 42 (.load false 1 (.t 6)),
 oo 43 (.load false 1 (.t 8)),
 oo 4 (.mv (.t 42)),
 oo 5 (.mv (.t 43))])
 (.ret))))))))
def n_meter_Pot_Drop : Fn := ⟨c_meter_Pot_Drop, [.t 4, .t 5], false, false⟩
theorem ok_meter_Pot_Drop : fnOf Tryd.prog eff keep f_meter_Pot_Drop = some n_meter_Pot_Drop.bare := by kernel_rfl
@[simp] theorem c_meter_Pot_Drop_l0_norm (st : St) : norm c_meter_Pot_Drop_l0 st = st.keep [2, 6, 7, 8, 9, 10, 19, 20, 21] [2, 3, 6, 7, 8, 9] := rfl
def c_meter_Pot_Drop_1 : ACode :=
  .seq (.reg 0 [oo 9 (.box (.t 1))])
 (.seq (.seq (.reg 0 [oo 10 (.fld 0 (.t 9)),
 oo 11 (.load false 1 (.t 10)),
 oo 12 (.load false 1 (.t 2)),
 oo 13 (.bin .neq (.t 11) (.t 12))])
 (.cond (.t 13) (.seq (.reg 14 [oo 14 (.load false 1 (.t 3)),
 oo 15 (.load true 2 (.t 9)),
 oo 16 (.bslice [(.int .i64 0), (.sl [] .nil)] 1 [(0, (.t 15))]),
 oo 17 (.app 2 (.t 14) (.t 16)),
 oo 18 (.load false 1 (.t 4)),
 oo 19 (.load false 1 (.t 5)),
 oo 20 (.nilc (.t 19)),
 oo 21 (.fld 0 (.t 20)),
 oo 22 (.fld 9 (.t 21)),
 oo 23 (.load false 1 (.t 22)),
 oo 24 (.mv (.t 0)),
 oo 25 (.ixa 1 (.t 23) (.t 24)),
 oo 26 (.load false 1 (.t 25)),
 oo 27 (.bslice [(.sl [] .nil)] 1 [(0, (.t 26))]),
 oo 28 (.app 1 (.t 18) (.t 27)),
 ox (.store 1 (.t 3) (.t 17)),
 ox (.store 1 (.t 4) (.t 28))])
 (.ret)) (.skip)))
 (.keep [0, 5, 6, 7, 9] [9] (.seq (.reg 14 [oo 29 (.load false 1 (.t 6)),
 oo 30 (.load true 2 (.t 9)),
 oo 31 (.bslice [(.int .i64 0), (.sl [] .nil)] 1 [(0, (.t 30))]),
 oo 32 (.app 2 (.t 29) (.t 31)),
 oo 33 (.load false 1 (.t 7)),
 oo 34 (.load false 1 (.t 5)),
 oo 35 (.nilc (.t 34)),
 oo 36 (.fld 0 (.t 35)),
 oo 37 (.fld 9 (.t 36)),
 oo 38 (.load false 1 (.t 37)),
 oo 39 (.mv (.t 0)),
 oo 40 (.ixa 1 (.t 38) (.t 39)),
 oo 41 (.load false 1 (.t 40)),
 oo 42 (.bslice [(.sl [] .nil)] 1 [(0, (.t 41))]),
 oo 43 (.app 1 (.t 33) (.t 42)),
 ox (.store 1 (.t 6) (.t 32)),
 ox (.store 1 (.t 7) (.t 43))])
 (.seq (.reg 8 [oo 44 (.load false 1 (.t 5)),
 oo 45 (.nilc (.t 44)),
 oo 46 (.fld 11 (.t 45)),
 oo 47 (.load false 1 (.t 46)),
 oo 48 (.fld 1 (.t 9)),
 oo 49 (.load false 1 (.t 48)),
 oo 50 (.len .sl (.t 49)),
 oo 51 (.bin .add (ci 1) (.t 50)),
 oo 52 (.bin .sub (.t 47) (.t 51)),
 oo 53 (.nilc (.t 44)),
 oo 54 (.fld 11 (.t 53)),
 ox (.store 1 (.t 54) (.t 52))])
 (.reg 6 [oo 55 (.load false 1 (.t 5)),
 oo 56 (.nilc (.t 55)),
 oo 57 (.fld 13 (.t 56)),
 oo 58 (.load false 1 (.t 57)),
 oo 59 (.load true 2 (.t 9)),
 oo 60 (.call true (cf f_meter_key) [(.t 59)]),
 ox (.mdel .s (.t 58) (.t 60))])))))
def n_meter_Pot_Drop_1 : Fn := ⟨c_meter_Pot_Drop_1, [], false, false⟩
theorem ok_meter_Pot_Drop_1 : fnOf Tryd.prog eff keep f_meter_Pot_Drop_1 = some n_meter_Pot_Drop_1.bare := by kernel_rfl
def b_ref14_Drop_l0 : ACode :=
  (.seq (.seq (.reg 0 [oo 12 (.mv (.t 11)),
 oo 13 (.fld 0 (.t 2)),
 oo 14 (.fld 4 (.t 13)),
 oo 15 (.fld 3 (.t 14)),
 oo 16 (.load false 1 (.t 15)),
 oo 17 (.len .sl (.t 16)),
 oo 18 (.bin .lss (.t 12) (.t 17))])
 (.cond (.t 18) (.skip) (.keep [2, 4, 7, 610008, 9, 700010] [2, 4] (.exit 0))))
 (.keep [1, 2, 4, 420007, 610008, 510009, 700010, 11] [2, 4] (.seq (.block 1 (.seq (.reg 0 [oo 21 (.fld 0 (.t 2)),
 oo 22 (.fld 4 (.t 21)),
 oo 23 (.fld 3 (.t 22)),
 oo 24 (.load false 1 (.t 23)),
 oo 25 (.mv (.t 11)),
 oo 26 (.ixa 2 (.t 24) (.t 25)),
 oo 27 (.fld 0 (.t 26)),
 oo 28 (.load false 1 (.t 27)),
 oo 29 (.mv (.t 1)),
 oo 30 (.bin .eql (.t 28) (.t 29))])
 (.cond (.t 30) (.seq (.reg 0 [oo 31 (.mv (.t 7)),
 oo 32 (.fld 0 (.t 2)),
 oo 33 (.fld 4 (.t 32)),
 oo 34 (.fld 3 (.t 33)),
 oo 35 (.load false 1 (.t 34)),
 oo 36 (.mv (.t 11)),
 oo 37 (.ixa 2 (.t 35) (.t 36)),
 oo 38 (.load true 2 (.t 37)),
 oo 39 (.bslice [(.int .i64 0), (.sl [] .nil)] 1 [(0, (.t 38))]),
 oo 40 (.app 2 (.t 31) (.t 39)),
 oo 7 (.mv (.t 40))])
 (.reg 0 [oo 41 (.mv (.t 9)),
 oo 42 (.fld 0 (.t 2)),
 oo 43 (.fld 9 (.t 42)),
 oo 44 (.load false 1 (.t 43)),
 oo 45 (.mv (.t 11)),
 oo 46 (.ixa 1 (.t 44) (.t 45)),
 oo 47 (.load false 1 (.t 46)),
 oo 48 (.bslice [(.sl [] .nil)] 1 [(0, (.t 47))]),
 oo 49 (.app 1 (.t 41) (.t 48)),
 oo 9 (.mv (.t 49))])) (.seq (.reg 0 [oo 50 (.mv (.t 8)),
 oo 51 (.fld 0 (.t 2)),
 oo 52 (.fld 4 (.t 51)),
 oo 53 (.fld 3 (.t 52)),
 oo 54 (.load false 1 (.t 53)),
 oo 55 (.mv (.t 11)),
 oo 56 (.ixa 2 (.t 54) (.t 55)),
 oo 57 (.load true 2 (.t 56)),
 oo 58 (.bslice [(.int .i64 0), (.sl [] .nil)] 1 [(0, (.t 57))]),
 oo 59 (.app 2 (.t 50) (.t 58)),
 oo 8 (.mv (.t 59))])
 (.reg 0 [oo 60 (.mv (.t 10)),
 oo 61 (.fld 0 (.t 2)),
 oo 62 (.fld 9 (.t 61)),
 oo 63 (.load false 1 (.t 62)),
 oo 64 (.mv (.t 11)),
 oo 65 (.ixa 1 (.t 63) (.t 64)),
 oo 66 (.load false 1 (.t 65)),
 oo 67 (.bslice [(.sl [] .nil)] 1 [(0, (.t 66))]),
 oo 68 (.app 1 (.t 60) (.t 67)),
 oo 10 (.mv (.t 68))])))))
 (.keep [1, 2, 4, 420007, 610008, 510009, 700010, 11] [2, 4] (.reg 0 [oo 19 (.mv (.t 11)),
 oo 20 (.bin .add (.t 19) (ci 1)),
 oo 11 (.mv (.t 20))])))))
def c_ref14_Drop_l0 : ACode := .keep [1, 2, 4, 420007, 610008, 510009, 700010, 11] [2, 4] b_ref14_Drop_l0
def c_ref14_Drop : ACode :=
  .seq (.reg 0 [oo 2 (.box (.t 0)),
 oo 4 (.alloc [(.sl [] .nil), (.sl [] .nil), (.int .i64 0), (.sl [] .nil), (.sl [] .nil), (.sl [] .nil), (.int .i64 0), (.sl [] .nil), (.sl [] .nil), (.sl [] .nil), (.int .i64 0), (.bool false)]),
 oo 5 (.mv (.c (.sl [] .nil))),
 oo 6 (.mv (.c (.sl [] .nil)))])
 (.seq (.reg 0 [oo 7 (.mv (.c (.sl [] .nil))),
 oo 8 (.mv (.c (.sl [] .nil)))])
 (.seq (.reg 0 [oo 9 (.mv (.c (.sl [] .nil))),
 oo 10 (.mv (.c (.sl [] .nil)))])
 (.seq (.seq (.reg 0 [oo 11 (.mv (ci 0))])
 (.block 0 (.loop c_ref14_Drop_l0)))
 (.keep [2, 4, 7, 610008, 9, 700010] [2, 4] (.seq (.reg 0 [oo 69 (.mv (.t 8)),
 oo 70 (.mv (.t 10)),
 oo 71 (.fld 0 (.t 2)),
 oo 72 (.fld 4 (.t 71)),
 oo 73 (.fld 3 (.t 72)),
 ox (.store 1 (.t 73) (.t 69)),
 oo 74 (.fld 0 (.t 2)),
 oo 75 (.fld 9 (.t 74)),
 ox (.store 1 (.t 75) (.t 70))])
 (.seq (.reg 0 [oo 76 (.load true 12 (.t 2)),
 oo 77 (.mv (.t 7)),
 oo 78 (.mv (.t 9)),
 ox (.store 12 (.t 4) (.t 76)),
 oo 5 (.mv (.t 77)),
 oo 6 (.mv (.t 78))])
 (.ret)))))))
def n_ref14_Drop : Fn := ⟨c_ref14_Drop, [.c 4 12 true, .t 5, .t 6], false, false⟩
theorem ok_ref14_Drop : fnOf Tryd.prog eff keep f_ref14_Drop = some n_ref14_Drop.bare := by kernel_rfl
@[simp] theorem c_ref14_Drop_l0_norm (st : St) : norm c_ref14_Drop_l0 st = st.keep [1, 2, 4, 420007, 610008, 510009, 700010, 11] [2, 4] := rfl
def b_ref12_Same_l0 : ACode :=
  (.seq (.seq (.reg 0 [oo 11 (.mv (.t 5)),
 oo 12 (.mv (.t 0)),
 oo 13 (.len .sl (.t 12)),
 oo 14 (.bin .lss (.t 11) (.t 13))])
 (.cond (.t 14) (.skip) (.keep [] [] (.exit 0))))
 (.keep [0, 1, 5] [] (.seq (.block 1 (.seq (.seq (.reg 29 [oo 17 (.mv (.t 0)),
 oo 18 (.mv (.t 5)),
 oo 19 (.ixa 3 (.t 17) (.t 18)),
 oo 20 (.fld 0 (.t 19)),
 oo 21 (.load false 1 (.t 20)),
 oo 22 (.mv (.t 1)),
 oo 23 (.mv (.t 5)),
 oo 24 (.ixa 3 (.t 22) (.t 23)),
 oo 25 (.fld 0 (.t 24)),
 oo 26 (.load false 1 (.t 25)),
 oo 27 (.bin .neq (.t 21) (.t 26)),
 oo 28 (.mv (.t 27)),
 og 29 28 false (.mv (.t 0)),
 og 30 28 false (.mv (.t 5)),
 og 31 28 false (.ixa 3 (.t 29) (.t 30)),
 og 32 28 false (.fld 0 (.t 31)),
 og 33 28 false (.load false 1 (.t 32)),
 og 34 28 false (.bin .neq (.t 33) (ci 2)),
 og 35 28 false (.mv (.t 34)),
 og 36 35 true (.mv (.t 0)),
 og 37 35 true (.mv (.t 5)),
 og 38 35 true (.ixa 3 (.t 36) (.t 37)),
 og 39 35 true (.fld 1 (.t 38)),
 og 40 35 true (.load false 1 (.t 39)),
 og 41 35 true (.mv (.t 1)),
 og 42 35 true (.mv (.t 5)),
 og 43 35 true (.ixa 3 (.t 41) (.t 42)),
 og 44 35 true (.fld 1 (.t 43)),
 og 45 35 true (.load false 1 (.t 44)),
 og 46 35 true (.bin .neq (.t 40) (.t 45)),
 og 47 28 false (.pick (.t 35) (.t 46) (.c (.bool false))),
 oo 48 (.pick (.t 28) (.c (.bool true)) (.t 47))])
 (.cond (.t 48) (.seq (.reg 0 [oo 4 (.mv (.c (.bool false)))])
 (.keep [4] [] (.ret))) (.skip)))
 (.keep [0, 1, 5] [] (.seq (.reg 25 [oo 49 (.mv (.t 0)),
 oo 50 (.mv (.t 5)),
 oo 51 (.ixa 3 (.t 49) (.t 50)),
 oo 52 (.fld 0 (.t 51)),
 oo 53 (.load false 1 (.t 52)),
 oo 54 (.bin .eql (.t 53) (ci 0)),
 oo 55 (.mv (.t 54)),
 og 56 55 false (.mv (.t 0)),
 og 57 55 false (.mv (.t 5)),
 og 58 55 false (.ixa 3 (.t 56) (.t 57)),
 og 59 55 false (.fld 0 (.t 58)),
 og 60 55 false (.load false 1 (.t 59)),
 og 61 55 false (.bin .eql (.t 60) (ci 3)),
 oo 62 (.pick (.t 55) (.c (.bool true)) (.t 61)),
 oo 63 (.mv (.t 62)),
 og 64 63 true (.mv (.t 0)),
 og 65 63 true (.mv (.t 5)),
 og 66 63 true (.ixa 3 (.t 64) (.t 65)),
 og 67 63 true (.fld 2 (.t 66)),
 og 68 63 true (.load false 1 (.t 67)),
 og 69 63 true (.mv (.t 1)),
 og 70 63 true (.mv (.t 5)),
 og 71 63 true (.ixa 3 (.t 69) (.t 70)),
 og 72 63 true (.fld 2 (.t 71)),
 og 73 63 true (.load false 1 (.t 72)),
 og 74 63 true (.call true (cf f_ref12_Same) [(.t 68), (.t 73)]),
 og 75 63 true (.un .not (.t 74)),
 oo 76 (.pick (.t 63) (.t 75) (.c (.bool false)))])
 (.cond (.t 76) (.seq (.reg 0 [oo 4 (.mv (.c (.bool false)))])
 (.keep [4] [] (.ret))) (.skip))))))
 (.keep [0, 1, 5] [] (.reg 0 [oo 15 (.mv (.t 5)),
 oo 16 (.bin .add (.t 15) (ci 1)),
 oo 5 (.mv (.t 16))])))))
def c_ref12_Same_l0 : ACode := .keep [0, 1, 5] [] b_ref12_Same_l0
def c_ref12_Same : ACode :=
  .seq (.reg 0 [oo 4 (.mv (.c (.bool false)))])
 (.seq (.seq (.reg 0 [oo 6 (.mv (.t 0)),
 oo 7 (.len .sl (.t 6)),
 oo 8 (.mv (.t 1)),
 oo 9 (.len .sl (.t 8)),
 oo 10 (.bin .neq (.t 7) (.t 9))])
 (.cond (.t 10) (.seq (.reg 0 [oo 4 (.mv (.c (.bool false)))])
 (.ret)) (.skip)))
 (.keep [0, 1] [] (.seq (.seq (.reg 0 [oo 5 (.mv (ci 0))])
 (.block 0 (.loop c_ref12_Same_l0)))
 (.keep [] [] (.seq (.reg 0 [oo 4 (.mv (.c (.bool true)))])
 (.ret))))))
def n_ref12_Same : Fn := ⟨c_ref12_Same, [.t 4], false, false⟩
theorem ok_ref12_Same : fnOf Tryd.prog eff keep f_ref12_Same = some n_ref12_Same.bare := by kernel_rfl
@[simp] theorem c_ref12_Same_l0_norm (st : St) : norm c_ref12_Same_l0 st = st.keep [0, 1, 5] [] := rfl
def c_ref14_Fresh : ACode :=
  .seq (.reg 0 [oo 3 (.box (.t 0)),
 oo 5 (.box (.t 2)),
 oo 6 (.alloc [(.sl [] .nil), (.sl [] .nil), (.int .i64 0), (.sl [] .nil), (.sl [] .nil), (.sl [] .nil), (.int .i64 0), (.sl [] .nil), (.sl [] .nil), (.sl [] .nil), (.int .i64 0), (.bool false)]),
 oo 7 (.mv (ci 0))])
 (.seq (.seq (.reg 0 [oo 8 (.fld 11 (.t 3)),
 oo 9 (.load false 1 (.t 8)),
 oo 10 (.mv (.t 9)),
 og 11 10 false (.fld 0 (.t 3)),
 og 12 10 false (.fld 4 (.t 11)),
 og 13 10 false (.fld 0 (.t 12)),
 og 14 10 false (.load false 1 (.t 13)),
 og 15 10 false (.len .sl (.t 14)),
 og 16 10 false (.bin .geq (.t 15) (ci 2048)),
 oo 17 (.pick (.t 10) (.c (.bool true)) (.t 16))])
 (.cond (.t 17) (.seq (.reg 0 [oo 18 (.fld 11 (.t 3)),
 ox (.store 1 (.t 18) (.c (.bool true)))])
 (.seq (.reg 0 [oo 19 (.load true 12 (.t 3)),
 ox (.store 12 (.t 6) (.t 19)),
 oo 7 (.mv (ci (-1)))])
 (.ret))) (.skip)))
 (.keep [1, 3, 5, 6] [3, 5, 6] (.seq (.reg 11 [oo 20 (.bslice [(.str ⟨#[]⟩)] 0 []),
 oo 21 (.fld 0 (.t 3)),
 oo 22 (.fld 4 (.t 21)),
 oo 23 (.fld 0 (.t 22)),
 oo 24 (.load false 1 (.t 23)),
 oo 25 (.app 1 (.t 20) (.t 24)),
 oo 26 (.fld 0 (.t 3)),
 oo 27 (.fld 4 (.t 26)),
 oo 28 (.fld 0 (.t 27)),
 oo 29 (.load false 1 (.t 28)),
 oo 30 (.mv (.t 1)),
 oo 31 (.call true (cf f_ref01_Fresh) [(.t 29), (.t 30)]),
 oo 32 (.bslice [(.str ⟨#[]⟩)] 1 [(0, (.t 31))]),
 oo 33 (.app 1 (.t 25) (.t 32)),
 oo 34 (.fld 0 (.t 3)),
 oo 35 (.fld 4 (.t 34)),
 oo 36 (.fld 0 (.t 35)),
 ox (.store 1 (.t 36) (.t 33))])
 (.seq (.reg 7 [oo 37 (.bslice [(.bool false), (.sl [] .nil), (.sl [] .nil)] 0 []),
 oo 38 (.fld 0 (.t 3)),
 oo 39 (.fld 8 (.t 38)),
 oo 40 (.load false 1 (.t 39)),
 oo 41 (.app 3 (.t 37) (.t 40)),
 oo 42 (.load true 3 (.t 5)),
 oo 43 (.bslice [(.bool false), (.sl [] .nil), (.sl [] .nil)] 1 [(0, (.t 42))]),
 oo 44 (.app 3 (.t 41) (.t 43)),
 oo 45 (.fld 0 (.t 3)),
 oo 46 (.fld 8 (.t 45)),
 ox (.store 1 (.t 46) (.t 44))])
 (.seq (.reg 7 [oo 47 (.load true 12 (.t 3)),
 oo 48 (.fld 0 (.t 3)),
 oo 49 (.fld 8 (.t 48)),
 oo 50 (.load false 1 (.t 49)),
 oo 51 (.len .sl (.t 50)),
 oo 52 (.bin .sub (.t 51) (ci 1)),
 ox (.store 12 (.t 6) (.t 47)),
 oo 7 (.mv (.t 52))])
 (.ret))))))
def n_ref14_Fresh : Fn := ⟨c_ref14_Fresh, [.c 6 12 true, .t 7], false, false⟩
theorem ok_ref14_Fresh : fnOf Tryd.prog eff keep f_ref14_Fresh = some n_ref14_Fresh.bare := by kernel_rfl
def b_ref01_Fresh_l0 : ACode :=
  (.seq (.seq (.reg 0 [oo 26 (.mv (.t 8)),
 oo 27 (.mv (.t 0)),
 oo 28 (.len .sl (.t 27)),
 oo 29 (.bin .lss (.t 26) (.t 28))])
 (.cond (.t 29) (.skip) (.keep [0, 1, 5, 6, 7] [] (.exit 2))))
 (.keep [0, 1, 5, 6, 7, 8] [] (.seq (.block 3 (.reg 0 [oo 32 (.mv (.t 7)),
 oo 33 (.mv (.t 32)),
 og 34 33 false (.mv (.t 0)),
 og 35 33 false (.mv (.t 8)),
 og 36 33 false (.ixa 1 (.t 34) (.t 35)),
 og 37 33 false (.load false 1 (.t 36)),
 og 38 33 false (.mv (.t 6)),
 og 39 33 false (.bin .eql (.t 37) (.t 38)),
 oo 40 (.pick (.t 33) (.c (.bool true)) (.t 39)),
 oo 7 (.mv (.t 40))]))
 (.keep [0, 1, 5, 6, 7, 8] [] (.reg 0 [oo 30 (.mv (.t 8)),
 oo 31 (.bin .add (.t 30) (ci 1)),
 oo 8 (.mv (.t 31))])))))
def c_ref01_Fresh_l0 : ACode := .keep [0, 1, 5, 6, 7, 8] [] b_ref01_Fresh_l0
def b_ref01_Fresh_l1 : ACode :=
  (.seq (.seq (.reg 0 [oo 14 (.mv (.t 5)),
 oo 15 (.mv (.t 0)),
 oo 16 (.len .sl (.t 15)),
 oo 17 (.bin .add (.t 16) (ci 1)),
 oo 18 (.bin .leq (.t 14) (.t 17))])
 (.cond (.t 18) (.skip) (.keep [] [] (.exit 0))))
 (.keep [0, 1, 5] [] (.seq (.block 1 (.seq (.reg 0 [oo 21 (.mv (.t 1)),
 oo 22 (.bin .add (.t 21) (.c (.str ⟨#[45]⟩))),
 oo 23 (.mv (.t 5)),
 oo 24 (.call true (cf f_ref01_Digits) [(.t 23)]),
 oo 25 (.bin .add (.t 22) (.t 24)),
 oo 6 (.mv (.t 25))])
 (.seq (.reg 0 [oo 7 (.mv (.c (.bool false)))])
 (.seq (.seq (.reg 0 [oo 8 (.mv (ci 0))])
 (.block 2 (.loop c_ref01_Fresh_l0)))
 (.keep [0, 1, 5, 6, 7] [] (.seq (.reg 0 [oo 41 (.mv (.t 7)),
 oo 42 (.un .not (.t 41))])
 (.cond (.t 42) (.seq (.reg 0 [oo 43 (.mv (.t 6)),
 oo 4 (.mv (.t 43))])
 (.keep [4] [] (.ret))) (.skip))))))))
 (.keep [0, 1, 5] [] (.reg 0 [oo 19 (.mv (.t 5)),
 oo 20 (.bin .add (.t 19) (ci 1)),
 oo 5 (.mv (.t 20))])))))
def c_ref01_Fresh_l1 : ACode := .keep [0, 1, 5] [] b_ref01_Fresh_l1
def c_ref01_Fresh : ACode :=
  .seq (.reg 0 [oo 4 (.mv (.c (.str ⟨#[]⟩)))])
 (.seq (.seq (.reg 0 [oo 9 (.mv (.t 1)),
 oo 10 (.len .s (.t 9)),
 oo 11 (.bin .gtr (.t 10) (ci 32))])
 (.cond (.t 11) (.reg 0 [oo 12 (.mv (.t 1)),
 oo 13 (.slS (.t 12) none (some (ci 32))),
 oo 1 (.mv (.t 13))]) (.skip)))
 (.keep [0, 1] [] (.seq (.seq (.reg 0 [oo 5 (.mv (ci 1))])
 (.block 0 (.loop c_ref01_Fresh_l1)))
 (.keep [] [] (.seq (.reg 0 [oo 4 (.mv (.c (.str ⟨#[]⟩)))])
 (.ret))))))
def n_ref01_Fresh : Fn := ⟨c_ref01_Fresh, [.t 4], false, false⟩
theorem ok_ref01_Fresh : fnOf Tryd.prog eff keep f_ref01_Fresh = some n_ref01_Fresh.bare := by kernel_rfl
@[simp] theorem c_ref01_Fresh_l0_norm (st : St) : norm c_ref01_Fresh_l0 st = st.keep [0, 1, 5, 6, 7, 8] [] := rfl
@[simp] theorem c_ref01_Fresh_l1_norm (st : St) : norm c_ref01_Fresh_l1 st = st.keep [0, 1, 5] [] := rfl
def b_ref01_Digits_l0 : ACode :=
  (.seq (.seq (.reg 0 [oo 4 (.mv (.t 0)),
 oo 5 (.bin .gtr (.t 4) (ci 0)),
 oo 6 (.mv (.t 5)),
 og 7 6 false (.mv (.t 3)),
 og 8 6 false (.bin .eql (.t 7) (.c (.str ⟨#[]⟩))),
 oo 9 (.pick (.t 6) (.c (.bool true)) (.t 8))])
 (.cond (.t 9) (.skip) (.keep [3] [] (.exit 0))))
 (.keep [0, 3] [] (.block 1 (.seq (.reg 0 [oo 10 (.mv (.t 0)),
 oo 11 (.bin .rem (.t 10) (ci 10)),
 oo 12 (.bin .add (ci 48) (.t 11)),
 oo 13 (.conv .u8 (.t 12)),
 oo 14 (.bslice [(.int .u8 0)] 1 [(0, (.t 13))]),
 oo 15 (.tostr (.t 14)),
 oo 16 (.mv (.t 3)),
 oo 17 (.bin .add (.t 15) (.t 16)),
 oo 3 (.mv (.t 17))])
 (.reg 0 [oo 18 (.mv (.t 0)),
 oo 19 (.bin .quo (.t 18) (ci 10)),
 oo 0 (.mv (.t 19))])))))
def c_ref01_Digits_l0 : ACode := .keep [0, 3] [] b_ref01_Digits_l0
def c_ref01_Digits : ACode :=
  .seq (.reg 0 [oo 2 (.mv (.c (.str ⟨#[]⟩)))])
 (.seq (.reg 0 [oo 3 (.mv (.c (.str ⟨#[]⟩)))])
 (.seq (.block 0 (.loop c_ref01_Digits_l0))
 (.keep [3] [] (.seq (.reg 0 [oo 20 (.mv (.t 3)),
 oo 2 (.mv (.t 20))])
 (.ret)))))
def n_ref01_Digits : Fn := ⟨c_ref01_Digits, [.t 2], false, false⟩
theorem ok_ref01_Digits : fnOf Tryd.prog eff keep f_ref01_Digits = some n_ref01_Digits.bare := by kernel_rfl
@[simp] theorem c_ref01_Digits_l0_norm (st : St) : norm c_ref01_Digits_l0 st = st.keep [0, 3] [] := rfl
def c_meter_Pot_Fresh : ACode :=
  .seq (.reg 0 [oo 5 (.box (.t 2)),
 oo 6 (.mv (ci 0))])
 (.seq (.reg 0 [oo 8 (.mv (.t 0)),
 oo 9 (.nilc (.t 8)),
 oo 10 (.fld 0 (.t 9)),
 oo 11 (.fld 4 (.t 10)),
 oo 12 (.fld 0 (.t 11)),
 oo 13 (.load false 1 (.t 12)),
 oo 14 (.len .sl (.t 13)),
 oo 7 (.mv (.t 14))])
 (.seq (.seq (.reg 0 [oo 15 (.mv (.t 0)),
 oo 16 (.nilc (.t 15)),
 oo 17 (.fld 12 (.t 16)),
 oo 18 (.load false 1 (.t 17)),
 oo 19 (.mv (.t 18)),
 og 20 19 false (.mv (.t 7)),
 og 21 19 false (.bin .geq (.t 20) (ci 2048)),
 oo 22 (.pick (.t 19) (.c (.bool true)) (.t 21))])
 (.cond (.t 22) (.seq (.reg 0 [oo 23 (.mv (.t 0)),
 oo 24 (.nilc (.t 23)),
 oo 25 (.fld 12 (.t 24)),
 ox (.store 1 (.t 25) (.c (.bool true)))])
 (.seq (.reg 0 [oo 6 (.mv (ci (-1)))])
 (.ret))) (.skip)))
 (.keep [0, 1, 5, 7] [5] (.seq (.reg 16 [oo 26 (.mv (.t 0)),
 oo 27 (.mv (.t 0)),
 oo 28 (.nilc (.t 27)),
 oo 29 (.fld 0 (.t 28)),
 oo 30 (.fld 4 (.t 29)),
 oo 31 (.fld 0 (.t 30)),
 oo 32 (.load false 1 (.t 31)),
 oo 33 (.mv (.t 0)),
 oo 34 (.nilc (.t 33)),
 oo 35 (.fld 0 (.t 34)),
 oo 36 (.fld 4 (.t 35)),
 oo 37 (.fld 0 (.t 36)),
 oo 38 (.load false 1 (.t 37)),
 oo 39 (.mv (.t 1)),
 oo 40 (.call true (cf f_names_Fresh) [(.t 38), (.t 39)]),
 oo 41 (.bslice [(.str ⟨#[]⟩)] 1 [(0, (.t 40))]),
 oo 42 (.app 1 (.t 32) (.t 41)),
 oo 43 (.nilc (.t 26)),
 oo 44 (.fld 0 (.t 43)),
 oo 45 (.fld 4 (.t 44)),
 oo 46 (.fld 0 (.t 45)),
 ox (.store 1 (.t 46) (.t 42))])
 (.seq (.reg 8 [oo 47 (.mv (.t 0)),
 oo 48 (.mv (.t 0)),
 oo 49 (.nilc (.t 48)),
 oo 50 (.fld 0 (.t 49)),
 oo 51 (.fld 8 (.t 50)),
 oo 52 (.load false 1 (.t 51)),
 oo 53 (.load true 3 (.t 5)),
 oo 54 (.bslice [(.bool false), (.sl [] .nil), (.sl [] .nil)] 1 [(0, (.t 53))]),
 oo 55 (.app 3 (.t 52) (.t 54)),
 oo 56 (.nilc (.t 47)),
 oo 57 (.fld 0 (.t 56)),
 oo 58 (.fld 8 (.t 57)),
 ox (.store 1 (.t 58) (.t 55))])
 (.seq (.reg 0 [oo 59 (.mv (.t 7)),
 oo 6 (.mv (.t 59))])
 (.ret)))))))
def n_meter_Pot_Fresh : Fn := ⟨c_meter_Pot_Fresh, [.t 6], false, false⟩
theorem ok_meter_Pot_Fresh : fnOf Tryd.prog eff keep f_meter_Pot_Fresh = some n_meter_Pot_Fresh.bare := by kernel_rfl
def b_law12_Of_l0 : ACode :=
  (.seq (.reg 0 [oo 19 (.bin .lss (.t 18) (.t 17))])
 (.seq (.cond (.t 19) (.skip) (.keep [1, 2, 3] [1, 2, 3] (.exit 0)))
 (.keep [1, 2, 3, 16, 17, 18] [1, 2, 3] (.seq (.block 1 (.seq (.reg 0 [oo 20 (.ixa 3 (.t 16) (.t 18)),
 oo 21 (.load true 3 (.t 20)),
 oo 5 (.alloc [(.bool false), (.sl [] .nil), (.sl [] .nil)]),
 ox (.store 3 (.t 5) (.t 21))])
 (.reg 12 [oo 22 (.fld 8 (.t 3)),
 oo 23 (.load false 1 (.t 22)),
 oo 24 (.fld 0 (.t 5)),
 oo 25 (.load false 1 (.t 24)),
 oo 26 (.fld 1 (.t 5)),
 oo 27 (.load false 1 (.t 26)),
 oo 28 (.call true (cf f_law12_ints) [(.t 27)]),
 oo 29 (.fld 2 (.t 5)),
 oo 30 (.load false 1 (.t 29)),
 oo 31 (.call true (cf f_law12_ints) [(.t 30)]),
 oo 32 (.build [(.bool false), (.sl [] .nil), (.sl [] .nil)] [(0, 1, (.t 25)), (1, 1, (.t 28)), (2, 1, (.t 31))]),
 oo 33 (.bslice [(.bool false), (.sl [] .nil), (.sl [] .nil)] 1 [(0, (.t 32))]),
 oo 34 (.app 3 (.t 23) (.t 33)),
 oo 35 (.fld 8 (.t 3)),
 ox (.store 1 (.t 35) (.t 34))])))
 (.keep [1, 2, 3, 16, 17, 18] [1, 2, 3] (.reg 0 [oo 36 (.bin .add (.t 18) (ci 1)),
 oo 18 (.mv (.t 36))]))))))
def c_law12_Of_l0 : ACode := .keep [1, 2, 3, 16, 17, 18] [1, 2, 3] b_law12_Of_l0
def b_law12_Of_l1 : ACode :=
  (.seq (.reg 0 [oo 41 (.bin .lss (.t 40) (.t 39))])
 (.seq (.cond (.t 41) (.skip) (.keep [2, 3] [2, 3] (.exit 2)))
 (.keep [2, 3, 38, 39, 40] [2, 3] (.seq (.block 3 (.seq (.reg 0 [oo 42 (.ixa 1 (.t 38) (.t 40)),
 oo 43 (.load false 1 (.t 42)),
 oo 7 (.mv (.t 43))])
 (.reg 5 [oo 44 (.fld 9 (.t 3)),
 oo 45 (.load false 1 (.t 44)),
 oo 46 (.mv (.t 7)),
 oo 47 (.call true (cf f_law12_Items) [(.t 46)]),
 oo 48 (.bslice [(.sl [] .nil)] 1 [(0, (.t 47))]),
 oo 49 (.app 1 (.t 45) (.t 48)),
 oo 50 (.fld 9 (.t 3)),
 ox (.store 1 (.t 50) (.t 49))])))
 (.keep [2, 3, 38, 39, 40] [2, 3] (.reg 0 [oo 51 (.bin .add (.t 40) (ci 1)),
 oo 40 (.mv (.t 51))]))))))
def c_law12_Of_l1 : ACode := .keep [2, 3, 38, 39, 40] [2, 3] b_law12_Of_l1
def c_law12_Of : ACode :=
  .seq (.reg 0 [oo 1 (.box (.t 0)),
 oo 2 (.alloc [(.sl [] .nil), (.sl [] .nil), (.int .i64 0), (.sl [] .nil), (.sl [] .nil), (.sl [] .nil), (.int .i64 0), (.sl [] .nil), (.sl [] .nil), (.sl [] .nil)])])
 (.seq (.reg 8 [oo 8 (.fld 0 (.t 1)),
 oo 9 (.load true 4 (.t 8)),
 oo 10 (.call true (cf f_law02_Of) [(.t 9)]),
 oo 11 (.fld 4 (.t 1)),
 oo 12 (.load true 4 (.t 11)),
 oo 13 (.call true (cf f_law02_Of) [(.t 12)]),
 oo 14 (.build [(.sl [] .nil), (.sl [] .nil), (.int .i64 0), (.sl [] .nil), (.sl [] .nil), (.sl [] .nil), (.int .i64 0), (.sl [] .nil), (.sl [] .nil), (.sl [] .nil)] [(0, 4, (.t 10)), (4, 4, (.t 13))]),
 oo 3 (.alloc [(.sl [] .nil), (.sl [] .nil), (.int .i64 0), (.sl [] .nil), (.sl [] .nil), (.sl [] .nil), (.int .i64 0), (.sl [] .nil), (.sl [] .nil), (.sl [] .nil)]),
 ox (.store 10 (.t 3) (.t 14))])
 (.seq (.seq (.reg 0 [oo 15 (.fld 8 (.t 1)),
 oo 16 (.load false 1 (.t 15)),
 oo 17 (.len .sl (.t 16)),
 oo 18 (.mv (ci 0))])
 (.block 0 (.loop c_law12_Of_l0)))
 (.keep [1, 2, 3] [1, 2, 3] (.seq (.seq (.reg 0 [oo 37 (.fld 9 (.t 1)),
 oo 38 (.load false 1 (.t 37)),
 oo 39 (.len .sl (.t 38)),
 oo 40 (.mv (ci 0))])
 (.block 2 (.loop c_law12_Of_l1)))
 (.keep [2, 3] [2, 3] (.seq (.reg 0 [oo 52 (.load true 10 (.t 3)),
 ox (.store 10 (.t 2) (.t 52))])
 (.ret)))))))
def n_law12_Of : Fn := ⟨c_law12_Of, [.c 2 10 true], false, false⟩
theorem ok_law12_Of : fnOf Tryd.prog eff keep f_law12_Of = some n_law12_Of.bare := by kernel_rfl
@[simp] theorem c_law12_Of_l0_norm (st : St) : norm c_law12_Of_l0 st = st.keep [1, 2, 3, 16, 17, 18] [1, 2, 3] := rfl
@[simp] theorem c_law12_Of_l1_norm (st : St) : norm c_law12_Of_l1 st = st.keep [2, 3, 38, 39, 40] [2, 3] := rfl
def b_law12_ints_l0 : ACode :=
  (.seq (.reg 0 [oo 9 (.bin .lss (.t 8) (.t 7))])
 (.seq (.cond (.t 9) (.skip) (.keep [3] [] (.exit 0)))
 (.keep [170003, 6, 7, 8] [] (.seq (.block 1 (.seq (.reg 0 [oo 10 (.ixa 1 (.t 6) (.t 8)),
 oo 11 (.load false 1 (.t 10)),
 oo 5 (.mv (.t 11))])
 (.reg 0 [oo 12 (.mv (.t 3)),
 oo 13 (.mv (.t 5)),
 oo 14 (.bslice [(.int .i64 0)] 1 [(0, (.t 13))]),
 oo 15 (.app 1 (.t 12) (.t 14)),
 oo 3 (.mv (.t 15))])))
 (.keep [170003, 6, 7, 8] [] (.reg 0 [oo 16 (.bin .add (.t 8) (ci 1)),
 oo 8 (.mv (.t 16))]))))))
def c_law12_ints_l0 : ACode := .keep [170003, 6, 7, 8] [] b_law12_ints_l0
def c_law12_ints : ACode :=
  .seq (.reg 0 [oo 2 (.mv (.c (.sl [] .nil)))])
 (.seq (.reg 0 [oo 3 (.mv (.c (.sl [] .nil)))])
 (.seq (.seq (.reg 0 [oo 6 (.mv (.t 0)),
 oo 7 (.len .sl (.t 6)),
 oo 8 (.mv (ci 0))])
 (.block 0 (.loop c_law12_ints_l0)))
 (.keep [3] [] (.seq (.reg 0 [oo 17 (.mv (.t 3)),
 oo 2 (.mv (.t 17))])
 (.ret)))))
def n_law12_ints : Fn := ⟨c_law12_ints, [.t 2], false, false⟩
theorem ok_law12_ints : fnOf Tryd.prog eff keep f_law12_ints = some n_law12_ints.bare := by kernel_rfl
@[simp] theorem c_law12_ints_l0_norm (st : St) : norm c_law12_ints_l0 st = st.keep [170003, 6, 7, 8] [] := rfl
def b_ref14_Same_l0 : ACode :=
  (.seq (.seq (.reg 0 [oo 37 (.mv (.t 5)),
 oo 38 (.fld 9 (.t 2)),
 oo 39 (.load false 1 (.t 38)),
 oo 40 (.len .sl (.t 39)),
 oo 41 (.bin .lss (.t 37) (.t 40))])
 (.cond (.t 41) (.skip) (.keep [] [] (.exit 0))))
 (.keep [2, 3, 5] [2, 3] (.seq (.block 1 (.seq (.reg 10 [oo 44 (.fld 9 (.t 2)),
 oo 45 (.load false 1 (.t 44)),
 oo 46 (.mv (.t 5)),
 oo 47 (.ixa 1 (.t 45) (.t 46)),
 oo 48 (.load false 1 (.t 47)),
 oo 49 (.fld 9 (.t 3)),
 oo 50 (.load false 1 (.t 49)),
 oo 51 (.mv (.t 5)),
 oo 52 (.ixa 1 (.t 50) (.t 51)),
 oo 53 (.load false 1 (.t 52)),
 oo 54 (.call true (cf f_ref12_Same) [(.t 48), (.t 53)]),
 oo 55 (.un .not (.t 54))])
 (.cond (.t 55) (.seq (.reg 0 [oo 4 (.mv (.c (.bool false)))])
 (.keep [4] [] (.ret))) (.skip))))
 (.keep [2, 3, 5] [2, 3] (.reg 0 [oo 42 (.mv (.t 5)),
 oo 43 (.bin .add (.t 42) (ci 1)),
 oo 5 (.mv (.t 43))])))))
def c_ref14_Same_l0 : ACode := .keep [2, 3, 5] [2, 3] b_ref14_Same_l0
def c_ref14_Same : ACode :=
  .seq (.reg 0 [oo 2 (.box (.t 0)),
 oo 3 (.box (.t 1)),
 oo 4 (.mv (.c (.bool false)))])
 (.seq (.seq (.reg 0 [oo 6 (.fld 0 (.t 2)),
 oo 7 (.load true 4 (.t 6)),
 oo 8 (.fld 0 (.t 3)),
 oo 9 (.load true 4 (.t 8)),
 oo 10 (.call true (cf f_ref02_Alike) [(.t 7), (.t 9)]),
 oo 11 (.un .not (.t 10)),
 oo 12 (.mv (.t 11)),
 og 13 12 false (.fld 4 (.t 2)),
 og 14 12 false (.load true 4 (.t 13)),
 og 15 12 false (.fld 4 (.t 3)),
 og 16 12 false (.load true 4 (.t 15)),
 og 17 12 false (.call true (cf f_ref02_Alike) [(.t 14), (.t 16)]),
 og 18 12 false (.un .not (.t 17)),
 oo 19 (.pick (.t 12) (.c (.bool true)) (.t 18)),
 oo 20 (.mv (.t 19)),
 og 21 20 false (.fld 8 (.t 2)),
 og 22 20 false (.load false 1 (.t 21)),
 og 23 20 false (.fld 8 (.t 3)),
 og 24 20 false (.load false 1 (.t 23)),
 og 25 20 false (.call true (cf f_ref14_SameSorts) [(.t 22), (.t 24)]),
 og 26 20 false (.un .not (.t 25)),
 oo 27 (.pick (.t 20) (.c (.bool true)) (.t 26)),
 oo 28 (.mv (.t 27)),
 og 29 28 false (.fld 9 (.t 2)),
 og 30 28 false (.load false 1 (.t 29)),
 og 31 28 false (.len .sl (.t 30)),
 og 32 28 false (.fld 9 (.t 3)),
 og 33 28 false (.load false 1 (.t 32)),
 og 34 28 false (.len .sl (.t 33)),
 og 35 28 false (.bin .neq (.t 31) (.t 34)),
 oo 36 (.pick (.t 28) (.c (.bool true)) (.t 35))])
 (.cond (.t 36) (.seq (.reg 0 [oo 4 (.mv (.c (.bool false)))])
 (.ret)) (.skip)))
 (.keep [2, 3] [2, 3] (.seq (.seq (.reg 0 [oo 5 (.mv (ci 0))])
 (.block 0 (.loop c_ref14_Same_l0)))
 (.keep [] [] (.seq (.reg 0 [oo 4 (.mv (.c (.bool true)))])
 (.ret))))))
def n_ref14_Same : Fn := ⟨c_ref14_Same, [.t 4], false, false⟩
theorem ok_ref14_Same : fnOf Tryd.prog eff keep f_ref14_Same = some n_ref14_Same.bare := by kernel_rfl
@[simp] theorem c_ref14_Same_l0_norm (st : St) : norm c_ref14_Same_l0 st = st.keep [2, 3, 5] [2, 3] := rfl
end Go.Proofs.YtlacnkjkcikodaaDoor.Am
end
section
set_option linter.unusedVariables false
set_option maxRecDepth 1000000
namespace Go.Proofs.YtlacnkjkcikodaaDoor.Am
open Go
def b_ref02_Alike_l0 : ACode :=
  (.seq (.seq (.reg 0 [oo 36 (.mv (.t 5)),
 oo 37 (.fld 3 (.t 2)),
 oo 38 (.load false 1 (.t 37)),
 oo 39 (.len .sl (.t 38)),
 oo 40 (.bin .lss (.t 36) (.t 39))])
 (.cond (.t 40) (.skip) (.keep [] [] (.exit 0))))
 (.keep [2, 3, 5] [2, 3] (.seq (.block 1 (.seq (.reg 10 [oo 43 (.fld 3 (.t 2)),
 oo 44 (.load false 1 (.t 43)),
 oo 45 (.mv (.t 5)),
 oo 46 (.ixa 2 (.t 44) (.t 45)),
 oo 47 (.load true 2 (.t 46)),
 oo 48 (.fld 3 (.t 3)),
 oo 49 (.load false 1 (.t 48)),
 oo 50 (.mv (.t 5)),
 oo 51 (.ixa 2 (.t 49) (.t 50)),
 oo 52 (.load true 2 (.t 51)),
 oo 53 (.call true (cf f_ref02_Same) [(.t 47), (.t 52)]),
 oo 54 (.un .not (.t 53))])
 (.cond (.t 54) (.seq (.reg 0 [oo 4 (.mv (.c (.bool false)))])
 (.keep [4] [] (.ret))) (.skip))))
 (.keep [2, 3, 5] [2, 3] (.reg 0 [oo 41 (.mv (.t 5)),
 oo 42 (.bin .add (.t 41) (ci 1)),
 oo 5 (.mv (.t 42))])))))
def c_ref02_Alike_l0 : ACode := .keep [2, 3, 5] [2, 3] b_ref02_Alike_l0
def c_ref02_Alike : ACode :=
  .seq (.reg 0 [oo 2 (.box (.t 0)),
 oo 3 (.box (.t 1)),
 oo 4 (.mv (.c (.bool false)))])
 (.seq (.seq (.reg 0 [oo 6 (.fld 2 (.t 2)),
 oo 7 (.load false 1 (.t 6)),
 oo 8 (.fld 2 (.t 3)),
 oo 9 (.load false 1 (.t 8)),
 oo 10 (.bin .neq (.t 7) (.t 9)),
 oo 11 (.mv (.t 10)),
 og 12 11 false (.fld 0 (.t 2)),
 og 13 11 false (.load false 1 (.t 12)),
 og 14 11 false (.fld 0 (.t 3)),
 og 15 11 false (.load false 1 (.t 14)),
 og 16 11 false (.call true (cf f_ref02_texts) [(.t 13), (.t 15)]),
 og 17 11 false (.un .not (.t 16)),
 oo 18 (.pick (.t 11) (.c (.bool true)) (.t 17)),
 oo 19 (.mv (.t 18)),
 og 20 19 false (.fld 1 (.t 2)),
 og 21 19 false (.load false 1 (.t 20)),
 og 22 19 false (.fld 1 (.t 3)),
 og 23 19 false (.load false 1 (.t 22)),
 og 24 19 false (.call true (cf f_ref02_texts) [(.t 21), (.t 23)]),
 og 25 19 false (.un .not (.t 24)),
 oo 26 (.pick (.t 19) (.c (.bool true)) (.t 25)),
 oo 27 (.mv (.t 26)),
 og 28 27 false (.fld 3 (.t 2)),
 og 29 27 false (.load false 1 (.t 28)),
 og 30 27 false (.len .sl (.t 29)),
 og 31 27 false (.fld 3 (.t 3)),
 og 32 27 false (.load false 1 (.t 31)),
 og 33 27 false (.len .sl (.t 32)),
 og 34 27 false (.bin .neq (.t 30) (.t 33)),
 oo 35 (.pick (.t 27) (.c (.bool true)) (.t 34))])
 (.cond (.t 35) (.seq (.reg 0 [oo 4 (.mv (.c (.bool false)))])
 (.ret)) (.skip)))
 (.keep [2, 3] [2, 3] (.seq (.seq (.reg 0 [oo 5 (.mv (ci 0))])
 (.block 0 (.loop c_ref02_Alike_l0)))
 (.keep [] [] (.seq (.reg 0 [oo 4 (.mv (.c (.bool true)))])
 (.ret))))))
def n_ref02_Alike : Fn := ⟨c_ref02_Alike, [.t 4], false, false⟩
theorem ok_ref02_Alike : fnOf Tryd.prog eff keep f_ref02_Alike = some n_ref02_Alike.bare := by kernel_rfl
@[simp] theorem c_ref02_Alike_l0_norm (st : St) : norm c_ref02_Alike_l0 st = st.keep [2, 3, 5] [2, 3] := rfl
def b_ref02_texts_l0 : ACode :=
  (.seq (.seq (.reg 0 [oo 11 (.mv (.t 5)),
 oo 12 (.mv (.t 0)),
 oo 13 (.len .sl (.t 12)),
 oo 14 (.bin .lss (.t 11) (.t 13))])
 (.cond (.t 14) (.skip) (.keep [] [] (.exit 0))))
 (.keep [0, 1, 5] [] (.seq (.block 1 (.seq (.reg 8 [oo 17 (.mv (.t 0)),
 oo 18 (.mv (.t 5)),
 oo 19 (.ixa 1 (.t 17) (.t 18)),
 oo 20 (.load false 1 (.t 19)),
 oo 21 (.mv (.t 1)),
 oo 22 (.mv (.t 5)),
 oo 23 (.ixa 1 (.t 21) (.t 22)),
 oo 24 (.load false 1 (.t 23)),
 oo 25 (.bin .neq (.t 20) (.t 24))])
 (.cond (.t 25) (.seq (.reg 0 [oo 4 (.mv (.c (.bool false)))])
 (.keep [4] [] (.ret))) (.skip))))
 (.keep [0, 1, 5] [] (.reg 0 [oo 15 (.mv (.t 5)),
 oo 16 (.bin .add (.t 15) (ci 1)),
 oo 5 (.mv (.t 16))])))))
def c_ref02_texts_l0 : ACode := .keep [0, 1, 5] [] b_ref02_texts_l0
def c_ref02_texts : ACode :=
  .seq (.reg 0 [oo 4 (.mv (.c (.bool false)))])
 (.seq (.seq (.reg 0 [oo 6 (.mv (.t 0)),
 oo 7 (.len .sl (.t 6)),
 oo 8 (.mv (.t 1)),
 oo 9 (.len .sl (.t 8)),
 oo 10 (.bin .neq (.t 7) (.t 9))])
 (.cond (.t 10) (.seq (.reg 0 [oo 4 (.mv (.c (.bool false)))])
 (.ret)) (.skip)))
 (.keep [0, 1] [] (.seq (.seq (.reg 0 [oo 5 (.mv (ci 0))])
 (.block 0 (.loop c_ref02_texts_l0)))
 (.keep [] [] (.seq (.reg 0 [oo 4 (.mv (.c (.bool true)))])
 (.ret))))))
def n_ref02_texts : Fn := ⟨c_ref02_texts, [.t 4], false, false⟩
theorem ok_ref02_texts : fnOf Tryd.prog eff keep f_ref02_texts = some n_ref02_texts.bare := by kernel_rfl
@[simp] theorem c_ref02_texts_l0_norm (st : St) : norm c_ref02_texts_l0 st = st.keep [0, 1, 5] [] := rfl
def b_ref14_SameSorts_l0 : ACode :=
  (.seq (.seq (.reg 0 [oo 11 (.mv (.t 5)),
 oo 12 (.mv (.t 0)),
 oo 13 (.len .sl (.t 12)),
 oo 14 (.bin .lss (.t 11) (.t 13))])
 (.cond (.t 14) (.skip) (.keep [] [] (.exit 0))))
 (.keep [0, 1, 5] [] (.seq (.block 1 (.seq (.reg 42 [oo 17 (.mv (.t 0)),
 oo 18 (.mv (.t 5)),
 oo 19 (.ixa 3 (.t 17) (.t 18)),
 oo 20 (.fld 0 (.t 19)),
 oo 21 (.load false 1 (.t 20)),
 oo 22 (.mv (.t 1)),
 oo 23 (.mv (.t 5)),
 oo 24 (.ixa 3 (.t 22) (.t 23)),
 oo 25 (.fld 0 (.t 24)),
 oo 26 (.load false 1 (.t 25)),
 oo 27 (.eqv true .b (.t 21) (.t 26)),
 oo 28 (.mv (.t 27)),
 og 29 28 false (.mv (.t 0)),
 og 30 28 false (.mv (.t 5)),
 og 31 28 false (.ixa 3 (.t 29) (.t 30)),
 og 32 28 false (.fld 2 (.t 31)),
 og 33 28 false (.load false 1 (.t 32)),
 og 34 28 false (.mv (.t 1)),
 og 35 28 false (.mv (.t 5)),
 og 36 28 false (.ixa 3 (.t 34) (.t 35)),
 og 37 28 false (.fld 2 (.t 36)),
 og 38 28 false (.load false 1 (.t 37)),
 og 39 28 false (.call true (cf f_ref14_ints) [(.t 33), (.t 38)]),
 og 40 28 false (.un .not (.t 39)),
 oo 41 (.pick (.t 28) (.c (.bool true)) (.t 40)),
 oo 42 (.mv (.t 41)),
 og 43 42 false (.mv (.t 0)),
 og 44 42 false (.mv (.t 5)),
 og 45 42 false (.ixa 3 (.t 43) (.t 44)),
 og 46 42 false (.fld 0 (.t 45)),
 og 47 42 false (.load false 1 (.t 46)),
 og 48 42 false (.mv (.t 47)),
 og 49 48 true (.mv (.t 0)),
 og 50 48 true (.mv (.t 5)),
 og 51 48 true (.ixa 3 (.t 49) (.t 50)),
 og 52 48 true (.fld 1 (.t 51)),
 og 53 48 true (.load false 1 (.t 52)),
 og 54 48 true (.mv (.t 1)),
 og 55 48 true (.mv (.t 5)),
 og 56 48 true (.ixa 3 (.t 54) (.t 55)),
 og 57 48 true (.fld 1 (.t 56)),
 og 58 48 true (.load false 1 (.t 57)),
 og 59 48 true (.call true (cf f_ref14_ints) [(.t 53), (.t 58)]),
 og 60 48 true (.un .not (.t 59)),
 og 61 42 false (.pick (.t 48) (.t 60) (.c (.bool false))),
 oo 62 (.pick (.t 42) (.c (.bool true)) (.t 61))])
 (.cond (.t 62) (.seq (.reg 0 [oo 4 (.mv (.c (.bool false)))])
 (.keep [4] [] (.ret))) (.skip))))
 (.keep [0, 1, 5] [] (.reg 0 [oo 15 (.mv (.t 5)),
 oo 16 (.bin .add (.t 15) (ci 1)),
 oo 5 (.mv (.t 16))])))))
def c_ref14_SameSorts_l0 : ACode := .keep [0, 1, 5] [] b_ref14_SameSorts_l0
def c_ref14_SameSorts : ACode :=
  .seq (.reg 0 [oo 4 (.mv (.c (.bool false)))])
 (.seq (.seq (.reg 0 [oo 6 (.mv (.t 0)),
 oo 7 (.len .sl (.t 6)),
 oo 8 (.mv (.t 1)),
 oo 9 (.len .sl (.t 8)),
 oo 10 (.bin .neq (.t 7) (.t 9))])
 (.cond (.t 10) (.seq (.reg 0 [oo 4 (.mv (.c (.bool false)))])
 (.ret)) (.skip)))
 (.keep [0, 1] [] (.seq (.seq (.reg 0 [oo 5 (.mv (ci 0))])
 (.block 0 (.loop c_ref14_SameSorts_l0)))
 (.keep [] [] (.seq (.reg 0 [oo 4 (.mv (.c (.bool true)))])
 (.ret))))))
def n_ref14_SameSorts : Fn := ⟨c_ref14_SameSorts, [.t 4], false, false⟩
theorem ok_ref14_SameSorts : fnOf Tryd.prog eff keep f_ref14_SameSorts = some n_ref14_SameSorts.bare := by kernel_rfl
@[simp] theorem c_ref14_SameSorts_l0_norm (st : St) : norm c_ref14_SameSorts_l0 st = st.keep [0, 1, 5] [] := rfl
def b_ref14_ints_l0 : ACode :=
  (.seq (.seq (.reg 0 [oo 11 (.mv (.t 5)),
 oo 12 (.mv (.t 0)),
 oo 13 (.len .sl (.t 12)),
 oo 14 (.bin .lss (.t 11) (.t 13))])
 (.cond (.t 14) (.skip) (.keep [] [] (.exit 0))))
 (.keep [0, 1, 5] [] (.seq (.block 1 (.seq (.reg 8 [oo 17 (.mv (.t 0)),
 oo 18 (.mv (.t 5)),
 oo 19 (.ixa 1 (.t 17) (.t 18)),
 oo 20 (.load false 1 (.t 19)),
 oo 21 (.mv (.t 1)),
 oo 22 (.mv (.t 5)),
 oo 23 (.ixa 1 (.t 21) (.t 22)),
 oo 24 (.load false 1 (.t 23)),
 oo 25 (.bin .neq (.t 20) (.t 24))])
 (.cond (.t 25) (.seq (.reg 0 [oo 4 (.mv (.c (.bool false)))])
 (.keep [4] [] (.ret))) (.skip))))
 (.keep [0, 1, 5] [] (.reg 0 [oo 15 (.mv (.t 5)),
 oo 16 (.bin .add (.t 15) (ci 1)),
 oo 5 (.mv (.t 16))])))))
def c_ref14_ints_l0 : ACode := .keep [0, 1, 5] [] b_ref14_ints_l0
def c_ref14_ints : ACode :=
  .seq (.reg 0 [oo 4 (.mv (.c (.bool false)))])
 (.seq (.seq (.reg 0 [oo 6 (.mv (.t 0)),
 oo 7 (.len .sl (.t 6)),
 oo 8 (.mv (.t 1)),
 oo 9 (.len .sl (.t 8)),
 oo 10 (.bin .neq (.t 7) (.t 9))])
 (.cond (.t 10) (.seq (.reg 0 [oo 4 (.mv (.c (.bool false)))])
 (.ret)) (.skip)))
 (.keep [0, 1] [] (.seq (.seq (.reg 0 [oo 5 (.mv (ci 0))])
 (.block 0 (.loop c_ref14_ints_l0)))
 (.keep [] [] (.seq (.reg 0 [oo 4 (.mv (.c (.bool true)))])
 (.ret))))))
def n_ref14_ints : Fn := ⟨c_ref14_ints, [.t 4], false, false⟩
theorem ok_ref14_ints : fnOf Tryd.prog eff keep f_ref14_ints = some n_ref14_ints.bare := by kernel_rfl
@[simp] theorem c_ref14_ints_l0_norm (st : St) : norm c_ref14_ints_l0 st = st.keep [0, 1, 5] [] := rfl
def c_law12_TmplChecks : ACode :=
  .seq (.reg 0 [oo 1 (.box (.t 0)),
 oo 2 (.mv (.c (.bool false)))])
 (.seq (.seq (.reg 0 [oo 3 (.load true 10 (.t 1)),
 oo 4 (.call true (cf f_law12_Small) [(.t 3)]),
 oo 5 (.un .not (.t 4))])
 (.cond (.t 5) (.seq (.reg 0 [oo 6 (.call true (cf f_law12_Awake) []),
 oo 2 (.mv (.t 6))])
 (.ret)) (.skip)))
 (.keep [1] [1] (.seq (.reg 5 [oo 7 (.call true (cf f_law12_Awake) []),
 oo 8 (.mv (.t 7)),
 og 9 8 true (.load true 10 (.t 1)),
 og 10 8 true (.call true (cf f_tmpl_Check) [(.t 9)]),
 og 11 8 true (.load true 10 (.t 1)),
 og 12 8 true (.call true (cf f_law12_Of) [(.t 11)]),
 og 13 8 true (.call true (cf f_ref12_Check) [(.t 12)]),
 og 14 8 true (.bin .eql (.t 10) (.t 13)),
 oo 15 (.pick (.t 8) (.t 14) (.c (.bool false))),
 oo 2 (.mv (.t 15))])
 (.ret))))
def n_law12_TmplChecks : Fn := ⟨c_law12_TmplChecks, [.t 2], false, false⟩
theorem ok_law12_TmplChecks : fnOf Tryd.prog eff keep f_law12_TmplChecks = some n_law12_TmplChecks.bare := by kernel_rfl
def b_law12_Small_l0 : ACode :=
  (.seq (.reg 0 [oo 12 (.bin .lss (.t 11) (.t 10))])
 (.seq (.cond (.t 12) (.skip) (.keep [1, 3] [1] (.exit 0)))
 (.keep [1, 3, 9, 10, 11] [1] (.seq (.block 1 (.seq (.reg 0 [oo 13 (.ixa 1 (.t 9) (.t 11)),
 oo 14 (.load false 1 (.t 13)),
 oo 5 (.mv (.t 14))])
 (.seq (.reg 0 [oo 15 (.mv (.t 3)),
 oo 16 (.mv (.t 5)),
 oo 17 (.call true (cf f_law12_count) [(.t 16), (ci 1)]),
 oo 18 (.bin .add (ci 1) (.t 17)),
 oo 19 (.bin .add (.t 15) (.t 18)),
 oo 3 (.mv (.t 19))])
 (.seq (.reg 0 [oo 20 (.mv (.t 3)),
 oo 21 (.bin .gtr (.t 20) (ci 3000))])
 (.cond (.t 21) (.seq (.reg 0 [oo 2 (.mv (.c (.bool false)))])
 (.keep [2] [] (.ret))) (.skip))))))
 (.keep [1, 3, 9, 10, 11] [1] (.reg 0 [oo 22 (.bin .add (.t 11) (ci 1)),
 oo 11 (.mv (.t 22))]))))))
def c_law12_Small_l0 : ACode := .keep [1, 3, 9, 10, 11] [1] b_law12_Small_l0
def b_law12_Small_l1 : ACode :=
  (.seq (.reg 0 [oo 27 (.bin .lss (.t 26) (.t 25))])
 (.seq (.cond (.t 27) (.skip) (.keep [1] [1] (.exit 2)))
 (.keep [1, 3, 24, 25, 26] [1] (.seq (.block 3 (.seq (.reg 0 [oo 28 (.ixa 3 (.t 24) (.t 26)),
 oo 29 (.load true 3 (.t 28)),
 oo 7 (.alloc [(.bool false), (.sl [] .nil), (.sl [] .nil)]),
 ox (.store 3 (.t 7) (.t 29))])
 (.seq (.reg 0 [oo 30 (.mv (.t 3)),
 oo 31 (.fld 1 (.t 7)),
 oo 32 (.load false 1 (.t 31)),
 oo 33 (.len .sl (.t 32)),
 oo 34 (.bin .add (ci 1) (.t 33)),
 oo 35 (.fld 2 (.t 7)),
 oo 36 (.load false 1 (.t 35)),
 oo 37 (.len .sl (.t 36)),
 oo 38 (.bin .add (.t 34) (.t 37)),
 oo 39 (.bin .add (.t 30) (.t 38)),
 oo 3 (.mv (.t 39))])
 (.seq (.reg 0 [oo 40 (.mv (.t 3)),
 oo 41 (.bin .gtr (.t 40) (ci 6000))])
 (.cond (.t 41) (.seq (.reg 0 [oo 2 (.mv (.c (.bool false)))])
 (.keep [2] [] (.ret))) (.skip))))))
 (.keep [1, 3, 24, 25, 26] [1] (.reg 0 [oo 42 (.bin .add (.t 26) (ci 1)),
 oo 26 (.mv (.t 42))]))))))
def c_law12_Small_l1 : ACode := .keep [1, 3, 24, 25, 26] [1] b_law12_Small_l1
def c_law12_Small : ACode :=
  .seq (.reg 0 [oo 1 (.box (.t 0)),
 oo 2 (.mv (.c (.bool false)))])
 (.seq (.reg 0 [oo 3 (.mv (ci 0))])
 (.seq (.seq (.reg 0 [oo 8 (.fld 9 (.t 1)),
 oo 9 (.load false 1 (.t 8)),
 oo 10 (.len .sl (.t 9)),
 oo 11 (.mv (ci 0))])
 (.block 0 (.loop c_law12_Small_l0)))
 (.keep [1, 3] [1] (.seq (.seq (.reg 0 [oo 23 (.fld 8 (.t 1)),
 oo 24 (.load false 1 (.t 23)),
 oo 25 (.len .sl (.t 24)),
 oo 26 (.mv (ci 0))])
 (.block 2 (.loop c_law12_Small_l1)))
 (.keep [1] [1] (.seq (.reg 0 [oo 43 (.fld 0 (.t 1)),
 oo 44 (.load true 4 (.t 43)),
 oo 45 (.call true (cf f_law02_Small) [(.t 44)]),
 oo 46 (.mv (.t 45)),
 og 47 46 true (.fld 4 (.t 1)),
 og 48 46 true (.load true 4 (.t 47)),
 og 49 46 true (.call true (cf f_law02_Small) [(.t 48)]),
 oo 50 (.pick (.t 46) (.t 49) (.c (.bool false))),
 oo 2 (.mv (.t 50))])
 (.ret)))))))
def n_law12_Small : Fn := ⟨c_law12_Small, [.t 2], false, false⟩
theorem ok_law12_Small : fnOf Tryd.prog eff keep f_law12_Small = some n_law12_Small.bare := by kernel_rfl
@[simp] theorem c_law12_Small_l0_norm (st : St) : norm c_law12_Small_l0 st = st.keep [1, 3, 9, 10, 11] [1] := rfl
@[simp] theorem c_law12_Small_l1_norm (st : St) : norm c_law12_Small_l1 st = st.keep [1, 3, 24, 25, 26] [1] := rfl
def b_law12_count_l0 : ACode :=
  (.seq (.reg 0 [oo 11 (.bin .lss (.t 10) (.t 9))])
 (.seq (.cond (.t 11) (.skip) (.keep [5] [] (.exit 0)))
 (.keep [1, 5, 8, 9, 10] [] (.seq (.block 1 (.seq (.reg 0 [oo 12 (.ixa 3 (.t 8) (.t 10)),
 oo 13 (.load true 3 (.t 12)),
 oo 7 (.alloc [(.int .i64 0), (.int .i64 0), (.sl [] .nil)]),
 ox (.store 3 (.t 7) (.t 13))])
 (.seq (.seq (.reg 0 [oo 14 (.mv (.t 5)),
 oo 15 (.bin .add (.t 14) (ci 1)),
 oo 5 (.mv (.t 15))])
 (.seq (.reg 0 [oo 16 (.mv (.t 1)),
 oo 17 (.bin .gtr (.t 16) (ci 80)),
 oo 18 (.mv (.t 17)),
 og 19 18 false (.mv (.t 5)),
 og 20 18 false (.bin .gtr (.t 19) (ci 2000)),
 oo 21 (.pick (.t 18) (.c (.bool true)) (.t 20))])
 (.cond (.t 21) (.seq (.reg 0 [oo 4 (.mv (ci 3000))])
 (.keep [4] [] (.ret))) (.skip))))
 (.keep [1, 5, 7, 8, 9, 10] [7] (.reg 0 [oo 22 (.mv (.t 5)),
 oo 23 (.fld 2 (.t 7)),
 oo 24 (.load false 1 (.t 23)),
 oo 25 (.mv (.t 1)),
 oo 26 (.bin .add (.t 25) (ci 1)),
 oo 27 (.call true (cf f_law12_count) [(.t 24), (.t 26)]),
 oo 28 (.bin .add (.t 22) (.t 27)),
 oo 5 (.mv (.t 28))])))))
 (.keep [1, 5, 8, 9, 10] [] (.reg 0 [oo 29 (.bin .add (.t 10) (ci 1)),
 oo 10 (.mv (.t 29))]))))))
def c_law12_count_l0 : ACode := .keep [1, 5, 8, 9, 10] [] b_law12_count_l0
def c_law12_count : ACode :=
  .seq (.reg 0 [oo 4 (.mv (ci 0))])
 (.seq (.reg 0 [oo 5 (.mv (ci 0))])
 (.seq (.seq (.reg 0 [oo 8 (.mv (.t 0)),
 oo 9 (.len .sl (.t 8)),
 oo 10 (.mv (ci 0))])
 (.block 0 (.loop c_law12_count_l0)))
 (.keep [5] [] (.seq (.reg 0 [oo 30 (.mv (.t 5)),
 oo 4 (.mv (.t 30))])
 (.ret)))))
def n_law12_count : Fn := ⟨c_law12_count, [.t 4], false, false⟩
theorem ok_law12_count : fnOf Tryd.prog eff keep f_law12_count = some n_law12_count.bare := by kernel_rfl
@[simp] theorem c_law12_count_l0_norm (st : St) : norm c_law12_count_l0 st = st.keep [1, 5, 8, 9, 10] [] := rfl
def b_tmpl_Check_l0 : ACode :=
  (.seq (.reg 0 [oo 16 (.bin .lss (.t 15) (.t 14))])
 (.seq (.cond (.t 16) (.skip) (.keep [1] [1] (.exit 0)))
 (.keep [1, 13, 14, 15] [1] (.seq (.block 1 (.seq (.reg 0 [oo 17 (.ixa 4 (.t 13) (.t 15)),
 oo 18 (.load true 4 (.t 17)),
 oo 4 (.alloc [(.sl [] .nil), (.sl [] .nil), (.int .i64 0), (.sl [] .nil)]),
 ox (.store 4 (.t 4) (.t 18))])
 (.seq (.reg 0 [oo 19 (.load true 4 (.t 4)),
 oo 20 (.call true (cf f_gram_Grammar_Check) [(.t 19)]),
 oo 5 (.mv (.t 20))])
 (.seq (.reg 0 [oo 21 (.mv (.t 5)),
 oo 22 (.bin .neq (.t 21) (ci 0))])
 (.cond (.t 22) (.seq (.reg 0 [oo 23 (.mv (.t 5)),
 oo 2 (.mv (.t 23))])
 (.keep [2] [] (.ret))) (.skip))))))
 (.keep [1, 13, 14, 15] [1] (.reg 0 [oo 24 (.bin .add (.t 15) (ci 1)),
 oo 15 (.mv (.t 24))]))))))
def c_tmpl_Check_l0 : ACode := .keep [1, 13, 14, 15] [1] b_tmpl_Check_l0
def b_tmpl_Check_l1 : ACode :=
  (.seq (.reg 0 [oo 63 (.bin .lss (.t 62) (.t 61))])
 (.seq (.cond (.t 63) (.skip) (.keep [] [] (.exit 3)))
 (.keep [1, 61, 62] [1] (.seq (.block 4 (.seq (.reg 0 [oo 64 (.mv (.t 62)),
 oo 7 (.mv (.t 64))])
 (.seq (.reg 0 [oo 65 (.load true 10 (.t 1)),
 oo 66 (.mv (.t 7)),
 oo 67 (.call true (cf f_tmpl_template) [(.t 65), (.t 66)]),
 oo 8 (.mv (.t 67))])
 (.seq (.reg 0 [oo 68 (.mv (.t 8)),
 oo 69 (.bin .neq (.t 68) (ci 0))])
 (.cond (.t 69) (.seq (.reg 0 [oo 70 (.mv (.t 8)),
 oo 2 (.mv (.t 70))])
 (.keep [2] [] (.ret))) (.skip))))))
 (.keep [1, 61, 62] [1] (.reg 0 [oo 71 (.bin .add (.t 62) (ci 1)),
 oo 62 (.mv (.t 71))]))))))
def c_tmpl_Check_l1 : ACode := .keep [1, 61, 62] [1] b_tmpl_Check_l1
def c_tmpl_Check : ACode :=
  .seq (.reg 0 [oo 1 (.box (.t 0)),
 oo 2 (.mv (ci 0))])
 (.seq (.seq (.reg 0 [oo 9 (.fld 0 (.t 1)),
 oo 10 (.load true 4 (.t 9)),
 oo 11 (.fld 4 (.t 1)),
 oo 12 (.load true 4 (.t 11)),
 oo 13 (.bslice [(.sl [] .nil), (.sl [] .nil), (.int .i64 0), (.sl [] .nil)] 2 [(0, (.t 10)), (1, (.t 12))]),
 oo 14 (.len .sl (.t 13)),
 oo 15 (.mv (ci 0))])
 (.block 0 (.loop c_tmpl_Check_l0)))
 (.keep [1] [1] (.seq (.block 2 (.seq (.reg 0 [oo 26 (.fld 0 (.t 1)),
 oo 27 (.fld 1 (.t 26)),
 oo 28 (.load false 1 (.t 27)),
 oo 29 (.fld 4 (.t 1)),
 oo 30 (.fld 1 (.t 29)),
 oo 31 (.load false 1 (.t 30)),
 oo 32 (.call true (cf f_slices_Equal_string_string) [(.t 28), (.t 31)]),
 oo 33 (.un .not (.t 32)),
 oo 25 (.mv (.t 33))])
 (.cond (.t 25) (.seq (.reg 0 [oo 2 (.mv (ci 1))])
 (.ret)) (.seq (.reg 0 [oo 35 (.fld 8 (.t 1)),
 oo 36 (.load false 1 (.t 35)),
 oo 37 (.len .sl (.t 36)),
 oo 38 (.fld 4 (.t 1)),
 oo 39 (.fld 0 (.t 38)),
 oo 40 (.load false 1 (.t 39)),
 oo 41 (.len .sl (.t 40)),
 oo 42 (.bin .neq (.t 37) (.t 41)),
 oo 43 (.mv (.t 42)),
 og 44 43 false (.fld 9 (.t 1)),
 og 45 43 false (.load false 1 (.t 44)),
 og 46 43 false (.len .sl (.t 45)),
 og 47 43 false (.fld 4 (.t 1)),
 og 48 43 false (.fld 3 (.t 47)),
 og 49 43 false (.load false 1 (.t 48)),
 og 50 43 false (.len .sl (.t 49)),
 og 51 43 false (.bin .neq (.t 46) (.t 50)),
 oo 52 (.pick (.t 43) (.c (.bool true)) (.t 51)),
 oo 34 (.mv (.t 52))])
 (.cond (.t 34) (.seq (.reg 0 [oo 2 (.mv (ci 12))])
 (.ret)) (.skip))))))
 (.keep [1] [1] (.seq (.seq (.reg 0 [oo 53 (.load true 10 (.t 1)),
 oo 54 (.call true (cf f_tmpl_sorts) [(.t 53)]),
 oo 6 (.mv (.t 54))])
 (.seq (.reg 0 [oo 55 (.mv (.t 6)),
 oo 56 (.bin .neq (.t 55) (ci 0))])
 (.cond (.t 56) (.seq (.reg 0 [oo 57 (.mv (.t 6)),
 oo 2 (.mv (.t 57))])
 (.ret)) (.skip))))
 (.keep [1] [1] (.seq (.seq (.reg 0 [oo 58 (.fld 4 (.t 1)),
 oo 59 (.fld 3 (.t 58)),
 oo 60 (.load false 1 (.t 59)),
 oo 61 (.len .sl (.t 60)),
 oo 62 (.mv (ci 0))])
 (.block 3 (.loop c_tmpl_Check_l1)))
 (.keep [] [] (.seq (.reg 0 [oo 2 (.mv (ci 0))])
 (.ret))))))))))
def n_tmpl_Check : Fn := ⟨c_tmpl_Check, [.t 2], false, false⟩
theorem ok_tmpl_Check : fnOf Tryd.prog eff keep f_tmpl_Check = some n_tmpl_Check.bare := by kernel_rfl
@[simp] theorem c_tmpl_Check_l0_norm (st : St) : norm c_tmpl_Check_l0 st = st.keep [1, 13, 14, 15] [1] := rfl
@[simp] theorem c_tmpl_Check_l1_norm (st : St) : norm c_tmpl_Check_l1 st = st.keep [1, 61, 62] [1] := rfl
def b_slices_Equal_string_string_l0 : ACode :=
  (.seq (.reg 0 [oo 14 (.bin .lss (.t 13) (.t 12))])
 (.seq (.cond (.t 14) (.skip) (.keep [] [] (.exit 0)))
 (.keep [0, 1, 12, 13] [] (.seq (.block 1 (.seq (.reg 0 [oo 15 (.mv (.t 13)),
 oo 5 (.mv (.t 15))])
 (.seq (.reg 8 [oo 16 (.mv (.t 0)),
 oo 17 (.mv (.t 5)),
 oo 18 (.ixa 1 (.t 16) (.t 17)),
 oo 19 (.load false 1 (.t 18)),
 oo 20 (.mv (.t 1)),
 oo 21 (.mv (.t 5)),
 oo 22 (.ixa 1 (.t 20) (.t 21)),
 oo 23 (.load false 1 (.t 22)),
 oo 24 (.bin .neq (.t 19) (.t 23))])
 (.cond (.t 24) (.seq (.reg 0 [oo 4 (.mv (.c (.bool false)))])
 (.keep [4] [] (.ret))) (.skip)))))
 (.keep [0, 1, 12, 13] [] (.reg 0 [oo 25 (.bin .add (.t 13) (ci 1)),
 oo 13 (.mv (.t 25))]))))))
def c_slices_Equal_string_string_l0 : ACode := .keep [0, 1, 12, 13] [] b_slices_Equal_string_string_l0
def c_slices_Equal_string_string : ACode :=
  .seq (.reg 0 [oo 4 (.mv (.c (.bool false)))])
 (.seq (.seq (.reg 0 [oo 6 (.mv (.t 0)),
 oo 7 (.len .sl (.t 6)),
 oo 8 (.mv (.t 1)),
 oo 9 (.len .sl (.t 8)),
 oo 10 (.bin .neq (.t 7) (.t 9))])
 (.cond (.t 10) (.seq (.reg 0 [oo 4 (.mv (.c (.bool false)))])
 (.ret)) (.skip)))
 (.keep [0, 1] [] (.seq (.seq (.reg 0 [oo 11 (.mv (.t 0)),
 oo 12 (.len .sl (.t 11)),
 oo 13 (.mv (ci 0))])
 (.block 0 (.loop c_slices_Equal_string_string_l0)))
 (.keep [] [] (.seq (.reg 0 [oo 4 (.mv (.c (.bool true)))])
 (.ret))))))
def n_slices_Equal_string_string : Fn := ⟨c_slices_Equal_string_string, [.t 4], false, false⟩
theorem ok_slices_Equal_string_string : fnOf Tryd.prog eff keep f_slices_Equal_string_string = some n_slices_Equal_string_string.bare := by kernel_rfl
@[simp] theorem c_slices_Equal_string_string_l0_norm (st : St) : norm c_slices_Equal_string_string_l0 st = st.keep [0, 1, 12, 13] [] := rfl
def b_tmpl_sorts_l0 : ACode :=
  (.seq (.reg 0 [oo 10 (.bin .lss (.t 9) (.t 8))])
 (.seq (.cond (.t 10) (.skip) (.keep [1] [1] (.exit 0)))
 (.keep [1, 7, 8, 9] [1] (.seq (.block 1 (.seq (.reg 0 [oo 11 (.ixa 3 (.t 7) (.t 9)),
 oo 12 (.load true 3 (.t 11)),
 oo 4 (.alloc [(.bool false), (.sl [] .nil), (.sl [] .nil)]),
 ox (.store 3 (.t 4) (.t 12))])
 (.seq (.reg 0 [oo 13 (.fld 0 (.t 1)),
 oo 14 (.load true 4 (.t 13)),
 oo 15 (.fld 1 (.t 4)),
 oo 16 (.load false 1 (.t 15)),
 oo 17 (.call true (cf f_tmpl_has) [(.t 14), (.t 16)]),
 oo 18 (.un .not (.t 17)),
 oo 19 (.mv (.t 18)),
 og 20 19 false (.fld 0 (.t 1)),
 og 21 19 false (.load true 4 (.t 20)),
 og 22 19 false (.fld 2 (.t 4)),
 og 23 19 false (.load false 1 (.t 22)),
 og 24 19 false (.call true (cf f_tmpl_has) [(.t 21), (.t 23)]),
 og 25 19 false (.un .not (.t 24)),
 oo 26 (.pick (.t 19) (.c (.bool true)) (.t 25))])
 (.cond (.t 26) (.seq (.reg 0 [oo 2 (.mv (ci 3))])
 (.keep [2] [] (.ret))) (.skip)))))
 (.keep [1, 7, 8, 9] [1] (.reg 0 [oo 27 (.bin .add (.t 9) (ci 1)),
 oo 9 (.mv (.t 27))]))))))
def c_tmpl_sorts_l0 : ACode := .keep [1, 7, 8, 9] [1] b_tmpl_sorts_l0
def c_tmpl_sorts : ACode :=
  .seq (.reg 0 [oo 1 (.box (.t 0)),
 oo 2 (.mv (ci 0))])
 (.seq (.seq (.reg 0 [oo 6 (.fld 8 (.t 1)),
 oo 7 (.load false 1 (.t 6)),
 oo 8 (.len .sl (.t 7)),
 oo 9 (.mv (ci 0))])
 (.block 0 (.loop c_tmpl_sorts_l0)))
 (.keep [1] [1] (.seq (.reg 0 [oo 28 (.fld 8 (.t 1)),
 oo 29 (.load false 1 (.t 28)),
 oo 30 (.fld 4 (.t 1)),
 oo 31 (.fld 2 (.t 30)),
 oo 32 (.load false 1 (.t 31)),
 oo 33 (.ixa 3 (.t 29) (.t 32)),
 oo 34 (.load true 3 (.t 33)),
 oo 5 (.alloc [(.bool false), (.sl [] .nil), (.sl [] .nil)]),
 ox (.store 3 (.t 5) (.t 34))])
 (.seq (.seq (.reg 0 [oo 35 (.fld 0 (.t 5)),
 oo 36 (.load false 1 (.t 35)),
 oo 37 (.mv (.t 36)),
 og 38 37 false (.fld 2 (.t 5)),
 og 39 37 false (.load false 1 (.t 38)),
 og 40 37 false (.fld 0 (.t 1)),
 og 41 37 false (.fld 2 (.t 40)),
 og 42 37 false (.load false 1 (.t 41)),
 og 43 37 false (.bslice [(.int .i64 0)] 1 [(0, (.t 42))]),
 og 44 37 false (.call true (cf f_slices_Equal_gram_Sym_gram_Sym) [(.t 39), (.t 43)]),
 og 45 37 false (.un .not (.t 44)),
 oo 46 (.pick (.t 37) (.c (.bool true)) (.t 45))])
 (.cond (.t 46) (.seq (.reg 0 [oo 2 (.mv (ci 10))])
 (.ret)) (.skip)))
 (.keep [] [] (.seq (.reg 0 [oo 2 (.mv (ci 0))])
 (.ret)))))))
def n_tmpl_sorts : Fn := ⟨c_tmpl_sorts, [.t 2], false, false⟩
theorem ok_tmpl_sorts : fnOf Tryd.prog eff keep f_tmpl_sorts = some n_tmpl_sorts.bare := by kernel_rfl
@[simp] theorem c_tmpl_sorts_l0_norm (st : St) : norm c_tmpl_sorts_l0 st = st.keep [1, 7, 8, 9] [1] := rfl
def b_tmpl_has_l0 : ACode :=
  (.seq (.reg 0 [oo 10 (.bin .lss (.t 9) (.t 8))])
 (.seq (.cond (.t 10) (.skip) (.keep [] [] (.exit 0)))
 (.keep [2, 7, 8, 9] [2] (.seq (.block 1 (.seq (.reg 0 [oo 11 (.ixa 1 (.t 7) (.t 9)),
 oo 12 (.load false 1 (.t 11)),
 oo 6 (.mv (.t 12))])
 (.seq (.reg 20 [oo 13 (.mv (.t 6)),
 oo 14 (.call true (cf f_gram_Sym_IsTerm) [(.t 13)]),
 oo 15 (.mv (.t 14)),
 og 16 15 true (.mv (.t 6)),
 og 17 15 true (.call true (cf f_gram_Sym_Place) [(.t 16)]),
 og 18 15 true (.fld 1 (.t 2)),
 og 19 15 true (.load false 1 (.t 18)),
 og 20 15 true (.len .sl (.t 19)),
 og 21 15 true (.bin .geq (.t 17) (.t 20)),
 oo 22 (.pick (.t 15) (.t 21) (.c (.bool false))),
 oo 23 (.mv (.t 22)),
 og 24 23 false (.mv (.t 6)),
 og 25 23 false (.call true (cf f_gram_Sym_IsTerm) [(.t 24)]),
 og 26 23 false (.un .not (.t 25)),
 og 27 23 false (.mv (.t 26)),
 og 28 27 true (.mv (.t 6)),
 og 29 27 true (.call true (cf f_gram_Sym_Place) [(.t 28)]),
 og 30 27 true (.fld 0 (.t 2)),
 og 31 27 true (.load false 1 (.t 30)),
 og 32 27 true (.len .sl (.t 31)),
 og 33 27 true (.bin .geq (.t 29) (.t 32)),
 og 34 23 false (.pick (.t 27) (.t 33) (.c (.bool false))),
 oo 35 (.pick (.t 23) (.c (.bool true)) (.t 34))])
 (.cond (.t 35) (.seq (.reg 0 [oo 4 (.mv (.c (.bool false)))])
 (.keep [4] [] (.ret))) (.skip)))))
 (.keep [2, 7, 8, 9] [2] (.reg 0 [oo 36 (.bin .add (.t 9) (ci 1)),
 oo 9 (.mv (.t 36))]))))))
def c_tmpl_has_l0 : ACode := .keep [2, 7, 8, 9] [2] b_tmpl_has_l0
def c_tmpl_has : ACode :=
  .seq (.reg 0 [oo 2 (.box (.t 0)),
 oo 4 (.mv (.c (.bool false)))])
 (.seq (.seq (.reg 0 [oo 7 (.mv (.t 1)),
 oo 8 (.len .sl (.t 7)),
 oo 9 (.mv (ci 0))])
 (.block 0 (.loop c_tmpl_has_l0)))
 (.keep [] [] (.seq (.reg 0 [oo 4 (.mv (.c (.bool true)))])
 (.ret))))
def n_tmpl_has : Fn := ⟨c_tmpl_has, [.t 4], false, false⟩
theorem ok_tmpl_has : fnOf Tryd.prog eff keep f_tmpl_has = some n_tmpl_has.bare := by kernel_rfl
@[simp] theorem c_tmpl_has_l0_norm (st : St) : norm c_tmpl_has_l0 st = st.keep [2, 7, 8, 9] [2] := rfl
def b_tmpl_template_l0 : ACode :=
  (.seq (.reg 0 [oo 60 (.bin .lss (.t 59) (.t 58))])
 (.seq (.cond (.t 60) (.skip) (.keep [6, 9] [26] (.exit 0)))
 (.keep [6, 570009, 58, 59] [26] (.seq (.block 1 (.seq (.reg 0 [oo 61 (.mv (.t 59)),
 oo 10 (.mv (.t 61))])
 (.reg 0 [oo 62 (.mv (.t 9)),
 oo 63 (.mv (.t 10)),
 oo 64 (.bslice [(.int .i64 0)] 1 [(0, (.t 63))]),
 oo 65 (.app 1 (.t 62) (.t 64)),
 oo 9 (.mv (.t 65))])))
 (.keep [6, 570009, 58, 59] [26] (.reg 0 [oo 66 (.bin .add (.t 59) (ci 1)),
 oo 59 (.mv (.t 66))]))))))
def c_tmpl_template_l0 : ACode := .keep [6, 570009, 58, 59] [26] b_tmpl_template_l0
def c_tmpl_template : ACode :=
  .seq (.reg 0 [oo 2 (.box (.t 0)),
 oo 4 (.mv (ci 0))])
 (.seq (.reg 0 [oo 11 (.fld 4 (.t 2)),
 oo 12 (.fld 3 (.t 11)),
 oo 13 (.load false 1 (.t 12)),
 oo 14 (.mv (.t 1)),
 oo 15 (.ixa 2 (.t 13) (.t 14)),
 oo 16 (.load true 2 (.t 15)),
 oo 5 (.alloc [(.int .i64 0), (.sl [] .nil)]),
 ox (.store 2 (.t 5) (.t 16))])
 (.seq (.reg 8 [oo 17 (.load true 10 (.t 2)),
 oo 18 (.load true 2 (.t 5)),
 oo 19 (.fld 8 (.t 2)),
 oo 20 (.load false 1 (.t 19)),
 oo 21 (.fld 0 (.t 5)),
 oo 22 (.load false 1 (.t 21)),
 oo 23 (.ixa 3 (.t 20) (.t 22)),
 oo 24 (.load true 3 (.t 23)),
 oo 25 (.build [(.sl [] .nil), (.sl [] .nil), (.int .i64 0), (.sl [] .nil), (.sl [] .nil), (.sl [] .nil), (.int .i64 0), (.sl [] .nil), (.sl [] .nil), (.sl [] .nil), (.int .i64 0), (.sl [] .nil), (.bool false), (.sl [] .nil), (.sl [] .nil), (.sl [] .nil)] [(0, 10, (.t 17)), (10, 2, (.t 18)), (12, 3, (.t 24))]),
 oo 26 (.box (.t 25)),
 oo 6 (.mv (.t 26))])
 (.keep [1, 2, 5, 6] [2, 5, 26] (.seq (.reg 0 [oo 28 (.mv (.t 6)),
 oo 29 (.fld 9 (.t 2)),
 oo 30 (.load false 1 (.t 29)),
 oo 31 (.mv (.t 1)),
 oo 32 (.ixa 1 (.t 30) (.t 31)),
 oo 33 (.load false 1 (.t 32)),
 oo 34 (.call false (cf f_tmpl_judge_all) [(.t 28), (.t 33), (ci 1)]),
 oo 27 (.mv (.t 34)),
 oo 35 (.ext (.t 27) 0),
 oo 36 (.ext (.t 27) 1),
 oo 7 (.mv (.t 35)),
 oo 8 (.mv (.t 36))])
 (.seq (.seq (.reg 0 [oo 37 (.mv (.t 8)),
 oo 38 (.bin .neq (.t 37) (ci 0))])
 (.cond (.t 38) (.seq (.reg 0 [oo 39 (.mv (.t 8)),
 oo 4 (.mv (.t 39))])
 (.ret)) (.skip)))
 (.keep [5, 6, 7] [5, 26] (.seq (.seq (.reg 0 [oo 40 (.mv (.t 7)),
 oo 41 (.mv (.t 6)),
 oo 42 (.nilc (.t 41)),
 oo 43 (.fld 12 (.t 42)),
 oo 44 (.fld 2 (.t 43)),
 oo 45 (.load false 1 (.t 44)),
 oo 46 (.call true (cf f_slices_Equal_gram_Sym_gram_Sym) [(.t 40), (.t 45)]),
 oo 47 (.un .not (.t 46))])
 (.cond (.t 47) (.seq (.reg 0 [oo 4 (.mv (ci 9))])
 (.ret)) (.skip)))
 (.keep [5, 6] [5, 26] (.seq (.reg 0 [oo 9 (.mv (.c (.sl [] .nil)))])
 (.seq (.seq (.reg 0 [oo 48 (.mv (.t 6)),
 oo 49 (.nilc (.t 48)),
 oo 50 (.fld 12 (.t 49)),
 oo 51 (.fld 0 (.t 50)),
 oo 52 (.load false 1 (.t 51))])
 (.cond (.t 52) (.reg 0 [oo 53 (.mv (.t 9)),
 oo 54 (.bslice [(.int .i64 0)] 1 [(0, (ci (-1)))]),
 oo 55 (.app 1 (.t 53) (.t 54)),
 oo 9 (.mv (.t 55))]) (.skip)))
 (.keep [5, 6, 570009] [5, 26] (.seq (.seq (.reg 0 [oo 56 (.fld 1 (.t 5)),
 oo 57 (.load false 1 (.t 56)),
 oo 58 (.len .sl (.t 57)),
 oo 59 (.mv (ci 0))])
 (.block 0 (.loop c_tmpl_template_l0)))
 (.keep [6, 9] [26] (.seq (.seq (.reg 0 [oo 67 (.mv (.t 9)),
 oo 68 (.mv (.t 6)),
 oo 69 (.nilc (.t 68)),
 oo 70 (.fld 15 (.t 69)),
 oo 71 (.load false 1 (.t 70)),
 oo 72 (.call true (cf f_slices_Equal_int_int) [(.t 67), (.t 71)]),
 oo 73 (.un .not (.t 72))])
 (.cond (.t 73) (.seq (.reg 0 [oo 4 (.mv (ci 4))])
 (.ret)) (.skip)))
 (.keep [] [26] (.seq (.reg 0 [oo 4 (.mv (ci 0))])
 (.ret)))))))))))))))))
def n_tmpl_template : Fn := ⟨c_tmpl_template, [.t 4], false, false⟩
theorem ok_tmpl_template : fnOf Tryd.prog eff keep f_tmpl_template = some n_tmpl_template.bare := by kernel_rfl
@[simp] theorem c_tmpl_template_l0_norm (st : St) : norm c_tmpl_template_l0 st = st.keep [6, 570009, 58, 59] [26] := rfl
def b_tmpl_judge_all_l0 : ACode :=
  (.seq (.reg 0 [oo 23 (.bin .lss (.t 22) (.t 21))])
 (.seq (.cond (.t 23) (.skip) (.keep [8] [] (.exit 0)))
 (.keep [0, 2, 400008, 20, 21, 22] [] (.seq (.block 1 (.seq (.reg 0 [oo 24 (.ixa 3 (.t 20) (.t 22)),
 oo 25 (.load true 3 (.t 24)),
 oo 10 (.alloc [(.int .i64 0), (.int .i64 0), (.sl [] .nil)]),
 ox (.store 3 (.t 10) (.t 25))])
 (.keep [0, 2, 400008, 10, 20, 21, 22] [10] (.seq (.reg 0 [oo 27 (.mv (.t 0)),
 oo 28 (.load true 3 (.t 10)),
 oo 29 (.mv (.t 2)),
 oo 30 (.call false (cf f_tmpl_judge_one) [(.t 27), (.t 28), (.t 29)]),
 oo 26 (.mv (.t 30)),
 oo 31 (.ext (.t 26) 0),
 oo 32 (.ext (.t 26) 1),
 oo 11 (.mv (.t 31)),
 oo 12 (.mv (.t 32))])
 (.seq (.seq (.reg 0 [oo 33 (.mv (.t 12)),
 oo 34 (.bin .neq (.t 33) (ci 0))])
 (.cond (.t 34) (.seq (.reg 0 [oo 35 (.mv (.t 12)),
 oo 6 (.mv (.c (.sl [] .nil))),
 oo 7 (.mv (.t 35))])
 (.keep [6, 7] [] (.ret))) (.skip)))
 (.keep [0, 2, 400008, 11, 20, 21, 22] [] (.reg 0 [oo 36 (.mv (.t 8)),
 oo 37 (.mv (.t 11)),
 oo 38 (.app 1 (.t 36) (.t 37)),
 oo 8 (.mv (.t 38))])))))))
 (.keep [0, 2, 400008, 20, 21, 22] [] (.reg 0 [oo 39 (.bin .add (.t 22) (ci 1)),
 oo 22 (.mv (.t 39))]))))))
def c_tmpl_judge_all_l0 : ACode := .keep [0, 2, 400008, 20, 21, 22] [] b_tmpl_judge_all_l0
def c_tmpl_judge_all : ACode :=
  .seq (.reg 0 [oo 6 (.mv (.c (.sl [] .nil))),
 oo 7 (.mv (ci 0))])
 (.seq (.seq (.reg 0 [oo 13 (.mv (.t 2)),
 oo 14 (.bin .gtr (.t 13) (ci 64)),
 oo 15 (.mv (.t 14)),
 og 16 15 true (.mv (.t 1)),
 og 17 15 true (.len .sl (.t 16)),
 og 18 15 true (.bin .gtr (.t 17) (ci 0)),
 oo 19 (.pick (.t 15) (.t 18) (.c (.bool false)))])
 (.cond (.t 19) (.seq (.reg 0 [oo 6 (.mv (.c (.sl [] .nil))),
 oo 7 (.mv (ci 4))])
 (.ret)) (.skip)))
 (.keep [0, 1, 2] [] (.seq (.reg 0 [oo 8 (.mv (.c (.sl [] .nil)))])
 (.seq (.seq (.reg 0 [oo 20 (.mv (.t 1)),
 oo 21 (.len .sl (.t 20)),
 oo 22 (.mv (ci 0))])
 (.block 0 (.loop c_tmpl_judge_all_l0)))
 (.keep [8] [] (.seq (.reg 0 [oo 40 (.mv (.t 8)),
 oo 6 (.mv (.t 40)),
 oo 7 (.mv (ci 0))])
 (.ret)))))))
def n_tmpl_judge_all : Fn := ⟨c_tmpl_judge_all, [.t 6, .t 7], false, false⟩
theorem ok_tmpl_judge_all : fnOf Tryd.prog eff keep f_tmpl_judge_all = some n_tmpl_judge_all.bare := by kernel_rfl
@[simp] theorem c_tmpl_judge_all_l0_norm (st : St) : norm c_tmpl_judge_all_l0 st = st.keep [0, 2, 400008, 20, 21, 22] [] := rfl
def c_tmpl_judge_one : ACode :=
  .seq (.reg 0 [oo 4 (.box (.t 1)),
 oo 6 (.mv (.c (.sl [] .nil))),
 oo 7 (.mv (ci 0))])
 (.seq (.seq (.reg 0 [oo 15 (.fld 0 (.t 4)),
 oo 16 (.load false 1 (.t 15))])
 (.block 0 (.seq (.reg 0 [oo 18 (.bin .eql (.t 16) (ci 2)),
 oo 17 (.mv (.t 18))])
 (.cond (.t 17) (.seq (.seq (.reg 0 [oo 19 (.mv (.t 0)),
 oo 20 (.nilc (.t 19)),
 oo 21 (.fld 12 (.t 20)),
 oo 22 (.fld 0 (.t 21)),
 oo 23 (.load false 1 (.t 22)),
 oo 24 (.un .not (.t 23))])
 (.cond (.t 24) (.seq (.reg 0 [oo 6 (.mv (.c (.sl [] .nil))),
 oo 7 (.mv (ci 9))])
 (.ret)) (.skip)))
 (.keep [0] [] (.seq (.reg 0 [oo 25 (.mv (.t 0)),
 oo 26 (.mv (.t 0)),
 oo 27 (.nilc (.t 26)),
 oo 28 (.fld 15 (.t 27)),
 oo 29 (.load false 1 (.t 28)),
 oo 30 (.bslice [(.int .i64 0)] 1 [(0, (ci (-1)))]),
 oo 31 (.app 1 (.t 29) (.t 30)),
 oo 32 (.nilc (.t 25)),
 oo 33 (.fld 15 (.t 32)),
 ox (.store 1 (.t 33) (.t 31))])
 (.seq (.reg 0 [oo 34 (.mv (.t 0)),
 oo 35 (.nilc (.t 34)),
 oo 36 (.fld 12 (.t 35)),
 oo 37 (.fld 1 (.t 36)),
 oo 38 (.load false 1 (.t 37)),
 oo 6 (.mv (.t 38)),
 oo 7 (.mv (ci 0))])
 (.ret))))) (.seq (.reg 0 [oo 40 (.bin .eql (.t 16) (ci 1)),
 oo 39 (.mv (.t 40))])
 (.cond (.t 39) (.seq (.reg 0 [oo 42 (.mv (.t 0)),
 oo 43 (.fld 1 (.t 4)),
 oo 44 (.load false 1 (.t 43)),
 oo 45 (.call true (cf f_tmpl_judge_kid) [(.t 42), (.t 44)]),
 oo 41 (.mv (.t 45)),
 oo 46 (.ext (.t 41) 0),
 oo 47 (.ext (.t 41) 1),
 oo 48 (.ext (.t 41) 2),
 oo 9 (.alloc [(.bool false), (.sl [] .nil), (.sl [] .nil)]),
 oo 8 (.mv (.t 46)),
 ox (.store 3 (.t 9) (.t 47)),
 oo 10 (.mv (.t 48))])
 (.seq (.seq (.reg 0 [oo 49 (.mv (.t 10)),
 oo 50 (.bin .eql (.t 49) (ci 0)),
 oo 51 (.mv (.t 50)),
 og 52 51 true (.fld 0 (.t 9)),
 og 53 51 true (.load false 1 (.t 52)),
 oo 54 (.pick (.t 51) (.t 53) (.c (.bool false)))])
 (.cond (.t 54) (.reg 0 [oo 10 (.mv (ci 9))]) (.skip)))
 (.keep [0, 4, 9, 10] [4, 9] (.seq (.reg 8 [oo 55 (.mv (.t 0)),
 oo 56 (.mv (.t 0)),
 oo 57 (.nilc (.t 56)),
 oo 58 (.fld 15 (.t 57)),
 oo 59 (.load false 1 (.t 58)),
 oo 60 (.fld 1 (.t 4)),
 oo 61 (.load false 1 (.t 60)),
 oo 62 (.bslice [(.int .i64 0)] 1 [(0, (.t 61))]),
 oo 63 (.app 1 (.t 59) (.t 62)),
 oo 64 (.nilc (.t 55)),
 oo 65 (.fld 15 (.t 64)),
 ox (.store 1 (.t 65) (.t 63))])
 (.seq (.reg 0 [oo 66 (.fld 2 (.t 9)),
 oo 67 (.load false 1 (.t 66)),
 oo 68 (.mv (.t 10)),
 oo 6 (.mv (.t 67)),
 oo 7 (.mv (.t 68))])
 (.ret)))))) (.seq (.seq (.reg 0 [oo 70 (.bin .eql (.t 16) (ci 0)),
 oo 69 (.mv (.t 70))])
 (.cond (.t 69) (.skip) (.reg 0 [oo 71 (.bin .eql (.t 16) (ci 3)),
 oo 69 (.mv (.t 71))])))
 (.keep [0, 2, 4, 69] [4] (.cond (.t 69) (.skip) (.seq (.reg 0 [oo 6 (.mv (.c (.sl [] .nil))),
 oo 7 (.mv (ci 3))])
 (.ret)))))))))))
 (.keep [0, 2, 4] [4] (.seq (.reg 0 [oo 73 (.mv (.t 0)),
 oo 74 (.fld 2 (.t 4)),
 oo 75 (.load false 1 (.t 74)),
 oo 76 (.mv (.t 2)),
 oo 77 (.bin .add (.t 76) (ci 1)),
 oo 78 (.call false (cf f_tmpl_judge_all) [(.t 73), (.t 75), (.t 77)]),
 oo 72 (.mv (.t 78)),
 oo 79 (.ext (.t 72) 0),
 oo 80 (.ext (.t 72) 1),
 oo 11 (.mv (.t 79)),
 oo 12 (.mv (.t 80))])
 (.seq (.seq (.reg 0 [oo 81 (.mv (.t 12)),
 oo 82 (.bin .neq (.t 81) (ci 0))])
 (.cond (.t 82) (.seq (.reg 0 [oo 83 (.mv (.t 12)),
 oo 6 (.mv (.c (.sl [] .nil))),
 oo 7 (.mv (.t 83))])
 (.ret)) (.skip)))
 (.keep [0, 4, 11] [4] (.seq (.seq (.reg 0 [oo 84 (.fld 0 (.t 4)),
 oo 85 (.load false 1 (.t 84)),
 oo 86 (.bin .eql (.t 85) (ci 0))])
 (.cond (.t 86) (.seq (.reg 0 [oo 87 (.mv (.t 0)),
 oo 88 (.fld 1 (.t 4)),
 oo 89 (.load false 1 (.t 88)),
 oo 90 (.mv (.t 11)),
 oo 91 (.call true (cf f_tmpl_judge_node) [(.t 87), (.t 89), (.t 90)]),
 oo 92 (.ext (.t 91) 0),
 oo 93 (.ext (.t 91) 1),
 oo 6 (.mv (.t 92)),
 oo 7 (.mv (.t 93))])
 (.ret)) (.skip)))
 (.keep [0, 4, 11] [4] (.seq (.reg 0 [oo 95 (.mv (.t 0)),
 oo 96 (.fld 1 (.t 4)),
 oo 97 (.load false 1 (.t 96)),
 oo 98 (.call true (cf f_tmpl_judge_kid) [(.t 95), (.t 97)]),
 oo 94 (.mv (.t 98)),
 oo 99 (.ext (.t 94) 0),
 oo 100 (.ext (.t 94) 1),
 oo 101 (.ext (.t 94) 2),
 oo 14 (.alloc [(.bool false), (.sl [] .nil), (.sl [] .nil)]),
 oo 13 (.mv (.t 99)),
 ox (.store 3 (.t 14) (.t 100)),
 oo 12 (.mv (.t 101))])
 (.seq (.block 1 (.seq (.block 4 (.block 3 (.seq (.block 2 (.seq (.seq (.seq (.reg 0 [oo 103 (.mv (.t 12)),
 oo 104 (.bin .neq (.t 103) (ci 0)),
 oo 102 (.mv (.t 104))])
 (.cond (.t 102) (.exit 2) (.skip)))
 (.keep [0, 4, 11, 13, 14] [4, 14] (.seq (.seq (.reg 0 [oo 106 (.mv (.t 13)),
 oo 107 (.call true (cf f_gram_Sym_IsTerm) [(.t 106)]),
 oo 105 (.mv (.t 107))])
 (.cond (.t 105) (.exit 3) (.skip)))
 (.keep [0, 4, 11, 14] [4, 14] (.seq (.seq (.reg 0 [oo 109 (.fld 0 (.t 14)),
 oo 110 (.load false 1 (.t 109)),
 oo 111 (.un .not (.t 110)),
 oo 108 (.mv (.t 111))])
 (.cond (.t 108) (.skip) (.reg 0 [oo 112 (.mv (.t 11)),
 oo 113 (.fld 1 (.t 14)),
 oo 114 (.load false 1 (.t 113)),
 oo 115 (.call true (cf f_slices_Equal_gram_Sym_gram_Sym) [(.t 112), (.t 114)]),
 oo 116 (.un .not (.t 115)),
 oo 108 (.mv (.t 116))])))
 (.keep [0, 4, 14, 108] [4, 14] (.cond (.t 108) (.exit 4) (.skip))))))))
 (.keep [0, 4, 14] [4, 14] (.exit 1))))
 (.keep [12] [] (.seq (.seq (.reg 0 [oo 117 (.mv (.t 12)),
 oo 6 (.mv (.c (.sl [] .nil))),
 oo 7 (.mv (.t 117))])
 (.ret))
 (.keep [0, 4, 14] [4, 14] (.exit 1)))))))
 (.keep [] [] (.seq (.seq (.reg 0 [oo 6 (.mv (.c (.sl [] .nil))),
 oo 7 (.mv (ci 9))])
 (.ret))
 (.keep [0, 4, 14] [4, 14] (.exit 1))))))
 (.keep [0, 4, 14] [4, 14] (.seq (.reg 8 [oo 118 (.mv (.t 0)),
 oo 119 (.mv (.t 0)),
 oo 120 (.nilc (.t 119)),
 oo 121 (.fld 15 (.t 120)),
 oo 122 (.load false 1 (.t 121)),
 oo 123 (.fld 1 (.t 4)),
 oo 124 (.load false 1 (.t 123)),
 oo 125 (.bslice [(.int .i64 0)] 1 [(0, (.t 124))]),
 oo 126 (.app 1 (.t 122) (.t 125)),
 oo 127 (.nilc (.t 118)),
 oo 128 (.fld 15 (.t 127)),
 ox (.store 1 (.t 128) (.t 126))])
 (.seq (.reg 0 [oo 129 (.fld 2 (.t 14)),
 oo 130 (.load false 1 (.t 129)),
 oo 6 (.mv (.t 130)),
 oo 7 (.mv (ci 0))])
 (.ret)))))))))))))
def n_tmpl_judge_one : Fn := ⟨c_tmpl_judge_one, [.t 6, .t 7], false, false⟩
theorem ok_tmpl_judge_one : fnOf Tryd.prog eff keep f_tmpl_judge_one = some n_tmpl_judge_one.bare := by kernel_rfl
def c_tmpl_judge_kid : ACode :=
  .seq (.reg 0 [oo 4 (.mv (ci 0)),
 oo 5 (.alloc [(.bool false), (.sl [] .nil), (.sl [] .nil)]),
 oo 6 (.mv (ci 0))])
 (.seq (.seq (.reg 0 [oo 8 (.mv (.t 1)),
 oo 9 (.bin .lss (.t 8) (ci 0)),
 oo 10 (.mv (.t 9)),
 og 11 10 false (.mv (.t 1)),
 og 12 10 false (.mv (.t 0)),
 og 13 10 false (.nilc (.t 12)),
 og 14 10 false (.fld 10 (.t 13)),
 og 15 10 false (.fld 1 (.t 14)),
 og 16 10 false (.load false 1 (.t 15)),
 og 17 10 false (.len .sl (.t 16)),
 og 18 10 false (.bin .geq (.t 11) (.t 17)),
 oo 19 (.pick (.t 10) (.c (.bool true)) (.t 18))])
 (.cond (.t 19) (.seq (.reg 0 [oo 20 (.build [(.bool false), (.sl [] .nil), (.sl [] .nil)] []),
 oo 4 (.mv (ci 0)),
 ox (.store 3 (.t 5) (.t 20)),
 oo 6 (.mv (ci 3))])
 (.ret)) (.skip)))
 (.keep [0, 1, 5] [5] (.seq (.reg 0 [oo 21 (.mv (.t 0)),
 oo 22 (.nilc (.t 21)),
 oo 23 (.fld 10 (.t 22)),
 oo 24 (.fld 1 (.t 23)),
 oo 25 (.load false 1 (.t 24)),
 oo 26 (.mv (.t 1)),
 oo 27 (.ixa 1 (.t 25) (.t 26)),
 oo 28 (.load false 1 (.t 27)),
 oo 7 (.mv (.t 28))])
 (.seq (.seq (.reg 0 [oo 29 (.mv (.t 7)),
 oo 30 (.call true (cf f_gram_Sym_IsTerm) [(.t 29)])])
 (.cond (.t 30) (.seq (.reg 0 [oo 31 (.mv (.t 7)),
 oo 32 (.mv (.t 7)),
 oo 33 (.bslice [(.int .i64 0)] 1 [(0, (.t 32))]),
 oo 34 (.build [(.bool false), (.sl [] .nil), (.sl [] .nil)] [(2, 1, (.t 33))]),
 oo 4 (.mv (.t 31)),
 ox (.store 3 (.t 5) (.t 34)),
 oo 6 (.mv (ci 0))])
 (.ret)) (.skip)))
 (.keep [0, 5, 7] [5] (.seq (.reg 11 [oo 35 (.mv (.t 7)),
 oo 36 (.mv (.t 0)),
 oo 37 (.nilc (.t 36)),
 oo 38 (.fld 0 (.t 37)),
 oo 39 (.fld 8 (.t 38)),
 oo 40 (.load false 1 (.t 39)),
 oo 41 (.mv (.t 7)),
 oo 42 (.call true (cf f_gram_Sym_Place) [(.t 41)]),
 oo 43 (.ixa 3 (.t 40) (.t 42)),
 oo 44 (.load true 3 (.t 43)),
 oo 4 (.mv (.t 35)),
 ox (.store 3 (.t 5) (.t 44)),
 oo 6 (.mv (ci 0))])
 (.ret)))))))
def n_tmpl_judge_kid : Fn := ⟨c_tmpl_judge_kid, [.t 4, .c 5 3 true, .t 6], false, false⟩
theorem ok_tmpl_judge_kid : fnOf Tryd.prog eff keep f_tmpl_judge_kid = some n_tmpl_judge_kid.bare := by kernel_rfl
def c_tmpl_judge_node : ACode :=
  .seq (.reg 0 [oo 6 (.mv (.c (.sl [] .nil))),
 oo 7 (.mv (ci 0))])
 (.seq (.seq (.reg 0 [oo 9 (.mv (.t 1)),
 oo 10 (.bin .lss (.t 9) (ci 0)),
 oo 11 (.mv (.t 10)),
 og 12 11 false (.mv (.t 1)),
 og 13 11 false (.mv (.t 0)),
 og 14 11 false (.nilc (.t 13)),
 og 15 11 false (.fld 0 (.t 14)),
 og 16 11 false (.fld 0 (.t 15)),
 og 17 11 false (.fld 3 (.t 16)),
 og 18 11 false (.load false 1 (.t 17)),
 og 19 11 false (.len .sl (.t 18)),
 og 20 11 false (.bin .geq (.t 12) (.t 19)),
 oo 21 (.pick (.t 11) (.c (.bool true)) (.t 20))])
 (.cond (.t 21) (.seq (.reg 0 [oo 6 (.mv (.c (.sl [] .nil))),
 oo 7 (.mv (ci 8))])
 (.ret)) (.skip)))
 (.keep [0, 1, 2] [] (.seq (.reg 0 [oo 22 (.mv (.t 0)),
 oo 23 (.nilc (.t 22)),
 oo 24 (.fld 0 (.t 23)),
 oo 25 (.fld 0 (.t 24)),
 oo 26 (.fld 3 (.t 25)),
 oo 27 (.load false 1 (.t 26)),
 oo 28 (.mv (.t 1)),
 oo 29 (.ixa 2 (.t 27) (.t 28)),
 oo 30 (.load true 2 (.t 29)),
 oo 8 (.alloc [(.int .i64 0), (.sl [] .nil)]),
 ox (.store 2 (.t 8) (.t 30))])
 (.seq (.seq (.reg 0 [oo 31 (.fld 1 (.t 8)),
 oo 32 (.load false 1 (.t 31)),
 oo 33 (.mv (.t 2)),
 oo 34 (.call true (cf f_slices_Equal_gram_Sym_gram_Sym) [(.t 32), (.t 33)]),
 oo 35 (.un .not (.t 34))])
 (.cond (.t 35) (.seq (.reg 0 [oo 6 (.mv (.c (.sl [] .nil))),
 oo 7 (.mv (ci 9))])
 (.ret)) (.skip)))
 (.keep [8] [8] (.seq (.reg 0 [oo 36 (.fld 0 (.t 8)),
 oo 37 (.load false 1 (.t 36)),
 oo 38 (.bslice [(.int .i64 0)] 1 [(0, (.t 37))]),
 oo 6 (.mv (.t 38)),
 oo 7 (.mv (ci 0))])
 (.ret)))))))
def n_tmpl_judge_node : Fn := ⟨c_tmpl_judge_node, [.t 6, .t 7], false, false⟩
theorem ok_tmpl_judge_node : fnOf Tryd.prog eff keep f_tmpl_judge_node = some n_tmpl_judge_node.bare := by kernel_rfl
def b_slices_Equal_int_int_l0 : ACode :=
  (.seq (.reg 0 [oo 14 (.bin .lss (.t 13) (.t 12))])
 (.seq (.cond (.t 14) (.skip) (.keep [] [] (.exit 0)))
 (.keep [0, 1, 12, 13] [] (.seq (.block 1 (.seq (.reg 0 [oo 15 (.mv (.t 13)),
 oo 5 (.mv (.t 15))])
 (.seq (.reg 8 [oo 16 (.mv (.t 0)),
 oo 17 (.mv (.t 5)),
 oo 18 (.ixa 1 (.t 16) (.t 17)),
 oo 19 (.load false 1 (.t 18)),
 oo 20 (.mv (.t 1)),
 oo 21 (.mv (.t 5)),
 oo 22 (.ixa 1 (.t 20) (.t 21)),
 oo 23 (.load false 1 (.t 22)),
 oo 24 (.bin .neq (.t 19) (.t 23))])
 (.cond (.t 24) (.seq (.reg 0 [oo 4 (.mv (.c (.bool false)))])
 (.keep [4] [] (.ret))) (.skip)))))
 (.keep [0, 1, 12, 13] [] (.reg 0 [oo 25 (.bin .add (.t 13) (ci 1)),
 oo 13 (.mv (.t 25))]))))))
def c_slices_Equal_int_int_l0 : ACode := .keep [0, 1, 12, 13] [] b_slices_Equal_int_int_l0
def c_slices_Equal_int_int : ACode :=
  .seq (.reg 0 [oo 4 (.mv (.c (.bool false)))])
 (.seq (.seq (.reg 0 [oo 6 (.mv (.t 0)),
 oo 7 (.len .sl (.t 6)),
 oo 8 (.mv (.t 1)),
 oo 9 (.len .sl (.t 8)),
 oo 10 (.bin .neq (.t 7) (.t 9))])
 (.cond (.t 10) (.seq (.reg 0 [oo 4 (.mv (.c (.bool false)))])
 (.ret)) (.skip)))
 (.keep [0, 1] [] (.seq (.seq (.reg 0 [oo 11 (.mv (.t 0)),
 oo 12 (.len .sl (.t 11)),
 oo 13 (.mv (ci 0))])
 (.block 0 (.loop c_slices_Equal_int_int_l0)))
 (.keep [] [] (.seq (.reg 0 [oo 4 (.mv (.c (.bool true)))])
 (.ret))))))
def n_slices_Equal_int_int : Fn := ⟨c_slices_Equal_int_int, [.t 4], false, false⟩
theorem ok_slices_Equal_int_int : fnOf Tryd.prog eff keep f_slices_Equal_int_int = some n_slices_Equal_int_int.bare := by kernel_rfl
@[simp] theorem c_slices_Equal_int_int_l0_norm (st : St) : norm c_slices_Equal_int_int_l0 st = st.keep [0, 1, 12, 13] [] := rfl
def b_ref12_Check_l0 : ACode :=
  (.seq (.seq (.reg 0 [oo 37 (.mv (.t 5)),
 oo 38 (.fld 0 (.t 1)),
 oo 39 (.fld 1 (.t 38)),
 oo 40 (.load false 1 (.t 39)),
 oo 41 (.len .sl (.t 40)),
 oo 42 (.bin .lss (.t 37) (.t 41))])
 (.cond (.t 42) (.skip) (.keep [1] [1] (.exit 0))))
 (.keep [1, 5] [1] (.seq (.block 1 (.seq (.reg 12 [oo 45 (.fld 0 (.t 1)),
 oo 46 (.fld 1 (.t 45)),
 oo 47 (.load false 1 (.t 46)),
 oo 48 (.mv (.t 5)),
 oo 49 (.ixa 1 (.t 47) (.t 48)),
 oo 50 (.load false 1 (.t 49)),
 oo 51 (.fld 4 (.t 1)),
 oo 52 (.fld 1 (.t 51)),
 oo 53 (.load false 1 (.t 52)),
 oo 54 (.mv (.t 5)),
 oo 55 (.ixa 1 (.t 53) (.t 54)),
 oo 56 (.load false 1 (.t 55)),
 oo 57 (.bin .neq (.t 50) (.t 56))])
 (.cond (.t 57) (.seq (.reg 0 [oo 2 (.mv (ci 1))])
 (.keep [2] [] (.ret))) (.skip))))
 (.keep [1, 5] [1] (.reg 0 [oo 43 (.mv (.t 5)),
 oo 44 (.bin .add (.t 43) (ci 1)),
 oo 5 (.mv (.t 44))])))))
def c_ref12_Check_l0 : ACode := .keep [1, 5] [1] b_ref12_Check_l0
def b_ref12_Check_l1 : ACode :=
  (.seq (.seq (.reg 0 [oo 83 (.mv (.t 7)),
 oo 84 (.fld 8 (.t 1)),
 oo 85 (.load false 1 (.t 84)),
 oo 86 (.mv (.t 6)),
 oo 87 (.ixa 3 (.t 85) (.t 86)),
 oo 88 (.fld 1 (.t 87)),
 oo 89 (.load false 1 (.t 88)),
 oo 90 (.len .sl (.t 89)),
 oo 91 (.bin .lss (.t 83) (.t 90))])
 (.cond (.t 91) (.skip) (.keep [1, 6] [1] (.exit 4))))
 (.keep [1, 6, 7] [1] (.seq (.block 5 (.seq (.reg 11 [oo 94 (.fld 0 (.t 1)),
 oo 95 (.load true 4 (.t 94)),
 oo 96 (.fld 8 (.t 1)),
 oo 97 (.load false 1 (.t 96)),
 oo 98 (.mv (.t 6)),
 oo 99 (.ixa 3 (.t 97) (.t 98)),
 oo 100 (.fld 1 (.t 99)),
 oo 101 (.load false 1 (.t 100)),
 oo 102 (.mv (.t 7)),
 oo 103 (.ixa 1 (.t 101) (.t 102)),
 oo 104 (.load false 1 (.t 103)),
 oo 105 (.call true (cf f_ref02_Has) [(.t 95), (.t 104)]),
 oo 106 (.un .not (.t 105))])
 (.cond (.t 106) (.seq (.reg 0 [oo 2 (.mv (ci 3))])
 (.keep [2] [] (.ret))) (.skip))))
 (.keep [1, 6, 7] [1] (.reg 0 [oo 92 (.mv (.t 7)),
 oo 93 (.bin .add (.t 92) (ci 1)),
 oo 7 (.mv (.t 93))])))))
def c_ref12_Check_l1 : ACode := .keep [1, 6, 7] [1] b_ref12_Check_l1
def b_ref12_Check_l2 : ACode :=
  (.seq (.seq (.reg 0 [oo 107 (.mv (.t 8)),
 oo 108 (.fld 8 (.t 1)),
 oo 109 (.load false 1 (.t 108)),
 oo 110 (.mv (.t 6)),
 oo 111 (.ixa 3 (.t 109) (.t 110)),
 oo 112 (.fld 2 (.t 111)),
 oo 113 (.load false 1 (.t 112)),
 oo 114 (.len .sl (.t 113)),
 oo 115 (.bin .lss (.t 107) (.t 114))])
 (.cond (.t 115) (.skip) (.keep [1, 6] [1] (.exit 6))))
 (.keep [1, 6, 8] [1] (.seq (.block 7 (.seq (.reg 11 [oo 118 (.fld 0 (.t 1)),
 oo 119 (.load true 4 (.t 118)),
 oo 120 (.fld 8 (.t 1)),
 oo 121 (.load false 1 (.t 120)),
 oo 122 (.mv (.t 6)),
 oo 123 (.ixa 3 (.t 121) (.t 122)),
 oo 124 (.fld 2 (.t 123)),
 oo 125 (.load false 1 (.t 124)),
 oo 126 (.mv (.t 8)),
 oo 127 (.ixa 1 (.t 125) (.t 126)),
 oo 128 (.load false 1 (.t 127)),
 oo 129 (.call true (cf f_ref02_Has) [(.t 119), (.t 128)]),
 oo 130 (.un .not (.t 129))])
 (.cond (.t 130) (.seq (.reg 0 [oo 2 (.mv (ci 3))])
 (.keep [2] [] (.ret))) (.skip))))
 (.keep [1, 6, 8] [1] (.reg 0 [oo 116 (.mv (.t 8)),
 oo 117 (.bin .add (.t 116) (ci 1)),
 oo 8 (.mv (.t 117))])))))
def c_ref12_Check_l2 : ACode := .keep [1, 6, 8] [1] b_ref12_Check_l2
def b_ref12_Check_l3 : ACode :=
  (.seq (.seq (.reg 0 [oo 76 (.mv (.t 6)),
 oo 77 (.fld 8 (.t 1)),
 oo 78 (.load false 1 (.t 77)),
 oo 79 (.len .sl (.t 78)),
 oo 80 (.bin .lss (.t 76) (.t 79))])
 (.cond (.t 80) (.skip) (.keep [1] [1] (.exit 2))))
 (.keep [1, 6] [1] (.seq (.block 3 (.seq (.seq (.reg 0 [oo 7 (.mv (ci 0))])
 (.block 4 (.loop c_ref12_Check_l1)))
 (.keep [1, 6] [1] (.seq (.reg 0 [oo 8 (.mv (ci 0))])
 (.block 6 (.loop c_ref12_Check_l2))))))
 (.keep [1, 6] [1] (.reg 0 [oo 81 (.mv (.t 6)),
 oo 82 (.bin .add (.t 81) (ci 1)),
 oo 6 (.mv (.t 82))])))))
def c_ref12_Check_l3 : ACode := .keep [1, 6] [1] b_ref12_Check_l3
def b_ref12_Check_l4 : ACode :=
  (.seq (.seq (.reg 0 [oo 203 (.mv (.t 15)),
 oo 204 (.fld 1 (.t 10)),
 oo 205 (.load false 1 (.t 204)),
 oo 206 (.len .sl (.t 205)),
 oo 207 (.bin .lss (.t 203) (.t 206))])
 (.cond (.t 207) (.skip) (.keep [1, 9, 12, 14] [1] (.exit 10))))
 (.keep [1, 9, 10, 12, 2040014, 15] [1, 10] (.seq (.block 11 (.reg 0 [oo 210 (.mv (.t 14)),
 oo 211 (.mv (.t 15)),
 oo 212 (.bslice [(.int .i64 0)] 1 [(0, (.t 211))]),
 oo 213 (.app 1 (.t 210) (.t 212)),
 oo 14 (.mv (.t 213))]))
 (.keep [1, 9, 10, 12, 2040014, 15] [1, 10] (.reg 0 [oo 208 (.mv (.t 15)),
 oo 209 (.bin .add (.t 208) (ci 1)),
 oo 15 (.mv (.t 209))])))))
def c_ref12_Check_l4 : ACode := .keep [1, 9, 10, 12, 2040014, 15] [1, 10] b_ref12_Check_l4
def b_ref12_Check_l5 : ACode :=
  (.seq (.seq (.reg 0 [oo 155 (.mv (.t 9)),
 oo 156 (.fld 9 (.t 1)),
 oo 157 (.load false 1 (.t 156)),
 oo 158 (.len .sl (.t 157)),
 oo 159 (.bin .lss (.t 155) (.t 158))])
 (.cond (.t 159) (.skip) (.keep [] [] (.exit 8))))
 (.keep [1, 9] [1] (.seq (.block 9 (.seq (.reg 0 [oo 162 (.fld 4 (.t 1)),
 oo 163 (.fld 3 (.t 162)),
 oo 164 (.load false 1 (.t 163)),
 oo 165 (.mv (.t 9)),
 oo 166 (.ixa 2 (.t 164) (.t 165)),
 oo 167 (.load true 2 (.t 166)),
 oo 10 (.alloc [(.int .i64 0), (.sl [] .nil)]),
 ox (.store 2 (.t 10) (.t 167))])
 (.seq (.reg 14 [oo 169 (.load true 10 (.t 1)),
 oo 170 (.load true 2 (.t 10)),
 oo 171 (.fld 9 (.t 1)),
 oo 172 (.load false 1 (.t 171)),
 oo 173 (.mv (.t 9)),
 oo 174 (.ixa 1 (.t 172) (.t 173)),
 oo 175 (.load false 1 (.t 174)),
 oo 176 (.call true (cf f_ref12_stands) [(.t 169), (.t 170), (.t 175), (ci 1)]),
 oo 168 (.mv (.t 176)),
 oo 177 (.ext (.t 168) 0),
 oo 178 (.ext (.t 168) 1),
 oo 179 (.ext (.t 168) 2),
 oo 11 (.mv (.t 177)),
 oo 12 (.mv (.t 178)),
 oo 13 (.mv (.t 179))])
 (.seq (.seq (.reg 0 [oo 180 (.mv (.t 13)),
 oo 181 (.bin .neq (.t 180) (ci 0))])
 (.cond (.t 181) (.seq (.reg 0 [oo 182 (.mv (.t 13)),
 oo 2 (.mv (.t 182))])
 (.keep [2] [] (.ret))) (.skip)))
 (.keep [1, 9, 10, 11, 12] [1, 10] (.seq (.seq (.reg 0 [oo 183 (.mv (.t 11)),
 oo 184 (.fld 8 (.t 1)),
 oo 185 (.load false 1 (.t 184)),
 oo 186 (.fld 0 (.t 10)),
 oo 187 (.load false 1 (.t 186)),
 oo 188 (.ixa 3 (.t 185) (.t 187)),
 oo 189 (.fld 2 (.t 188)),
 oo 190 (.load false 1 (.t 189)),
 oo 191 (.call true (cf f_ref12_ints) [(.t 183), (.t 190)]),
 oo 192 (.un .not (.t 191))])
 (.cond (.t 192) (.seq (.reg 0 [oo 2 (.mv (ci 9))])
 (.keep [2] [] (.ret))) (.skip)))
 (.keep [1, 9, 10, 12] [1, 10] (.seq (.reg 0 [oo 14 (.mv (.c (.sl [] .nil)))])
 (.seq (.seq (.reg 0 [oo 193 (.fld 8 (.t 1)),
 oo 194 (.load false 1 (.t 193)),
 oo 195 (.fld 0 (.t 10)),
 oo 196 (.load false 1 (.t 195)),
 oo 197 (.ixa 3 (.t 194) (.t 196)),
 oo 198 (.fld 0 (.t 197)),
 oo 199 (.load false 1 (.t 198))])
 (.cond (.t 199) (.reg 0 [oo 200 (.mv (.t 14)),
 oo 201 (.bslice [(.int .i64 0)] 1 [(0, (ci (-1)))]),
 oo 202 (.app 1 (.t 200) (.t 201)),
 oo 14 (.mv (.t 202))]) (.skip)))
 (.keep [1, 9, 10, 12, 2040014] [1, 10] (.seq (.seq (.reg 0 [oo 15 (.mv (ci 0))])
 (.block 10 (.loop c_ref12_Check_l4)))
 (.keep [1, 9, 12, 14] [1] (.seq (.reg 0 [oo 214 (.mv (.t 12)),
 oo 215 (.mv (.t 14)),
 oo 216 (.call true (cf f_ref12_ints) [(.t 214), (.t 215)]),
 oo 217 (.un .not (.t 216))])
 (.cond (.t 217) (.seq (.reg 0 [oo 2 (.mv (ci 4))])
 (.keep [2] [] (.ret))) (.skip)))))))))))))))
 (.keep [1, 9] [1] (.reg 0 [oo 160 (.mv (.t 9)),
 oo 161 (.bin .add (.t 160) (ci 1)),
 oo 9 (.mv (.t 161))])))))
def c_ref12_Check_l5 : ACode := .keep [1, 9] [1] b_ref12_Check_l5
def c_ref12_Check : ACode :=
  .seq (.reg 0 [oo 1 (.box (.t 0)),
 oo 2 (.mv (ci 0))])
 (.seq (.seq (.reg 0 [oo 16 (.fld 0 (.t 1)),
 oo 17 (.load true 4 (.t 16)),
 oo 18 (.call true (cf f_ref02_Check) [(.t 17)]),
 oo 3 (.mv (.t 18))])
 (.seq (.reg 0 [oo 19 (.mv (.t 3)),
 oo 20 (.bin .neq (.t 19) (ci 0))])
 (.cond (.t 20) (.seq (.reg 0 [oo 21 (.mv (.t 3)),
 oo 2 (.mv (.t 21))])
 (.ret)) (.skip))))
 (.keep [1] [1] (.seq (.seq (.reg 0 [oo 22 (.fld 4 (.t 1)),
 oo 23 (.load true 4 (.t 22)),
 oo 24 (.call true (cf f_ref02_Check) [(.t 23)]),
 oo 4 (.mv (.t 24))])
 (.seq (.reg 0 [oo 25 (.mv (.t 4)),
 oo 26 (.bin .neq (.t 25) (ci 0))])
 (.cond (.t 26) (.seq (.reg 0 [oo 27 (.mv (.t 4)),
 oo 2 (.mv (.t 27))])
 (.ret)) (.skip))))
 (.keep [1] [1] (.seq (.seq (.reg 0 [oo 28 (.fld 0 (.t 1)),
 oo 29 (.fld 1 (.t 28)),
 oo 30 (.load false 1 (.t 29)),
 oo 31 (.len .sl (.t 30)),
 oo 32 (.fld 4 (.t 1)),
 oo 33 (.fld 1 (.t 32)),
 oo 34 (.load false 1 (.t 33)),
 oo 35 (.len .sl (.t 34)),
 oo 36 (.bin .neq (.t 31) (.t 35))])
 (.cond (.t 36) (.seq (.reg 0 [oo 2 (.mv (ci 1))])
 (.ret)) (.skip)))
 (.keep [1] [1] (.seq (.seq (.reg 0 [oo 5 (.mv (ci 0))])
 (.block 0 (.loop c_ref12_Check_l0)))
 (.keep [1] [1] (.seq (.seq (.reg 0 [oo 58 (.fld 8 (.t 1)),
 oo 59 (.load false 1 (.t 58)),
 oo 60 (.len .sl (.t 59)),
 oo 61 (.fld 4 (.t 1)),
 oo 62 (.fld 0 (.t 61)),
 oo 63 (.load false 1 (.t 62)),
 oo 64 (.len .sl (.t 63)),
 oo 65 (.bin .neq (.t 60) (.t 64)),
 oo 66 (.mv (.t 65)),
 og 67 66 false (.fld 9 (.t 1)),
 og 68 66 false (.load false 1 (.t 67)),
 og 69 66 false (.len .sl (.t 68)),
 og 70 66 false (.fld 4 (.t 1)),
 og 71 66 false (.fld 3 (.t 70)),
 og 72 66 false (.load false 1 (.t 71)),
 og 73 66 false (.len .sl (.t 72)),
 og 74 66 false (.bin .neq (.t 69) (.t 73)),
 oo 75 (.pick (.t 66) (.c (.bool true)) (.t 74))])
 (.cond (.t 75) (.seq (.reg 0 [oo 2 (.mv (ci 12))])
 (.ret)) (.skip)))
 (.keep [1] [1] (.seq (.seq (.reg 0 [oo 6 (.mv (ci 0))])
 (.block 2 (.loop c_ref12_Check_l3)))
 (.keep [1] [1] (.seq (.seq (.reg 21 [oo 131 (.fld 8 (.t 1)),
 oo 132 (.load false 1 (.t 131)),
 oo 133 (.fld 4 (.t 1)),
 oo 134 (.fld 2 (.t 133)),
 oo 135 (.load false 1 (.t 134)),
 oo 136 (.ixa 3 (.t 132) (.t 135)),
 oo 137 (.fld 0 (.t 136)),
 oo 138 (.load false 1 (.t 137)),
 oo 139 (.mv (.t 138)),
 og 140 139 false (.fld 8 (.t 1)),
 og 141 139 false (.load false 1 (.t 140)),
 og 142 139 false (.fld 4 (.t 1)),
 og 143 139 false (.fld 2 (.t 142)),
 og 144 139 false (.load false 1 (.t 143)),
 og 145 139 false (.ixa 3 (.t 141) (.t 144)),
 og 146 139 false (.fld 2 (.t 145)),
 og 147 139 false (.load false 1 (.t 146)),
 og 148 139 false (.fld 0 (.t 1)),
 og 149 139 false (.fld 2 (.t 148)),
 og 150 139 false (.load false 1 (.t 149)),
 og 151 139 false (.bslice [(.int .i64 0)] 1 [(0, (.t 150))]),
 og 152 139 false (.call true (cf f_ref12_ints) [(.t 147), (.t 151)]),
 og 153 139 false (.un .not (.t 152)),
 oo 154 (.pick (.t 139) (.c (.bool true)) (.t 153))])
 (.cond (.t 154) (.seq (.reg 0 [oo 2 (.mv (ci 10))])
 (.ret)) (.skip)))
 (.keep [1] [1] (.seq (.seq (.reg 0 [oo 9 (.mv (ci 0))])
 (.block 8 (.loop c_ref12_Check_l5)))
 (.keep [] [] (.seq (.reg 0 [oo 2 (.mv (ci 0))])
 (.ret))))))))))))))))))
def n_ref12_Check : Fn := ⟨c_ref12_Check, [.t 2], false, false⟩
theorem ok_ref12_Check : fnOf Tryd.prog eff keep f_ref12_Check = some n_ref12_Check.bare := by kernel_rfl
@[simp] theorem c_ref12_Check_l0_norm (st : St) : norm c_ref12_Check_l0 st = st.keep [1, 5] [1] := rfl
@[simp] theorem c_ref12_Check_l1_norm (st : St) : norm c_ref12_Check_l1 st = st.keep [1, 6, 7] [1] := rfl
@[simp] theorem c_ref12_Check_l2_norm (st : St) : norm c_ref12_Check_l2 st = st.keep [1, 6, 8] [1] := rfl
@[simp] theorem c_ref12_Check_l3_norm (st : St) : norm c_ref12_Check_l3 st = st.keep [1, 6] [1] := rfl
@[simp] theorem c_ref12_Check_l4_norm (st : St) : norm c_ref12_Check_l4 st = st.keep [1, 9, 10, 12, 2040014, 15] [1, 10] := rfl
@[simp] theorem c_ref12_Check_l5_norm (st : St) : norm c_ref12_Check_l5 st = st.keep [1, 9] [1] := rfl
def b_ref12_ints_l0 : ACode :=
  (.seq (.seq (.reg 0 [oo 11 (.mv (.t 5)),
 oo 12 (.mv (.t 0)),
 oo 13 (.len .sl (.t 12)),
 oo 14 (.bin .lss (.t 11) (.t 13))])
 (.cond (.t 14) (.skip) (.keep [] [] (.exit 0))))
 (.keep [0, 1, 5] [] (.seq (.block 1 (.seq (.reg 8 [oo 17 (.mv (.t 0)),
 oo 18 (.mv (.t 5)),
 oo 19 (.ixa 1 (.t 17) (.t 18)),
 oo 20 (.load false 1 (.t 19)),
 oo 21 (.mv (.t 1)),
 oo 22 (.mv (.t 5)),
 oo 23 (.ixa 1 (.t 21) (.t 22)),
 oo 24 (.load false 1 (.t 23)),
 oo 25 (.bin .neq (.t 20) (.t 24))])
 (.cond (.t 25) (.seq (.reg 0 [oo 4 (.mv (.c (.bool false)))])
 (.keep [4] [] (.ret))) (.skip))))
 (.keep [0, 1, 5] [] (.reg 0 [oo 15 (.mv (.t 5)),
 oo 16 (.bin .add (.t 15) (ci 1)),
 oo 5 (.mv (.t 16))])))))
def c_ref12_ints_l0 : ACode := .keep [0, 1, 5] [] b_ref12_ints_l0
def c_ref12_ints : ACode :=
  .seq (.reg 0 [oo 4 (.mv (.c (.bool false)))])
 (.seq (.seq (.reg 0 [oo 6 (.mv (.t 0)),
 oo 7 (.len .sl (.t 6)),
 oo 8 (.mv (.t 1)),
 oo 9 (.len .sl (.t 8)),
 oo 10 (.bin .neq (.t 7) (.t 9))])
 (.cond (.t 10) (.seq (.reg 0 [oo 4 (.mv (.c (.bool false)))])
 (.ret)) (.skip)))
 (.keep [0, 1] [] (.seq (.seq (.reg 0 [oo 5 (.mv (ci 0))])
 (.block 0 (.loop c_ref12_ints_l0)))
 (.keep [] [] (.seq (.reg 0 [oo 4 (.mv (.c (.bool true)))])
 (.ret))))))
def n_ref12_ints : Fn := ⟨c_ref12_ints, [.t 4], false, false⟩
theorem ok_ref12_ints : fnOf Tryd.prog eff keep f_ref12_ints = some n_ref12_ints.bare := by kernel_rfl
@[simp] theorem c_ref12_ints_l0_norm (st : St) : norm c_ref12_ints_l0 st = st.keep [0, 1, 5] [] := rfl
end Go.Proofs.YtlacnkjkcikodaaDoor.Am
end
