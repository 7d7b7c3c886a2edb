/- the template of any rule as itself is the document's; the table of a grammar as itself is sound, if the grammar may be; its sorts are the nonterminals themselves: part 6 of 6 of its proof, packed by a program of this session out of the texts SpJ, SpK, SpT0, SpT1, SpT2, SpT4, SpP, SpT5, SpT6, SpU, SpT7, SpT8, SpT9, SpW, SpTP, RowTP, LTmplPlain. -/
import Derived.Test.YtlacnkjkcikodaaDoorZTP4
import Derived.Test.YtlacnkjkcikodaaDoorRows
import Derived.Test.YtlacnkjkcikodaaDoorTie
import Derived.Test.YtlacnkjkcikodaaDoorCards
import Derived.WalkKit
import Derived.ProofKit
import Derived.OpenShut
import Derived.ShutString
import Derived.ChangeOld
import Derived.ChangeVars
import Derived.ChangeSame
import Derived.JoinedOf
import Derived.Below
import Derived.SizedLaws
import Derived.Handed
import Derived.LaidLaws
import Derived.LaidHandle
import Derived.Lay
import Derived.MakeChecks
import Derived.Stop.Joined
import Derived.SevenTiedAt
section
set_option linter.unusedVariables false
set_option linter.unusedSimpArgs false
set_option maxHeartbeats 1000000
namespace Go.Proofs.YtlacnkjkcikodaaDoor.Am
open Go
variable {lk : Nat} {H : List Tab}
theorem ofr_l0 (hlk : lk ≤ H.length) (a : Int) (l : List Int) (hl : l.length ≤ 500000000) : ∀ (r : List Int) (i : Nat) (j : Int), l.drop i = r → j = i → lp mach lk c_law02_OfRule_l0 ⟨[(2, .ptr H.length 2 0), (3, .ptr H.length 3 0), (10, .sl (l.map (V.int .i64)) .no), (11, .int .i64 l.length), (12, .int .i64 j)], [(2, .cells [.int .i64 0, .sl [] .held]), (3, .cells [.int .i64 a, .sl ((l.take i).map (V.int .i64)) .held])], H⟩ = some (.exit 0, ⟨[(2, .ptr H.length 2 0), (3, .ptr H.length 3 0)], [(2, .cells [.int .i64 0, .sl [] .held]), (3, .cells [.int .i64 a, .sl (l.map (V.int .i64)) .held])], H⟩) := by
  intro r
  induction r with
  | nil =>
    intro i j h hj; subst hj
    have := drop_nil h
    rw [List.take_of_length_le this]
    (rw [st_law02_OfRule_l0]; simp (disch := first | assumption | omega | (simp; done) | (simp only [ByteArray.size_append]; omega)) [-getElem?_pos, -List.all_eq_true, -List.any_eq_true, -List.length_eq_zero_iff, -List.map_take, -List.map_drop, b_law02_OfRule_l0])
  | cons x r ih =>
    intro i j h hj; subst hj
    obtain ⟨hx, hlt, hr⟩ := drop_cons h
    have ih := ih (i + 1) (i + 1) hr (by omega)
    rw [List.take_add_one, hx] at ih
    simp only [Option.toList_some, List.map_append, List.map_cons, List.map_nil] at ih
    have hm : (l.take i).length ≤ i := List.length_take_le ..
    (rw [st_law02_OfRule_l0]; simp (disch := first | assumption | omega | (simp; done) | (simp only [ByteArray.size_append]; omega)) [-getElem?_pos, -List.all_eq_true, -List.any_eq_true, -List.length_eq_zero_iff, -List.map_take, -List.map_drop, b_law02_OfRule_l0, hx, appMost, ih])
@[simp] theorem sp_OfRule (hlk : lk ≤ H.length) (a : Int) (l : List Int) (hl : l.length ≤ 500000000) : lim mach lk f_law02_OfRule [(.agg [.int .i64 a, .sl ( l.map (V.int .i64)) .no])] H = some ((.agg [.int .i64 a, .sl ( l.map (V.int .i64)) .no]), H) := by
  have h := ofr_l0 hlk a l hl l 0 0 rfl rfl
  simp only [List.take_zero, List.map_nil] at h
  (rw [eq_law02_OfRule]; simp (disch := first | assumption | omega | (simp; done) | (simp only [ByteArray.size_append]; omega)) [-getElem?_pos, -List.all_eq_true, -List.any_eq_true, -List.length_eq_zero_iff, -List.map_take, -List.map_drop, c_law02_OfRule, h])
theorem of2_l0 (hlk : lk ≤ H.length) (ns ts : List ByteArray) (st : Int) (rs : List Rule) (hl : rs.length ≤ 500000000) (hok : ∀ r ∈ rs, r.right.length ≤ 500000000) : ∀ (r : List Rule) (i : Nat) (j : Int), rs.drop i = r → j = i → lp mach lk c_law02_Of_l0 ⟨[(2, .ptr H.length 2 0), (3, .ptr H.length 3 0), (14, .sl (rs.map encR) .no), (15, .int .i64 rs.length), (16, .int .i64 j)], [(2, .cells [.sl [] .held, .sl [] .held, .int .i64 0, .sl [] .held]), (3, .cells [.sl (ns.map V.str) .no, .sl (ts.map V.str) .no, .int .i64 st, .sl ((rs.take i).map encR) .held])], H⟩ = some (.exit 0, ⟨[(2, .ptr H.length 2 0), (3, .ptr H.length 3 0)], [(2, .cells [.sl [] .held, .sl [] .held, .int .i64 0, .sl [] .held]), (3, .cells [.sl (ns.map V.str) .no, .sl (ts.map V.str) .no, .int .i64 st, .sl (rs.map encR) .held])], H⟩) := by
  intro r
  induction r with
  | nil =>
    intro i j h hj; subst hj
    have := drop_nil h
    rw [List.take_of_length_le this]
    (rw [st_law02_Of_l0]; simp (disch := first | assumption | omega | (simp; done) | (simp only [ByteArray.size_append]; omega)) [-getElem?_pos, -List.all_eq_true, -List.any_eq_true, -List.length_eq_zero_iff, -List.map_take, -List.map_drop, b_law02_Of_l0])
  | cons x r ih =>
    intro i j h hj; subst hj
    obtain ⟨hx, hlt, hr⟩ := drop_cons h
    have hxl := hok x (mem_drop h)
    have ih := ih (i + 1) (i + 1) hr (by omega)
    rw [List.take_add_one, hx] at ih
    obtain ⟨a, l⟩ := x
    simp only [Option.toList_some, List.map_append, List.map_cons, List.map_nil, encR] at ih hxl
    have hm : (rs.take i).length ≤ i := List.length_take_le ..
    (rw [st_law02_Of_l0]; simp (disch := first | assumption | omega | (simp; done) | (simp only [ByteArray.size_append]; omega)) [-getElem?_pos, -List.all_eq_true, -List.any_eq_true, -List.length_eq_zero_iff, -List.map_take, -List.map_drop, b_law02_Of_l0, hx, appMost, ih])
theorem sp_Of2 (hlk : lk ≤ H.length) (ns ts : List ByteArray) (st : Int) (rs : List Rule) (hl : rs.length ≤ 500000000) (hok : ∀ r ∈ rs, r.right.length ≤ 500000000) : lim mach lk f_law02_Of [(.agg [.sl (ns.map V.str) .no, .sl (ts.map V.str) .no, .int .i64 st, .sl (rs.map encR) .no])] H = some ((.agg [.sl (ns.map V.str) .no, .sl (ts.map V.str) .no, .int .i64 st, .sl (rs.map encR) .no]), H) := by
  have h := of2_l0 hlk ns ts st rs hl hok rs 0 0 rfl rfl
  simp only [List.take_zero, List.map_nil] at h
  (rw [eq_law02_Of]; simp (disch := first | assumption | omega | (simp; done) | (simp only [ByteArray.size_append]; omega)) [-getElem?_pos, -List.all_eq_true, -List.any_eq_true, -List.length_eq_zero_iff, -List.map_take, -List.map_drop, c_law02_Of, h])
def textsW : List ByteArray → Int
  | [] => 0
  | s :: l => (s.size : Int) / 16 + textsW l
theorem textsW_0 : ∀ l : List ByteArray, 0 ≤ textsW l
  | [] => by simp [textsW]
  | s :: l => by have := textsW_0 l; simp only [textsW]; omega
def smallB (g : Gram) : Bool := decide (sizeC g.rules + textsW g.names + textsW g.terms ≤ 600 ∧ g.names.length ≤ 60 ∧ g.terms.length ≤ 60 ∧ g.rules.length ≤ 120)
theorem small_l0 (hlk : lk ≤ H.length) (G : List V) (hG : ∃ (ns ts : List ByteArray) (st : Int) (rs : List Rule), G = (encG ⟨ns, ts, st, rs⟩).cells) (rs : List Rule) (hs : sizeC rs ≤ 4611686018427387904) (hl : rs.length ≤ 4611686018427387904) : ∀ (r : List Rule) (i : Nat) (j n : Int), rs.drop i = r → j = i → n + sizeC r = sizeC rs → 0 ≤ n → lp mach lk c_law02_Small_l0 ⟨[(1, .ptr H.length 1 0), (3, .int .i64 n), (11, .sl (rs.map encR) .no), (12, .int .i64 rs.length), (13, .int .i64 j)], [(1, .cells G)], H⟩ = some (.exit 0, ⟨[(1, .ptr H.length 1 0), (3, .int .i64 (sizeC rs))], [(1, .cells G)], H⟩) := by
  obtain ⟨ns, ts, st, rs', rfl⟩ := hG
  simp only [encG, V.cells]
  intro r
  induction r with
  | nil =>
    intro i j n h hj hn h0; subst hj
    have := drop_nil h
    simp only [sizeC] at hn
    obtain rfl : n = sizeC rs := by omega
    (rw [st_law02_Small_l0]; simp (disch := first | assumption | omega | (simp; done) | (simp only [ByteArray.size_append]; omega)) [-getElem?_pos, -List.all_eq_true, -List.any_eq_true, -List.length_eq_zero_iff, -List.map_take, -List.map_drop, b_law02_Small_l0])
  | cons x r ih =>
    intro i j n h hj hn h0; subst hj
    obtain ⟨hx, hlt, hr⟩ := drop_cons h
    obtain ⟨a, l⟩ := x
    simp only [sizeC] at hn
    have := sizeC_0 r
    have ih := ih (i + 1) (i + 1) (n + (1 + l.length)) hr (by omega) (by omega) (by omega)
    (rw [st_law02_Small_l0]; simp (disch := first | assumption | omega | (simp; done) | (simp only [ByteArray.size_append]; omega)) [-getElem?_pos, -List.all_eq_true, -List.any_eq_true, -List.length_eq_zero_iff, -List.map_take, -List.map_drop, b_law02_Small_l0, hx, ih])
theorem div16 (n : Nat) : ((n : Int)).tdiv 16 = (n : Int) / 16 := by rw [Int.tdiv_eq_ediv_of_nonneg (by omega)]
theorem small_l1 (G : List V) (hG : ∃ (ns ts : List ByteArray) (st : Int) (rs : List Rule), G = (encG ⟨ns, ts, st, rs⟩).cells) (q : List ByteArray) (m : Int) (hm : 0 ≤ m) (hs : m + textsW q ≤ 4611686018427387904) (hl : q.length ≤ 4611686018427387904) : ∀ (r : List ByteArray) (i : Nat) (j n : Int), q.drop i = r → j = i → n + textsW r = m + textsW q → m ≤ n → lp mach lk c_law02_Small_l1 ⟨[(1, .ptr H.length 1 0), (3, .int .i64 n), (25, .sl (q.map V.str) .no), (26, .int .i64 q.length), (27, .int .i64 j)], [(1, .cells G)], H⟩ = some (.exit 2, ⟨[(1, .ptr H.length 1 0), (3, .int .i64 (m + textsW q))], [(1, .cells G)], H⟩) := by
  obtain ⟨ns, ts, st, rs', rfl⟩ := hG
  simp only [encG, V.cells]
  intro r
  induction r with
  | nil =>
    intro i j n h hj hn h0; subst hj
    have := drop_nil h
    simp only [textsW] at hn
    obtain rfl : n = m + textsW q := by omega
    (rw [st_law02_Small_l1]; simp (disch := first | assumption | omega | (simp; done) | (simp only [ByteArray.size_append]; omega)) [-getElem?_pos, -List.all_eq_true, -List.any_eq_true, -List.length_eq_zero_iff, -List.map_take, -List.map_drop, b_law02_Small_l1])
  | cons x r ih =>
    intro i j n h hj hn h0; subst hj
    obtain ⟨hx, hlt, hr⟩ := drop_cons h
    simp only [textsW] at hn
    have := textsW_0 r
    have ih := ih (i + 1) (i + 1) (n + (x.size : Int) / 16) hr (by omega) (by omega) (by omega)
    have hd := div16 x.size
    (rw [st_law02_Small_l1]; simp (disch := first | assumption | omega | (simp; done) | (simp only [ByteArray.size_append]; omega)) [-getElem?_pos, -List.all_eq_true, -List.any_eq_true, -List.length_eq_zero_iff, -List.map_take, -List.map_drop, b_law02_Small_l1, hx, hd, ih])
theorem small_l2 (G : List V) (hG : ∃ (ns ts : List ByteArray) (st : Int) (rs : List Rule), G = (encG ⟨ns, ts, st, rs⟩).cells) (q : List ByteArray) (m : Int) (hm : 0 ≤ m) (hs : m + textsW q ≤ 4611686018427387904) (hl : q.length ≤ 4611686018427387904) : ∀ (r : List ByteArray) (i : Nat) (j n : Int), q.drop i = r → j = i → n + textsW r = m + textsW q → m ≤ n → lp mach lk c_law02_Small_l2 ⟨[(1, .ptr H.length 1 0), (3, .int .i64 n), (38, .sl (q.map V.str) .no), (39, .int .i64 q.length), (40, .int .i64 j)], [(1, .cells G)], H⟩ = some (.exit 4, ⟨[(1, .ptr H.length 1 0), (3, .int .i64 (m + textsW q))], [(1, .cells G)], H⟩) := by
  obtain ⟨ns, ts, st, rs', rfl⟩ := hG
  simp only [encG, V.cells]
  intro r
  induction r with
  | nil =>
    intro i j n h hj hn h0; subst hj
    have := drop_nil h
    simp only [textsW] at hn
    obtain rfl : n = m + textsW q := by omega
    (rw [st_law02_Small_l2]; simp (disch := first | assumption | omega | (simp; done) | (simp only [ByteArray.size_append]; omega)) [-getElem?_pos, -List.all_eq_true, -List.any_eq_true, -List.length_eq_zero_iff, -List.map_take, -List.map_drop, b_law02_Small_l2])
  | cons x r ih =>
    intro i j n h hj hn h0; subst hj
    obtain ⟨hx, hlt, hr⟩ := drop_cons h
    simp only [textsW] at hn
    have := textsW_0 r
    have ih := ih (i + 1) (i + 1) (n + (x.size : Int) / 16) hr (by omega) (by omega) (by omega)
    have hd := div16 x.size
    (rw [st_law02_Small_l2]; simp (disch := first | assumption | omega | (simp; done) | (simp only [ByteArray.size_append]; omega)) [-getElem?_pos, -List.all_eq_true, -List.any_eq_true, -List.length_eq_zero_iff, -List.map_take, -List.map_drop, b_law02_Small_l2, hx, hd, ih])
theorem small_a0 (hlk : lk ≤ H.length) (G : List V) (hG : ∃ (ns ts : List ByteArray) (st : Int) (rs : List Rule), G = (encG ⟨ns, ts, st, rs⟩).cells) (rs : List Rule) (hs : ∀ r ∈ rs, OkR r) (hl : rs.length ≤ 4611686018427387904) : ∀ (r : List Rule) (i : Nat) (j n : Int), rs.drop i = r → j = i → ∃ y : Int, lp mach lk c_law02_Small_l0 ⟨[(1, .ptr H.length 1 0), (3, .int .i64 n), (11, .sl (rs.map encR) .no), (12, .int .i64 rs.length), (13, .int .i64 j)], [(1, .cells G)], H⟩ = some (.exit 0, ⟨[(1, .ptr H.length 1 0), (3, .int .i64 y)], [(1, .cells G)], H⟩) := by
  obtain ⟨ns, ts, st, rs', rfl⟩ := hG
  simp only [encG, V.cells]
  intro r
  induction r with
  | nil =>
    intro i j n h hj; subst hj
    have := drop_nil h
    refine ⟨n, ?_⟩
    (rw [st_law02_Small_l0]; simp (disch := first | assumption | omega | (simp; done) | (simp only [ByteArray.size_append]; omega)) [-getElem?_pos, -List.all_eq_true, -List.any_eq_true, -List.length_eq_zero_iff, -List.map_take, -List.map_drop, b_law02_Small_l0])
  | cons x r ih =>
    intro i j n h hj; subst hj
    obtain ⟨hx, hlt, hr⟩ := drop_cons h
    have hm := (hs x (mem_drop h)).1
    obtain ⟨a, l⟩ := x
    simp only at hm
    obtain ⟨y, ih⟩ := ih (i + 1) (i + 1) (IntKind.i64.wrap (n + (1 + l.length))) hr (by omega)
    refine ⟨y, ?_⟩
    (rw [st_law02_Small_l0]; simp (disch := first | assumption | omega | (simp; done) | (simp only [ByteArray.size_append]; omega)) [-getElem?_pos, -List.all_eq_true, -List.any_eq_true, -List.length_eq_zero_iff, -List.map_take, -List.map_drop, b_law02_Small_l0, hx, ih])
theorem small_a1 (G : List V) (hG : ∃ (ns ts : List ByteArray) (st : Int) (rs : List Rule), G = (encG ⟨ns, ts, st, rs⟩).cells) (q : List ByteArray) (hs : ∀ s ∈ q, s.size ≤ 4611686018427387904) (hl : q.length ≤ 4611686018427387904) : ∀ (r : List ByteArray) (i : Nat) (j n : Int), q.drop i = r → j = i → ∃ y : Int, lp mach lk c_law02_Small_l1 ⟨[(1, .ptr H.length 1 0), (3, .int .i64 n), (25, .sl (q.map V.str) .no), (26, .int .i64 q.length), (27, .int .i64 j)], [(1, .cells G)], H⟩ = some (.exit 2, ⟨[(1, .ptr H.length 1 0), (3, .int .i64 y)], [(1, .cells G)], H⟩) := by
  obtain ⟨ns, ts, st, rs', rfl⟩ := hG
  simp only [encG, V.cells]
  intro r
  induction r with
  | nil =>
    intro i j n h hj; subst hj
    have := drop_nil h
    refine ⟨n, ?_⟩
    (rw [st_law02_Small_l1]; simp (disch := first | assumption | omega | (simp; done) | (simp only [ByteArray.size_append]; omega)) [-getElem?_pos, -List.all_eq_true, -List.any_eq_true, -List.length_eq_zero_iff, -List.map_take, -List.map_drop, b_law02_Small_l1])
  | cons x r ih =>
    intro i j n h hj; subst hj
    obtain ⟨hx, hlt, hr⟩ := drop_cons h
    have hm := hs x (mem_drop h)
    have hd := div16 x.size
    obtain ⟨y, ih⟩ := ih (i + 1) (i + 1) (IntKind.i64.wrap (n + (x.size : Int) / 16)) hr (by omega)
    refine ⟨y, ?_⟩
    (rw [st_law02_Small_l1]; simp (disch := first | assumption | omega | (simp; done) | (simp only [ByteArray.size_append]; omega)) [-getElem?_pos, -List.all_eq_true, -List.any_eq_true, -List.length_eq_zero_iff, -List.map_take, -List.map_drop, b_law02_Small_l1, hx, hd, ih])
theorem small_a2 (G : List V) (hG : ∃ (ns ts : List ByteArray) (st : Int) (rs : List Rule), G = (encG ⟨ns, ts, st, rs⟩).cells) (q : List ByteArray) (hs : ∀ s ∈ q, s.size ≤ 4611686018427387904) (hl : q.length ≤ 4611686018427387904) : ∀ (r : List ByteArray) (i : Nat) (j n : Int), q.drop i = r → j = i → ∃ y : Int, lp mach lk c_law02_Small_l2 ⟨[(1, .ptr H.length 1 0), (3, .int .i64 n), (38, .sl (q.map V.str) .no), (39, .int .i64 q.length), (40, .int .i64 j)], [(1, .cells G)], H⟩ = some (.exit 4, ⟨[(1, .ptr H.length 1 0), (3, .int .i64 y)], [(1, .cells G)], H⟩) := by
  obtain ⟨ns, ts, st, rs', rfl⟩ := hG
  simp only [encG, V.cells]
  intro r
  induction r with
  | nil =>
    intro i j n h hj; subst hj
    have := drop_nil h
    refine ⟨n, ?_⟩
    (rw [st_law02_Small_l2]; simp (disch := first | assumption | omega | (simp; done) | (simp only [ByteArray.size_append]; omega)) [-getElem?_pos, -List.all_eq_true, -List.any_eq_true, -List.length_eq_zero_iff, -List.map_take, -List.map_drop, b_law02_Small_l2])
  | cons x r ih =>
    intro i j n h hj; subst hj
    obtain ⟨hx, hlt, hr⟩ := drop_cons h
    have hm := hs x (mem_drop h)
    have hd := div16 x.size
    obtain ⟨y, ih⟩ := ih (i + 1) (i + 1) (IntKind.i64.wrap (n + (x.size : Int) / 16)) hr (by omega)
    refine ⟨y, ?_⟩
    (rw [st_law02_Small_l2]; simp (disch := first | assumption | omega | (simp; done) | (simp only [ByteArray.size_append]; omega)) [-getElem?_pos, -List.all_eq_true, -List.any_eq_true, -List.length_eq_zero_iff, -List.map_take, -List.map_drop, b_law02_Small_l2, hx, hd, ih])
theorem sp_Small0 (hlk : lk ≤ H.length) (ns ts : List ByteArray) (st : Int) (rs : List Rule) (hl : ns.length ≤ 4611686018427387904 ∧ ts.length ≤ 4611686018427387904 ∧ rs.length ≤ 4611686018427387904) (hs : sizeC rs + textsW ns + textsW ts ≤ 4611686018427387904) : lim mach lk f_law02_Small [(.agg [.sl (ns.map V.str) .no, .sl (ts.map V.str) .no, .int .i64 st, .sl (rs.map encR) .no])] H = some (.bool (smallB ⟨ns, ts, st, rs⟩), H) := by
  have p0 := sizeC_0 rs
  have p1 := textsW_0 ns
  have p2 := textsW_0 ts
  have h0 := small_l0 hlk _ ⟨ns, ts, st, rs, rfl⟩ rs (by omega) hl.2.2 rs 0 0 0 rfl rfl (by omega) (by omega)
  have h1 := small_l1 (lk := lk) (H := H) _ ⟨ns, ts, st, rs, rfl⟩ ns (sizeC rs) (by omega) (by omega) hl.1 ns 0 0 (sizeC rs) rfl rfl (by omega) (by omega)
  have h2 := small_l2 (lk := lk) (H := H) _ ⟨ns, ts, st, rs, rfl⟩ ts (sizeC rs + textsW ns) (by omega) (by omega) hl.2.1 ts 0 0 (sizeC rs + textsW ns) rfl rfl (by omega) (by omega)
  simp only [encG, V.cells] at h0 h1 h2
  unfold smallB
  simp only
  by_cases c0 : sizeC rs + textsW ns + textsW ts ≤ 600
  · by_cases c1 : ns.length ≤ 60
    · by_cases c2 : ts.length ≤ 60
      · by_cases c3 : rs.length ≤ 120 <;> (rw [eq_law02_Small]; simp (disch := first | assumption | omega | (simp; done) | (simp only [ByteArray.size_append]; omega)) [-getElem?_pos, -List.all_eq_true, -List.any_eq_true, -List.length_eq_zero_iff, -List.map_take, -List.map_drop, c_law02_Small, h0, h1, h2, c0, c1, c2, c3])
      · (rw [eq_law02_Small]; simp (disch := first | assumption | omega | (simp; done) | (simp only [ByteArray.size_append]; omega)) [-getElem?_pos, -List.all_eq_true, -List.any_eq_true, -List.length_eq_zero_iff, -List.map_take, -List.map_drop, c_law02_Small, h0, h1, h2, c0, c1, c2])
    · (rw [eq_law02_Small]; simp (disch := first | assumption | omega | (simp; done) | (simp only [ByteArray.size_append]; omega)) [-getElem?_pos, -List.all_eq_true, -List.any_eq_true, -List.length_eq_zero_iff, -List.map_take, -List.map_drop, c_law02_Small, h0, h1, h2, c0, c1])
  · (rw [eq_law02_Small]; simp (disch := first | assumption | omega | (simp; done) | (simp only [ByteArray.size_append]; omega)) [-getElem?_pos, -List.all_eq_true, -List.any_eq_true, -List.length_eq_zero_iff, -List.map_take, -List.map_drop, c_law02_Small, h0, h1, h2, c0])
theorem sp_Small (hlk : lk ≤ H.length) (ns ts : List ByteArray) (st : Int) (rs : List Rule) (hg : OkG ⟨ns, ts, st, rs⟩) (hn : ∀ s ∈ ns, s.size ≤ 140737488355328) (ht : ∀ s ∈ ts, s.size ≤ 140737488355328) (hr : ∀ r ∈ rs, r.right.length ≤ 140737488355328) : lim mach lk f_law02_Small [(.agg [.sl (ns.map V.str) .no, .sl (ts.map V.str) .no, .int .i64 st, .sl (rs.map encR) .no])] H = some (.bool (smallB ⟨ns, ts, st, rs⟩), H) := by
  by_cases hc : ns.length ≤ 60 ∧ ts.length ≤ 60 ∧ rs.length ≤ 120
  · refine sp_Small0 hlk ns ts st rs ⟨hg.1, hg.2.1, hg.2.2.1⟩ ?_
    have tw : ∀ l : List ByteArray, (∀ s ∈ l, s.size ≤ 140737488355328) → textsW l ≤ l.length * 140737488355328 := by
      intro l
      induction l with
      | nil => intro _; simp [textsW]
      | cons x l ih =>
        intro h
        have h1 := h x List.mem_cons_self
        have h2 := ih fun y hy => h y (List.mem_cons_of_mem _ hy)
        simp only [textsW, List.length_cons]; omega
    have sw : ∀ l : List Rule, (∀ r ∈ l, r.right.length ≤ 140737488355328) → sizeC l ≤ l.length * 140737488355329 := by
      intro l
      induction l with
      | nil => intro _; simp [sizeC]
      | cons x l ih =>
        intro h
        have h1 := h x List.mem_cons_self
        have h2 := ih fun y hy => h y (List.mem_cons_of_mem _ hy)
        simp only [sizeC, List.length_cons]; omega
    have a1 := tw ns hn
    have a2 := tw ts ht
    have a3 := sw rs hr
    omega
  · obtain ⟨y0, h0⟩ := small_a0 hlk _ ⟨ns, ts, st, rs, rfl⟩ rs hg.2.2.2 hg.2.2.1 rs 0 0 0 rfl rfl
    obtain ⟨y1, h1⟩ := small_a1 (lk := lk) (H := H) _ ⟨ns, ts, st, rs, rfl⟩ ns (fun s hs => by have := hn s hs; omega) hg.1 ns 0 0 y0 rfl rfl
    obtain ⟨y2, h2⟩ := small_a2 (lk := lk) (H := H) _ ⟨ns, ts, st, rs, rfl⟩ ts (fun s hs => by have := ht s hs; omega) hg.2.1 ts 0 0 y1 rfl rfl
    simp only [encG, V.cells] at h0 h1 h2
    have e : smallB ⟨ns, ts, st, rs⟩ = false := by unfold smallB; rw [decide_eq_false]; exact fun h => hc h.2
    rw [e]
    have hl0 := hg.1
    have hl1 := hg.2.1
    have hl2 := hg.2.2.1
    simp only at hl0 hl1 hl2
    by_cases c0 : y2 ≤ 600
    · by_cases c1 : ns.length ≤ 60
      · by_cases c2 : ts.length ≤ 60
        · have c3 : ¬ rs.length ≤ 120 := fun h => hc ⟨c1, c2, h⟩
          (rw [eq_law02_Small]; simp (disch := first | assumption | omega | (simp; done) | (simp only [ByteArray.size_append]; omega)) [-getElem?_pos, -List.all_eq_true, -List.any_eq_true, -List.length_eq_zero_iff, -List.map_take, -List.map_drop, c_law02_Small, h0, h1, h2, c0, c1, c2, c3])
        · (rw [eq_law02_Small]; simp (disch := first | assumption | omega | (simp; done) | (simp only [ByteArray.size_append]; omega)) [-getElem?_pos, -List.all_eq_true, -List.any_eq_true, -List.length_eq_zero_iff, -List.map_take, -List.map_drop, c_law02_Small, h0, h1, h2, c0, c1, c2])
      · (rw [eq_law02_Small]; simp (disch := first | assumption | omega | (simp; done) | (simp only [ByteArray.size_append]; omega)) [-getElem?_pos, -List.all_eq_true, -List.any_eq_true, -List.length_eq_zero_iff, -List.map_take, -List.map_drop, c_law02_Small, h0, h1, h2, c0, c1])
    · (rw [eq_law02_Small]; simp (disch := first | assumption | omega | (simp; done) | (simp only [ByteArray.size_append]; omega)) [-getElem?_pos, -List.all_eq_true, -List.any_eq_true, -List.length_eq_zero_iff, -List.map_take, -List.map_drop, c_law02_Small, h0, h1, h2, c0])
end Go.Proofs.YtlacnkjkcikodaaDoor.Am
end
section
set_option linter.unusedVariables false
set_option linter.unusedSimpArgs false
set_option maxHeartbeats 1000000
namespace Go.Proofs.YtlacnkjkcikodaaDoor.Am
open Go
variable {lk : Nat} {H : List Tab}
theorem idx_str_l0 (l : List ByteArray) (s : ByteArray) (hl : l.length ≤ 4611686018427387904) : ∀ (r : List ByteArray) (i : Nat) (j : Int), l.drop i = r → j = i → lp mach lk c_slices_Index_string_string_l0 ⟨[(0, .sl (l.map V.str) .no), (1, .str s), (7, .int .i64 l.length), (8, .int .i64 j)], [], H⟩ = some (if idxI (fun x => decide (s = x)) r j < 0 then (.exit 0, ⟨[], [], H⟩) else (.ret, ⟨[(4, .int .i64 (idxI (fun x => decide (s = x)) r j))], [], H⟩)) := by
  intro r
  induction r with
  | nil =>
    intro i j h hj; subst hj
    have := drop_nil h
    (rw [st_slices_Index_string_string_l0]; simp (disch := first | assumption | omega | (simp; done) | (simp only [ByteArray.size_append]; omega)) [-getElem?_pos, -List.all_eq_true, -List.any_eq_true, -List.length_eq_zero_iff, -List.map_take, -List.map_drop, b_slices_Index_string_string_l0, idxI])
  | cons x r ih =>
    intro i j h hj; subst hj
    obtain ⟨hx, hlt, hr⟩ := drop_cons h
    have ih := ih (i + 1) (i + 1) hr (by omega)
    by_cases e : s = x
    · subst e; (rw [st_slices_Index_string_string_l0]; simp (disch := first | assumption | omega | (simp; done) | (simp only [ByteArray.size_append]; omega)) [-getElem?_pos, -List.all_eq_true, -List.any_eq_true, -List.length_eq_zero_iff, -List.map_take, -List.map_drop, b_slices_Index_string_string_l0, idxI, hx])
    · (rw [st_slices_Index_string_string_l0]; simp (disch := first | assumption | omega | (simp; done) | (simp only [ByteArray.size_append]; omega)) [-getElem?_pos, -List.all_eq_true, -List.any_eq_true, -List.length_eq_zero_iff, -List.map_take, -List.map_drop, b_slices_Index_string_string_l0, idxI, hx, e, ih])
@[simp] theorem sp_Index_str (l : List ByteArray) (s : ByteArray) (hl : l.length ≤ 4611686018427387904) : lim mach lk f_slices_Index_string_string [.sl (l.map V.str) .no, .str s] H = some (.int .i64 (idxI (fun x => decide (s = x)) l 0), H) := by
  have h := idx_str_l0 (lk := lk) (H := H) l s hl l 0 0 rfl rfl
  by_cases e : idxI (fun x => decide (s = x)) l 0 < 0
  · rw [if_pos e] at h
    have e2 := idxI_neg (fun x => decide (s = x)) l 0 (by omega) e
    (rw [eq_slices_Index_string_string]; simp (disch := first | assumption | omega | (simp; done) | (simp only [ByteArray.size_append]; omega)) [-getElem?_pos, -List.all_eq_true, -List.any_eq_true, -List.length_eq_zero_iff, -List.map_take, -List.map_drop, c_slices_Index_string_string, h, e2])
  · rw [if_neg e] at h; (rw [eq_slices_Index_string_string]; simp (disch := first | assumption | omega | (simp; done) | (simp only [ByteArray.size_append]; omega)) [-getElem?_pos, -List.all_eq_true, -List.any_eq_true, -List.length_eq_zero_iff, -List.map_take, -List.map_drop, c_slices_Index_string_string, h])
@[simp] theorem sp_Contains_str (l : List ByteArray) (s : ByteArray) (hl : l.length ≤ 4611686018427387904) : lim mach lk f_slices_Contains_string_string [.sl (l.map V.str) .no, .str s] H = some (.bool (l.any fun x => decide (s = x)), H) := by
  have e := idxI_any (fun x => decide (s = x)) l 0 (by omega)
  (rw [eq_slices_Contains_string_string]; simp (disch := first | assumption | omega | (simp; done) | (simp only [ByteArray.size_append]; omega)) [-getElem?_pos, -List.all_eq_true, -List.any_eq_true, -List.length_eq_zero_iff, -List.map_take, -List.map_drop, c_slices_Contains_string_string, e])
@[simp] theorem sp_Itoa (n : Int) (h : -9223372036854775808 ≤ n ∧ n ≤ 9223372036854775807) : lim mach lk f_strconv_Itoa [.int .i64 n] H = some (.str (itoaB n), H) := by
  rw [eq_strconv_Itoa]; simp only [gv_Itoa, if_pos h]
@[simp] theorem sp_Quote (s : ByteArray) (h : s.size ≤ 17592186044416) : lim mach lk f_names_Quote [.str s] H = some (.str (quoteB s), H) := by
  rw [eq_names_Quote]; simp only [gv_Quote, if_pos h]
theorem itoaB_size (n : Int) (h : -9223372036854775808 ≤ n ∧ n ≤ 9223372036854775807) : (itoaB n).size ≤ 20 := by
  have := itoa_len n h.1 h.2
  have e : (itoaB n).size = (Lib.itoa n).length := by simp [itoaB, ByteArray.size]
  omega
def freshP (s : ByteArray) : ByteArray := s.extract 0 (min s.size 32) ++ ⟨#[45]⟩
def freshAt (l : List ByteArray) (p : ByteArray) : Nat → Int → Option ByteArray
  | 0, _ => none
  | k + 1, n => bif l.any (fun x => decide (p ++ itoaB n = x)) then freshAt l p k (n + 1) else some (p ++ itoaB n)
theorem fresh_l0 (l : List ByteArray) (p s : ByteArray) (hl : l.length ≤ 4611686018427387904) (hp : p.size ≤ 4611686018427387904) : ∀ (k : Nat) (n : Int), 0 ≤ n → n + k ≤ 4611686018427387904 → freshAt l p k n = some s → lp mach lk c_names_Fresh_l0 ⟨[(0, .sl (l.map V.str) .no), (1, .str p), (5, .int .i64 n)], [], H⟩ = some (.ret, ⟨[(4, .str s)], [], H⟩) := by
  intro k
  induction k with
  | zero => intro n _ _ h; cases h
  | succ k ih =>
    intro n h0 hk h
    simp only [freshAt] at h
    have hz := itoaB_size n (by omega)
    cases e : l.any (fun x => decide (p ++ itoaB n = x)) with
    | true =>
      rw [e, cond_true] at h
      have ih := ih (n + 1) (by omega) (by omega) h
      (rw [st_names_Fresh_l0]; simp (disch := first | assumption | omega | (simp; done) | (simp only [ByteArray.size_append]; omega)) [-getElem?_pos, -List.all_eq_true, -List.any_eq_true, -List.length_eq_zero_iff, -List.map_take, -List.map_drop, b_names_Fresh_l0, e, ih])
    | false =>
      rw [e, cond_false] at h
      cases h
      (rw [st_names_Fresh_l0]; simp (disch := first | assumption | omega | (simp; done) | (simp only [ByteArray.size_append]; omega)) [-getElem?_pos, -List.all_eq_true, -List.any_eq_true, -List.length_eq_zero_iff, -List.map_take, -List.map_drop, b_names_Fresh_l0, e])
theorem sp_Fresh (l : List ByteArray) (o s : ByteArray) (k : Nat) (hk : k ≤ 4611686018427387) (hl : l.length ≤ 4611686018427387904) (ho : o.size ≤ 4611686018427387904) (h : freshAt l (freshP o) k 1 = some s) : lim mach lk f_names_Fresh [.sl (l.map V.str) .no, .str o] H = some (.str s, H) := by
  have hz : (o.extract 0 (min o.size 32)).size ≤ 32 := by rw [ByteArray.size_extract]; omega
  have hp : (freshP o).size ≤ 33 := by unfold freshP; rw [ByteArray.size_append]; have : (⟨#[45]⟩ : ByteArray).size = 1 := rfl; omega
  have h1 : (⟨#[45]⟩ : ByteArray).size = 1 := rfl
  have h := fresh_l0 (lk := lk) (H := H) l (freshP o) s hl (by omega) k 1 (by omega) (by omega) h
  unfold freshP at h
  by_cases c : (32 : Int) < o.size
  · have e : min o.size 32 = 32 := by omega
    rw [e] at h hz
    (rw [eq_names_Fresh]; simp (disch := first | assumption | omega | (simp; done) | (simp only [ByteArray.size_append]; omega)) [-getElem?_pos, -List.all_eq_true, -List.any_eq_true, -List.length_eq_zero_iff, -List.map_take, -List.map_drop, c_names_Fresh, low64, h, h1])
  · have e : min o.size 32 = o.size := by omega
    have e4 : o.extract 0 o.size = o := by simp
    rw [e] at h hz
    rw [e4] at h hz
    (rw [eq_names_Fresh]; simp (disch := first | assumption | omega | (simp; done) | (simp only [ByteArray.size_append]; omega)) [-getElem?_pos, -List.all_eq_true, -List.any_eq_true, -List.length_eq_zero_iff, -List.map_take, -List.map_drop, c_names_Fresh, low64, h, h1])
def textC (ns ts : List ByteArray) (s : Int) : ByteArray := if hasI ns.length ts.length s = true then (if s < 0 then quoteB (ts.getD (-1 - s).toNat ⟨#[]⟩) else ⟨#[60]⟩ ++ ns.getD s.toNat ⟨#[]⟩ ++ ⟨#[62]⟩) else ⟨#[]⟩
theorem sp_Text (hlk : lk ≤ H.length) (ns ts : List ByteArray) (st : Int) (rs : List Rule) (s : Int) (h : -9223372036854775808 ≤ s) (hn : ∀ x ∈ ns, x.size ≤ 17592186044416) (ht : ∀ x ∈ ts, x.size ≤ 17592186044416) : lim mach lk f_gram_Grammar_Text [(.agg [.sl (ns.map V.str) .no, .sl (ts.map V.str) .no, .int .i64 st, .sl (rs.map encR) .no]), .int .i64 s] H = some (.str (textC ns ts s), H) := by
  unfold textC
  cases e : hasI ns.length ts.length s with
  | false => (rw [eq_gram_Grammar_Text]; simp (disch := first | assumption | omega | (simp; done) | (simp only [ByteArray.size_append]; omega)) [-getElem?_pos, -List.all_eq_true, -List.any_eq_true, -List.length_eq_zero_iff, -List.map_take, -List.map_drop, c_gram_Grammar_Text, e])
  | true =>
    have e' := of_decide_eq_true e
    by_cases c : s < 0
    · obtain ⟨n, rfl⟩ : ∃ n : Nat, s = -1 - n := ⟨(-1 - s).toNat, by omega⟩
      obtain ⟨x, hx⟩ : ∃ x, ts[n]? = some x := ⟨_, List.getElem?_eq_getElem (by omega)⟩
      have hx2 : ts.getD n ⟨#[]⟩ = x := by simp [List.getD_eq_getElem?_getD, hx]
      have e3 : -1 - (-1 - (n : Int)) = n := by omega
      have hq := ht x (List.mem_of_getElem? hx)
      have ep : placeI (-1 - n) = n := by unfold placeI; rw [if_pos c, e3]
      (rw [eq_gram_Grammar_Text]; simp (disch := first | assumption | omega | (simp; done) | (simp only [ByteArray.size_append]; omega)) [-getElem?_pos, -List.all_eq_true, -List.any_eq_true, -List.length_eq_zero_iff, -List.map_take, -List.map_drop, c_gram_Grammar_Text, e, ep, e3, hx, hx2])
    · obtain ⟨n, rfl⟩ : ∃ n : Nat, s = n := ⟨s.toNat, by omega⟩
      obtain ⟨x, hx⟩ : ∃ x, ns[n]? = some x := ⟨_, List.getElem?_eq_getElem (by omega)⟩
      have hx2 : ns.getD n ⟨#[]⟩ = x := by simp [List.getD_eq_getElem?_getD, hx]
      have hq := hn x (List.mem_of_getElem? hx)
      have z1 : (⟨#[60]⟩ : ByteArray).size = 1 := rfl
      have z2 : (⟨#[62]⟩ : ByteArray).size = 1 := rfl
      (rw [eq_gram_Grammar_Text]; simp (disch := first | assumption | omega | (simp; done) | (simp only [ByteArray.size_append]; omega)) [-getElem?_pos, -List.all_eq_true, -List.any_eq_true, -List.length_eq_zero_iff, -List.map_take, -List.map_drop, c_gram_Grammar_Text, e, hx, hx2, z1, z2])
def exG : Gram := ⟨[⟨#[83]⟩], [⟨#[97]⟩], 0, [⟨0, [-1, 0]⟩, ⟨0, []⟩]⟩
theorem sp_Example (hlk : lk ≤ H.length) : lim mach lk f_law02_Example [] H = some (encG exG, H) := by
  (rw [eq_law02_Example]; simp (disch := first | assumption | omega | (simp; done) | (simp only [ByteArray.size_append]; omega)) [-getElem?_pos, -List.all_eq_true, -List.any_eq_true, -List.length_eq_zero_iff, -List.map_take, -List.map_drop, c_law02_Example, exG])
theorem sp_Awake1 : lim mach lk f_law01_Awake [] H = some (.bool true, H) := by
  have e1 : quoteB ⟨#[97, 34, 98]⟩ = ⟨#[34, 97, 92, 34, 98, 34]⟩ := by kernel_rfl
  have e2 : freshAt [⟨#[83]⟩, ⟨#[83, 45, 49]⟩] (freshP ⟨#[83]⟩) 3 1 = some ⟨#[83, 45, 50]⟩ := by kernel_rfl
  have e3 : nameB ⟨#[97, 45, 49]⟩ = true := by kernel_rfl
  have e4 : nameB ⟨#[49, 97]⟩ = false := by kernel_rfl
  have z1 : (⟨#[97, 34, 98]⟩ : ByteArray).size = 3 := rfl
  have h := fun (L : Tab) => sp_Fresh (lk := H.length + 1) (H := H ++ [L]) [⟨#[83]⟩, ⟨#[83, 45, 49]⟩] ⟨#[83]⟩ _ 3 (by omega) (by simp) (by decide) e2
  simp only [List.map_cons, List.map_nil] at h
  (rw [eq_law01_Awake]; simp (disch := first | assumption | omega | (simp; done) | (simp only [ByteArray.size_append]; omega)) [-getElem?_pos, -List.all_eq_true, -List.any_eq_true, -List.length_eq_zero_iff, -List.map_take, -List.map_drop, c_law01_Awake, e1, h, e3, e4, z1])
theorem okG_ex : OkG exG := by
  refine ⟨by decide, by decide, by decide, fun r hr => ?_⟩
  simp [exG] at hr
  rcases hr with rfl | rfl <;> simp [OkR]
theorem sp_Awake2 (hlk : lk ≤ H.length) : lim mach lk f_law02_Awake [] H = some (.bool true, H) := by
  have h1 := fun (L : Tab) => sp_Check (lk := H.length + 1) (H := H ++ [L]) (by simp) exG okG_ex
  have h2 := fun (L : Tab) => sp_Size (lk := H.length + 1) (H := H ++ [L]) (by simp) exG.names exG.terms exG.start exG.rules (by decide) (by decide)
  have h3 := fun (L : Tab) (s : Int) (hs : -9223372036854775808 ≤ s) => sp_Text (lk := H.length + 1) (H := H ++ [L]) (by simp) exG.names exG.terms exG.start exG.rules s hs (by decide) (by decide)
  have h4 := fun (L : Tab) => sp_Example (lk := H.length + 1) (H := H ++ [L]) (by simp)
  have h5 := fun (L : Tab) => sp_Awake1 (lk := H.length + 1) (H := H ++ [L])
  have e1 : checkC exG = 0 := by kernel_rfl
  have e2 : sizeC exG.rules = 4 := by kernel_rfl
  have e3 : textC exG.names exG.terms (-1) = ⟨#[34, 97, 34]⟩ := by kernel_rfl
  have e4 : textC exG.names exG.terms 0 = ⟨#[60, 83, 62]⟩ := by kernel_rfl
  have h6 := fun (L : Tab) => h3 L (-1) (by omega)
  have h7 := fun (L : Tab) => h3 L 0 (by omega)
  rw [e1] at h1; rw [e2] at h2; rw [e3] at h6; rw [e4] at h7
  simp only [exG, encG, encR, List.map_cons, List.map_nil] at h1 h2 h4 h6 h7
  (rw [eq_law02_Awake]; simp (disch := first | assumption | omega | (simp; done) | (simp only [ByteArray.size_append]; omega)) [-getElem?_pos, -List.all_eq_true, -List.any_eq_true, -List.length_eq_zero_iff, -List.map_take, -List.map_drop, c_law02_Awake, h1, h2, h4, h5, h6, h7])
end Go.Proofs.YtlacnkjkcikodaaDoor.Am
end
section
set_option linter.unusedVariables false
set_option linter.unusedSimpArgs false
set_option maxHeartbeats 1000000
namespace Go.Proofs.YtlacnkjkcikodaaDoor.Am
open Go
variable {lk : Nat} {H : List Tab}
inductive Item where
  | mk (kind n : Int) (items : List Item)
mutual
def encIt : Item → V
  | .mk k n l => .agg [.int .i64 k, .int .i64 n, .sl (encIts l) .no]
def encIts : List Item → List V
  | [] => []
  | x :: l => encIt x :: encIts l
end
theorem encIts_map : ∀ l : List Item, encIts l = l.map encIt
  | [] => rfl
  | x :: l => by rw [encIts, List.map_cons, encIts_map l]
theorem encIt_mk (k n : Int) (l : List Item) : encIt (.mk k n l) = .agg [.int .i64 k, .int .i64 n, .sl (l.map encIt) .no] := by rw [encIt, encIts_map]
theorem szOK_It {q : List Item} : szOK 3 (q.map encIt) = true := szOK_map fun x => by cases x; rw [encIt_mk]; rfl
attribute [simp] encIt_mk szOK_It
mutual
def Item.size : Item → Nat
  | .mk _ _ l => 1 + itsSize l
def itsSize : List Item → Nat
  | [] => 0
  | x :: l => x.size + itsSize l
end
theorem itsSize_mem {x : Item} : ∀ {l : List Item}, x ∈ l → x.size ≤ itsSize l
  | y :: l, h => by
    rw [itsSize]
    rcases List.mem_cons.1 h with rfl | h
    · omega
    · have := itsSize_mem h; omega
mutual
def itOk (B : Nat) : Item → Prop
  | .mk _ _ l => l.length ≤ B ∧ itsOk B l
def itsOk (B : Nat) : List Item → Prop
  | [] => True
  | x :: l => itOk B x ∧ itsOk B l
end
theorem itsOk_iff {B : Nat} : ∀ {l : List Item}, itsOk B l ↔ ∀ x ∈ l, itOk B x
  | [] => by simp [itsOk]
  | x :: l => by rw [itsOk, itsOk_iff (l := l)]; simp
structure Srt where
  takes : Bool
  arg : List Int
  res : List Int
deriving DecidableEq
def encS (s : Srt) : V := .agg [.bool s.takes, .sl (s.arg.map (V.int .i64)) .no, .sl (s.res.map (V.int .i64)) .no]
theorem szOK_S {q : List Srt} : szOK 3 (q.map encS) = true := szOK_map fun _ => rfl
def encL (l : List Item) : V := .sl (l.map encIt) .no
theorem szOK_L {q : List (List Item)} : szOK 1 (q.map encL) = true := szOK_map fun _ => rfl
attribute [simp] encS szOK_S encL szOK_L
structure Tbl where
  inn : Gram
  out : Gram
  sorts : List Srt
  rules : List (List Item)
def Gram.cells (g : Gram) : List V := [.sl (g.names.map V.str) .no, .sl (g.terms.map V.str) .no, .int .i64 g.start, .sl (g.rules.map encR) .no]
def encT (t : Tbl) : V := .agg (t.inn.cells ++ t.out.cells ++ [.sl (t.sorts.map encS) .no, .sl (t.rules.map encL) .no])
end Go.Proofs.YtlacnkjkcikodaaDoor.Am
end
section
set_option linter.unusedVariables false
set_option linter.unusedSimpArgs false
set_option maxHeartbeats 1000000
namespace Go.Proofs.YtlacnkjkcikodaaDoor.Am
open Go
variable {lk : Nat} {H : List Tab}
def kidC (t : Tbl) (r : Rule) (n : Int) : Int × Srt × Int :=
  if n < 0 ∨ (r.right.length : Int) ≤ n then (0, ⟨false, [], []⟩, 3) else
  let s := r.right.getD n.toNat 0
  if s < 0 then (s, ⟨false, [], [s]⟩, 0) else (s, t.sorts.getD s.toNat ⟨false, [], []⟩, 0)
def nodeC (t : Tbl) (n : Int) (l : List Int) : List Int × Int :=
  if n < 0 ∨ (t.inn.rules.length : Int) ≤ n then ([], 8) else
  let r := t.inn.rules.getD n.toNat ⟨0, []⟩
  if r.right = l then ([r.left], 0) else ([], 9)
def callC (t : Tbl) (r : Rule) (n : Int) (l : List Int) : List Int × Int × List Int :=
  let q := kidC t r n
  if q.2.2 ≠ 0 then ([], q.2.2, []) else if q.1 < 0 ∨ q.2.1.takes = false ∨ l ≠ q.2.1.arg then ([], 9, []) else (q.2.1.res, 0, [n])
mutual
def oneC (t : Tbl) (r : Rule) (s : Srt) : Item → Nat → List Int × Int × List Int
  | .mk k n l, d =>
    if k = 2 then (if s.takes = true then (s.arg, 0, [-1]) else ([], 9, [])) else
    if k = 1 then (if (kidC t r n).2.2 = 0 ∧ (kidC t r n).2.1.takes = true then ((kidC t r n).2.1.res, 9, [n]) else ((kidC t r n).2.1.res, (kidC t r n).2.2, [n])) else
    if k ≠ 0 ∧ k ≠ 3 then ([], 3, []) else
    if 64 < d + 1 ∧ l ≠ [] then ([], 4, []) else
    let q := allC t r s l (d + 1) [] []
    if q.2.1 ≠ 0 then ([], q.2.1, q.2.2) else
    if k = 0 then ((nodeC t n q.1).1, (nodeC t n q.1).2, q.2.2) else
    ((callC t r n q.1).1, (callC t r n q.1).2.1, q.2.2 ++ (callC t r n q.1).2.2)
def allC (t : Tbl) (r : Rule) (s : Srt) : List Item → Nat → List Int → List Int → List Int × Int × List Int
  | [], _, out, c => (out, 0, c)
  | x :: l, d, out, c =>
    let q := oneC t r s x d
    if q.2.1 ≠ 0 then ([], q.2.1, c ++ q.2.2) else allC t r s l d (out ++ q.1) (c ++ q.2.2)
end
end Go.Proofs.YtlacnkjkcikodaaDoor.Am
end
section
set_option linter.unusedVariables false
set_option linter.unusedSimpArgs false
set_option maxHeartbeats 1000000
namespace Go.Proofs.YtlacnkjkcikodaaDoor.Am
open Go
variable {lk : Nat} {H : List Tab}
theorem eq_l0_slices_Equal_gram_Sym_gram_Sym (a b : List Int) (h : a.length = b.length) (hb : a.length ≤ 4611686018427387904) : ∀ (r : List Int) (i : Nat) (j : Int), a.drop i = r → j = i → lp mach lk c_slices_Equal_gram_Sym_gram_Sym_l0 ⟨[(0, .sl (a.map (V.int .i64)) .no), (1, .sl (b.map (V.int .i64)) .no), (12, .int .i64 a.length), (13, .int .i64 j)], [], H⟩ = some (if r = b.drop i then (.exit 0, ⟨[], [], H⟩) else (.ret, ⟨[(4, .bool false)], [], H⟩)) := by
  intro r
  induction r with
  | nil =>
    intro i j hd hj; subst hj
    have := drop_nil hd
    have e : b.drop i = [] := List.drop_eq_nil_of_le (by omega)
    (rw [st_slices_Equal_gram_Sym_gram_Sym_l0]; simp (disch := first | assumption | omega | (simp; done) | (simp only [ByteArray.size_append]; omega)) [-getElem?_pos, -List.all_eq_true, -List.any_eq_true, -List.length_eq_zero_iff, -List.map_take, -List.map_drop, b_slices_Equal_gram_Sym_gram_Sym_l0, e])
  | cons x r ih =>
    intro i j hd hj; subst hj
    obtain ⟨hx, hlt, hr⟩ := drop_cons hd
    obtain ⟨y, hy⟩ : ∃ y, b[i]? = some y := ⟨_, List.getElem?_eq_getElem (by omega)⟩
    have hd2 : b.drop i = y :: b.drop (i + 1) := by
      have := List.getElem?_eq_some_iff.1 hy
      rw [← this.2]; exact List.drop_eq_getElem_cons this.1
    have ih := ih (i + 1) (i + 1) hr (by omega)
    by_cases e : x = y
    · (rw [st_slices_Equal_gram_Sym_gram_Sym_l0]; simp (disch := first | assumption | omega | (simp; done) | (simp only [ByteArray.size_append]; omega)) [-getElem?_pos, -List.all_eq_true, -List.any_eq_true, -List.length_eq_zero_iff, -List.map_take, -List.map_drop, b_slices_Equal_gram_Sym_gram_Sym_l0, hx, hy, hd2, e, ih])
    · (rw [st_slices_Equal_gram_Sym_gram_Sym_l0]; simp (disch := first | assumption | omega | (simp; done) | (simp only [ByteArray.size_append]; omega)) [-getElem?_pos, -List.all_eq_true, -List.any_eq_true, -List.length_eq_zero_iff, -List.map_take, -List.map_drop, b_slices_Equal_gram_Sym_gram_Sym_l0, hx, hy, hd2, e])
@[simp] theorem sp_slices_Equal_gram_Sym_gram_Sym (a b : List Int) (ha : a.length ≤ 4611686018427387904) (hb : b.length ≤ 4611686018427387904) : lim mach lk f_slices_Equal_gram_Sym_gram_Sym [.sl (a.map (V.int .i64)) .no, .sl (b.map (V.int .i64)) .no] H = some (.bool (decide (a = b)), H) := by
  by_cases h : a.length = b.length
  · have hl := eq_l0_slices_Equal_gram_Sym_gram_Sym (lk := lk) (H := H) a b h ha a 0 0 rfl rfl
    rw [List.drop_zero] at hl
    by_cases e : a = b
    · rw [if_pos e] at hl; subst e; (rw [eq_slices_Equal_gram_Sym_gram_Sym]; simp (disch := first | assumption | omega | (simp; done) | (simp only [ByteArray.size_append]; omega)) [-getElem?_pos, -List.all_eq_true, -List.any_eq_true, -List.length_eq_zero_iff, -List.map_take, -List.map_drop, c_slices_Equal_gram_Sym_gram_Sym, hl])
    · rw [if_neg e] at hl; (rw [eq_slices_Equal_gram_Sym_gram_Sym]; simp (disch := first | assumption | omega | (simp; done) | (simp only [ByteArray.size_append]; omega)) [-getElem?_pos, -List.all_eq_true, -List.any_eq_true, -List.length_eq_zero_iff, -List.map_take, -List.map_drop, c_slices_Equal_gram_Sym_gram_Sym, hl, e])
  · have e : a ≠ b := fun e => h (by rw [e])
    (rw [eq_slices_Equal_gram_Sym_gram_Sym]; simp (disch := first | assumption | omega | (simp; done) | (simp only [ByteArray.size_append]; omega)) [-getElem?_pos, -List.all_eq_true, -List.any_eq_true, -List.length_eq_zero_iff, -List.map_take, -List.map_drop, c_slices_Equal_gram_Sym_gram_Sym, e])
theorem eq_l0_slices_Equal_int_int (a b : List Int) (h : a.length = b.length) (hb : a.length ≤ 4611686018427387904) : ∀ (r : List Int) (i : Nat) (j : Int), a.drop i = r → j = i → lp mach lk c_slices_Equal_int_int_l0 ⟨[(0, .sl (a.map (V.int .i64)) .no), (1, .sl (b.map (V.int .i64)) .no), (12, .int .i64 a.length), (13, .int .i64 j)], [], H⟩ = some (if r = b.drop i then (.exit 0, ⟨[], [], H⟩) else (.ret, ⟨[(4, .bool false)], [], H⟩)) := by
  intro r
  induction r with
  | nil =>
    intro i j hd hj; subst hj
    have := drop_nil hd
    have e : b.drop i = [] := List.drop_eq_nil_of_le (by omega)
    (rw [st_slices_Equal_int_int_l0]; simp (disch := first | assumption | omega | (simp; done) | (simp only [ByteArray.size_append]; omega)) [-getElem?_pos, -List.all_eq_true, -List.any_eq_true, -List.length_eq_zero_iff, -List.map_take, -List.map_drop, b_slices_Equal_int_int_l0, e])
  | cons x r ih =>
    intro i j hd hj; subst hj
    obtain ⟨hx, hlt, hr⟩ := drop_cons hd
    obtain ⟨y, hy⟩ : ∃ y, b[i]? = some y := ⟨_, List.getElem?_eq_getElem (by omega)⟩
    have hd2 : b.drop i = y :: b.drop (i + 1) := by
      have := List.getElem?_eq_some_iff.1 hy
      rw [← this.2]; exact List.drop_eq_getElem_cons this.1
    have ih := ih (i + 1) (i + 1) hr (by omega)
    by_cases e : x = y
    · (rw [st_slices_Equal_int_int_l0]; simp (disch := first | assumption | omega | (simp; done) | (simp only [ByteArray.size_append]; omega)) [-getElem?_pos, -List.all_eq_true, -List.any_eq_true, -List.length_eq_zero_iff, -List.map_take, -List.map_drop, b_slices_Equal_int_int_l0, hx, hy, hd2, e, ih])
    · (rw [st_slices_Equal_int_int_l0]; simp (disch := first | assumption | omega | (simp; done) | (simp only [ByteArray.size_append]; omega)) [-getElem?_pos, -List.all_eq_true, -List.any_eq_true, -List.length_eq_zero_iff, -List.map_take, -List.map_drop, b_slices_Equal_int_int_l0, hx, hy, hd2, e])
@[simp] theorem sp_slices_Equal_int_int (a b : List Int) (ha : a.length ≤ 4611686018427387904) (hb : b.length ≤ 4611686018427387904) : lim mach lk f_slices_Equal_int_int [.sl (a.map (V.int .i64)) .no, .sl (b.map (V.int .i64)) .no] H = some (.bool (decide (a = b)), H) := by
  by_cases h : a.length = b.length
  · have hl := eq_l0_slices_Equal_int_int (lk := lk) (H := H) a b h ha a 0 0 rfl rfl
    rw [List.drop_zero] at hl
    by_cases e : a = b
    · rw [if_pos e] at hl; subst e; (rw [eq_slices_Equal_int_int]; simp (disch := first | assumption | omega | (simp; done) | (simp only [ByteArray.size_append]; omega)) [-getElem?_pos, -List.all_eq_true, -List.any_eq_true, -List.length_eq_zero_iff, -List.map_take, -List.map_drop, c_slices_Equal_int_int, hl])
    · rw [if_neg e] at hl; (rw [eq_slices_Equal_int_int]; simp (disch := first | assumption | omega | (simp; done) | (simp only [ByteArray.size_append]; omega)) [-getElem?_pos, -List.all_eq_true, -List.any_eq_true, -List.length_eq_zero_iff, -List.map_take, -List.map_drop, c_slices_Equal_int_int, hl, e])
  · have e : a ≠ b := fun e => h (by rw [e])
    (rw [eq_slices_Equal_int_int]; simp (disch := first | assumption | omega | (simp; done) | (simp only [ByteArray.size_append]; omega)) [-getElem?_pos, -List.all_eq_true, -List.any_eq_true, -List.length_eq_zero_iff, -List.map_take, -List.map_drop, c_slices_Equal_int_int, e])
theorem eq_l0_slices_Equal_string_string (a b : List ByteArray) (h : a.length = b.length) (hb : a.length ≤ 4611686018427387904) : ∀ (r : List ByteArray) (i : Nat) (j : Int), a.drop i = r → j = i → lp mach lk c_slices_Equal_string_string_l0 ⟨[(0, .sl (a.map (V.str)) .no), (1, .sl (b.map (V.str)) .no), (12, .int .i64 a.length), (13, .int .i64 j)], [], H⟩ = some (if r = b.drop i then (.exit 0, ⟨[], [], H⟩) else (.ret, ⟨[(4, .bool false)], [], H⟩)) := by
  intro r
  induction r with
  | nil =>
    intro i j hd hj; subst hj
    have := drop_nil hd
    have e : b.drop i = [] := List.drop_eq_nil_of_le (by omega)
    (rw [st_slices_Equal_string_string_l0]; simp (disch := first | assumption | omega | (simp; done) | (simp only [ByteArray.size_append]; omega)) [-getElem?_pos, -List.all_eq_true, -List.any_eq_true, -List.length_eq_zero_iff, -List.map_take, -List.map_drop, b_slices_Equal_string_string_l0, e])
  | cons x r ih =>
    intro i j hd hj; subst hj
    obtain ⟨hx, hlt, hr⟩ := drop_cons hd
    obtain ⟨y, hy⟩ : ∃ y, b[i]? = some y := ⟨_, List.getElem?_eq_getElem (by omega)⟩
    have hd2 : b.drop i = y :: b.drop (i + 1) := by
      have := List.getElem?_eq_some_iff.1 hy
      rw [← this.2]; exact List.drop_eq_getElem_cons this.1
    have ih := ih (i + 1) (i + 1) hr (by omega)
    by_cases e : x = y
    · (rw [st_slices_Equal_string_string_l0]; simp (disch := first | assumption | omega | (simp; done) | (simp only [ByteArray.size_append]; omega)) [-getElem?_pos, -List.all_eq_true, -List.any_eq_true, -List.length_eq_zero_iff, -List.map_take, -List.map_drop, b_slices_Equal_string_string_l0, hx, hy, hd2, e, ih])
    · (rw [st_slices_Equal_string_string_l0]; simp (disch := first | assumption | omega | (simp; done) | (simp only [ByteArray.size_append]; omega)) [-getElem?_pos, -List.all_eq_true, -List.any_eq_true, -List.length_eq_zero_iff, -List.map_take, -List.map_drop, b_slices_Equal_string_string_l0, hx, hy, hd2, e])
@[simp] theorem sp_slices_Equal_string_string (a b : List ByteArray) (ha : a.length ≤ 4611686018427387904) (hb : b.length ≤ 4611686018427387904) : lim mach lk f_slices_Equal_string_string [.sl (a.map (V.str)) .no, .sl (b.map (V.str)) .no] H = some (.bool (decide (a = b)), H) := by
  by_cases h : a.length = b.length
  · have hl := eq_l0_slices_Equal_string_string (lk := lk) (H := H) a b h ha a 0 0 rfl rfl
    rw [List.drop_zero] at hl
    by_cases e : a = b
    · rw [if_pos e] at hl; subst e; (rw [eq_slices_Equal_string_string]; simp (disch := first | assumption | omega | (simp; done) | (simp only [ByteArray.size_append]; omega)) [-getElem?_pos, -List.all_eq_true, -List.any_eq_true, -List.length_eq_zero_iff, -List.map_take, -List.map_drop, c_slices_Equal_string_string, hl])
    · rw [if_neg e] at hl; (rw [eq_slices_Equal_string_string]; simp (disch := first | assumption | omega | (simp; done) | (simp only [ByteArray.size_append]; omega)) [-getElem?_pos, -List.all_eq_true, -List.any_eq_true, -List.length_eq_zero_iff, -List.map_take, -List.map_drop, c_slices_Equal_string_string, hl, e])
  · have e : a ≠ b := fun e => h (by rw [e])
    (rw [eq_slices_Equal_string_string]; simp (disch := first | assumption | omega | (simp; done) | (simp only [ByteArray.size_append]; omega)) [-getElem?_pos, -List.all_eq_true, -List.any_eq_true, -List.length_eq_zero_iff, -List.map_take, -List.map_drop, c_slices_Equal_string_string, e])
theorem rints_l0 (a b : List Int) (h : a.length = b.length) (hb : a.length ≤ 4611686018427387904) : ∀ (r : List Int) (i : Nat) (j : Int), a.drop i = r → j = i → lp mach lk c_ref12_ints_l0 ⟨[(0, (.sl (a.map (V.int .i64)) .no)), (1, (.sl (b.map (V.int .i64)) .no)), (5, .int .i64 j)], [], H⟩ = some (if r = b.drop i then (.exit 0, ⟨[], [], H⟩) else (.ret, ⟨[(4, .bool false)], [], H⟩)) := by
  intro r
  induction r with
  | nil =>
    intro i j hd hj; subst hj
    have := drop_nil hd
    have e : b.drop i = [] := List.drop_eq_nil_of_le (by omega)
    (rw [st_ref12_ints_l0]; simp (disch := first | assumption | omega | (simp; done) | (simp only [ByteArray.size_append]; omega)) [-getElem?_pos, -List.all_eq_true, -List.any_eq_true, -List.length_eq_zero_iff, -List.map_take, -List.map_drop, b_ref12_ints_l0, e])
  | cons x r ih =>
    intro i j hd hj; subst hj
    obtain ⟨hx, hlt, hr⟩ := drop_cons hd
    obtain ⟨y, hy⟩ : ∃ y, b[i]? = some y := ⟨_, List.getElem?_eq_getElem (by omega)⟩
    have hd2 : b.drop i = y :: b.drop (i + 1) := by
      have := List.getElem?_eq_some_iff.1 hy
      rw [← this.2]; exact List.drop_eq_getElem_cons this.1
    have ih := ih (i + 1) (i + 1) hr (by omega)
    by_cases e : x = y
    · (rw [st_ref12_ints_l0]; simp (disch := first | assumption | omega | (simp; done) | (simp only [ByteArray.size_append]; omega)) [-getElem?_pos, -List.all_eq_true, -List.any_eq_true, -List.length_eq_zero_iff, -List.map_take, -List.map_drop, b_ref12_ints_l0, hx, hy, hd2, e, ih])
    · (rw [st_ref12_ints_l0]; simp (disch := first | assumption | omega | (simp; done) | (simp only [ByteArray.size_append]; omega)) [-getElem?_pos, -List.all_eq_true, -List.any_eq_true, -List.length_eq_zero_iff, -List.map_take, -List.map_drop, b_ref12_ints_l0, hx, hy, hd2, e])
@[simp] theorem sp_rints (a b : List Int) (ha : a.length ≤ 4611686018427387904) (hb : b.length ≤ 4611686018427387904) : lim mach lk f_ref12_ints [(.sl (a.map (V.int .i64)) .no), (.sl (b.map (V.int .i64)) .no)] H = some (.bool (decide (a = b)), H) := by
  by_cases h : a.length = b.length
  · have hl := rints_l0 (lk := lk) (H := H) a b h ha a 0 0 rfl rfl
    rw [List.drop_zero] at hl
    by_cases e : a = b
    · rw [if_pos e] at hl; subst e; (rw [eq_ref12_ints]; simp (disch := first | assumption | omega | (simp; done) | (simp only [ByteArray.size_append]; omega)) [-getElem?_pos, -List.all_eq_true, -List.any_eq_true, -List.length_eq_zero_iff, -List.map_take, -List.map_drop, c_ref12_ints, hl])
    · rw [if_neg e] at hl; (rw [eq_ref12_ints]; simp (disch := first | assumption | omega | (simp; done) | (simp only [ByteArray.size_append]; omega)) [-getElem?_pos, -List.all_eq_true, -List.any_eq_true, -List.length_eq_zero_iff, -List.map_take, -List.map_drop, c_ref12_ints, hl, e])
  · have e : a ≠ b := fun e => h (by rw [e])
    (rw [eq_ref12_ints]; simp (disch := first | assumption | omega | (simp; done) | (simp only [ByteArray.size_append]; omega)) [-getElem?_pos, -List.all_eq_true, -List.any_eq_true, -List.length_eq_zero_iff, -List.map_take, -List.map_drop, c_ref12_ints, e])
theorem l12ints_l0 (l : List Int) (hl : l.length ≤ 500000000) : ∀ (r : List Int) (i : Nat) (j : Int), l.drop i = r → j = i → lp mach lk c_law12_ints_l0 ⟨[(3, .sl ((l.take i).map (V.int .i64)) (.own 15)), (6, (.sl (l.map (V.int .i64)) .no)), (7, .int .i64 l.length), (8, .int .i64 j)], [], H⟩ = some (.exit 0, ⟨[(3, (.sl (l.map (V.int .i64)) .no))], [], H⟩) := by
  intro r
  induction r with
  | nil =>
    intro i j h hj; subst hj
    have := drop_nil h
    rw [List.take_of_length_le this]
    (rw [st_law12_ints_l0]; simp (disch := first | assumption | omega | (simp; done) | (simp only [ByteArray.size_append]; omega)) [-getElem?_pos, -List.all_eq_true, -List.any_eq_true, -List.length_eq_zero_iff, -List.map_take, -List.map_drop, b_law12_ints_l0])
  | cons x r ih =>
    intro i j h hj; subst hj
    obtain ⟨hx, hlt, hr⟩ := drop_cons h
    have ih := ih (i + 1) (i + 1) hr (by omega)
    rw [List.take_add_one, hx] at ih
    simp only [Option.toList_some, List.map_append, List.map_cons, List.map_nil] at ih
    have hm : (l.take i).length ≤ i := List.length_take_le ..
    (rw [st_law12_ints_l0]; simp (disch := first | assumption | omega | (simp; done) | (simp only [ByteArray.size_append]; omega)) [-getElem?_pos, -List.all_eq_true, -List.any_eq_true, -List.length_eq_zero_iff, -List.map_take, -List.map_drop, b_law12_ints_l0, hx, appMost, ih])
@[simp] theorem sp_l12ints (l : List Int) (hl : l.length ≤ 500000000) : lim mach lk f_law12_ints [(.sl (l.map (V.int .i64)) .no)] H = some ((.sl (l.map (V.int .i64)) .no), H) := by
  have h := l12ints_l0 (lk := lk) (H := H) l hl l 0 0 rfl rfl
  simp only [List.take_zero, List.map_nil] at h
  (rw [eq_law12_ints]; simp (disch := first | assumption | omega | (simp; done) | (simp only [ByteArray.size_append]; omega)) [-getElem?_pos, -List.all_eq_true, -List.any_eq_true, -List.length_eq_zero_iff, -List.map_take, -List.map_drop, c_law12_ints, h])
theorem thas_l0 (g : Gram) (l : List Int) (hok : ∀ s ∈ l, -9223372036854775808 ≤ s) (hn : g.names.length ≤ 4611686018427387904) (ht : g.terms.length ≤ 4611686018427387904) (hl : l.length ≤ 4611686018427387904) : ∀ (r : List Int) (i : Nat) (j : Int), l.drop i = r → j = i → lp mach lk c_tmpl_has_l0 ⟨[(2, .ptr H.length 2 0), (7, (.sl (l.map (V.int .i64)) .no)), (8, .int .i64 l.length), (9, .int .i64 j)], [(2, .cells (encG g).cells)], H⟩ = some (if r.all (hasI g.names.length g.terms.length) = true then (.exit 0, ⟨[], [], H⟩) else (.ret, ⟨[(4, .bool false)], [], H⟩)) := by
  obtain ⟨ns, ts, st, rs⟩ := g
  simp only [encG, V.cells] at hn ht ⊢
  intro r
  induction r with
  | nil =>
    intro i j hd hj; subst hj
    have := drop_nil hd
    (rw [st_tmpl_has_l0]; simp (disch := first | assumption | omega | (simp; done) | (simp only [ByteArray.size_append]; omega)) [-getElem?_pos, -List.all_eq_true, -List.any_eq_true, -List.length_eq_zero_iff, -List.map_take, -List.map_drop, b_tmpl_has_l0])
  | cons x r ih =>
    intro i j hd hj; subst hj
    obtain ⟨hx, hlt, hr⟩ := drop_cons hd
    have hx0 := hok x (mem_drop hd)
    have ih := ih (i + 1) (i + 1) hr (by omega)
    have hp := fun (L : Tab) => sp_Place (lk := H.length + 1) (H := H ++ [L]) x hx0
    rw [List.all_cons]
    by_cases h0 : x < 0
    · by_cases h1 : -(ts.length : Int) ≤ x
      · have e : hasI ns.length ts.length x = true := by unfold hasI; rw [decide_eq_true_eq]; omega
        (rw [st_tmpl_has_l0]; simp (disch := first | assumption | omega | (simp; done) | (simp only [ByteArray.size_append]; omega)) [-getElem?_pos, -List.all_eq_true, -List.any_eq_true, -List.length_eq_zero_iff, -List.map_take, -List.map_drop, b_tmpl_has_l0, hx, hp, placeI, h0, e, ih])
      · have e : hasI ns.length ts.length x = false := by unfold hasI; rw [decide_eq_false_iff_not]; omega
        (rw [st_tmpl_has_l0]; simp (disch := first | assumption | omega | (simp; done) | (simp only [ByteArray.size_append]; omega)) [-getElem?_pos, -List.all_eq_true, -List.any_eq_true, -List.length_eq_zero_iff, -List.map_take, -List.map_drop, b_tmpl_has_l0, hx, hp, placeI, h0, e])
    · by_cases h1 : x < ns.length
      · have e : hasI ns.length ts.length x = true := by unfold hasI; rw [decide_eq_true_eq]; omega
        (rw [st_tmpl_has_l0]; simp (disch := first | assumption | omega | (simp; done) | (simp only [ByteArray.size_append]; omega)) [-getElem?_pos, -List.all_eq_true, -List.any_eq_true, -List.length_eq_zero_iff, -List.map_take, -List.map_drop, b_tmpl_has_l0, hx, hp, placeI, h0, e, ih])
      · have e : hasI ns.length ts.length x = false := by unfold hasI; rw [decide_eq_false_iff_not]; omega
        (rw [st_tmpl_has_l0]; simp (disch := first | assumption | omega | (simp; done) | (simp only [ByteArray.size_append]; omega)) [-getElem?_pos, -List.all_eq_true, -List.any_eq_true, -List.length_eq_zero_iff, -List.map_take, -List.map_drop, b_tmpl_has_l0, hx, hp, placeI, h0, e])
theorem sp_thas (g : Gram) (l : List Int) (hok : ∀ s ∈ l, -9223372036854775808 ≤ s) (hn : g.names.length ≤ 4611686018427387904) (ht : g.terms.length ≤ 4611686018427387904) (hl : l.length ≤ 4611686018427387904) : lim mach lk f_tmpl_has [encG g, (.sl (l.map (V.int .i64)) .no)] H = some (.bool (l.all (hasI g.names.length g.terms.length)), H) := by
  have h := thas_l0 (lk := lk) (H := H) g l hok hn ht hl l 0 0 rfl rfl
  obtain ⟨ns, ts, st, rs⟩ := g
  simp only [encG, V.cells] at h ⊢
  cases e : l.all (hasI ns.length ts.length) with
  | true => rw [e, if_pos rfl] at h; (rw [eq_tmpl_has]; simp (disch := first | assumption | omega | (simp; done) | (simp only [ByteArray.size_append]; omega)) [-getElem?_pos, -List.all_eq_true, -List.any_eq_true, -List.length_eq_zero_iff, -List.map_take, -List.map_drop, c_tmpl_has, h])
  | false => rw [e, if_neg (by simp)] at h; (rw [eq_tmpl_has]; simp (disch := first | assumption | omega | (simp; done) | (simp only [ByteArray.size_append]; omega)) [-getElem?_pos, -List.all_eq_true, -List.any_eq_true, -List.length_eq_zero_iff, -List.map_take, -List.map_drop, c_tmpl_has, h])
end Go.Proofs.YtlacnkjkcikodaaDoor.Am
end
section
set_option linter.unusedVariables false
set_option linter.unusedSimpArgs false
set_option maxHeartbeats 1000000
namespace Go.Proofs.YtlacnkjkcikodaaDoor.Am
open Go
variable {lk : Nat} {H : List Tab}
theorem items_l0 (hlk : lk ≤ H.length) (l : List Item) (hl : l.length ≤ 500000000) (hih : ∀ k n q, Item.mk k n q ∈ l → ∀ lk (H : List Tab), lk ≤ H.length → lim mach lk f_law12_Items [.sl (q.map encIt) .no] H = some (.sl (q.map encIt) .no, H)) : ∀ (r : List Item) (i : Nat) (j : Int), l.drop i = r → j = i → lp mach lk c_law12_Items_l0 ⟨[(3, .sl ((l.take i).map encIt) (.own 22)), (6, .sl (l.map encIt) .no), (7, .int .i64 l.length), (8, .int .i64 j)], [], H⟩ = some (.exit 0, ⟨[(3, .sl (l.map encIt) .no)], [], H⟩) := by
  intro r
  induction r with
  | nil =>
    intro i j h hj; subst hj
    have := drop_nil h
    rw [List.take_of_length_le this]
    (rw [st_law12_Items_l0]; simp (disch := first | assumption | omega | (simp; done) | (simp only [ByteArray.size_append]; omega)) [-getElem?_pos, -List.all_eq_true, -List.any_eq_true, -List.length_eq_zero_iff, -List.map_take, -List.map_drop, b_law12_Items_l0])
  | cons x r ih =>
    intro i j h hj; subst hj
    obtain ⟨hx, hlt, hr⟩ := drop_cons h
    have ih := ih (i + 1) (i + 1) hr (by omega)
    rw [List.take_add_one, hx] at ih
    obtain ⟨k, n, q⟩ := x
    have hc := fun (L : Tab) => hih k n q (mem_drop h) (H.length + 1) (H ++ [L]) (by simp)
    simp only [Option.toList_some, List.map_append, List.map_cons, List.map_nil, encIt_mk] at ih
    have hm : (l.take i).length ≤ i := List.length_take_le ..
    (rw [st_law12_Items_l0]; simp (disch := first | assumption | omega | (simp; done) | (simp only [ByteArray.size_append]; omega)) [-getElem?_pos, -List.all_eq_true, -List.any_eq_true, -List.length_eq_zero_iff, -List.map_take, -List.map_drop, b_law12_Items_l0, hx, appMost, hc, ih])
theorem sp_Items : ∀ (k : Nat) (l : List Item), itsSize l ≤ k → itsOk 500000000 l → l.length ≤ 500000000 → ∀ lk (H : List Tab), lk ≤ H.length → lim mach lk f_law12_Items [.sl (l.map encIt) .no] H = some (.sl (l.map encIt) .no, H) := by
  intro k
  induction k using Nat.strongRecOn with
  | ind k ih =>
    intro l hk hok hl lk H hlk
    have h := items_l0 (lk := lk) (H := H) hlk l hl (fun a n q hm lk H hlk => by
      have h1 := itsSize_mem hm
      have h2 := itsOk_iff.1 hok _ hm
      rw [Item.size] at h1
      rw [itOk] at h2
      exact ih (itsSize q) (by omega) q (Nat.le_refl _) h2.2 h2.1 lk H hlk) l 0 0 rfl rfl
    simp only [List.map_nil, List.take_zero] at h
    (rw [eq_law12_Items]; simp (disch := first | assumption | omega | (simp; done) | (simp only [ByteArray.size_append]; omega)) [-getElem?_pos, -List.all_eq_true, -List.any_eq_true, -List.length_eq_zero_iff, -List.map_take, -List.map_drop, c_law12_Items, h])
def OkS (s : Srt) : Prop := s.arg.length ≤ 140737488355328 ∧ s.res.length ≤ 140737488355328 ∧ (∀ x ∈ s.arg, -9223372036854775808 ≤ x) ∧ ∀ x ∈ s.res, -9223372036854775808 ≤ x
end Go.Proofs.YtlacnkjkcikodaaDoor.Am
end
section
set_option linter.unusedVariables false
set_option linter.unusedSimpArgs false
set_option maxHeartbeats 1000000
namespace Go.Proofs.YtlacnkjkcikodaaDoor.Am
open Go
variable {lk : Nat} {H : List Tab}
def jput (H : List Tab) (k s : Nat) (o : Ob) : List Tab := H.modify k fun t => t.set s o
section
variable {k s : Nat} {o o' : Ob} {L : Tab}
@[simp] theorem jput_len : (jput H k s o).length = H.length := by simp [jput]
theorem Tab.set_set (t : Tab) : (t.set s o).set s o' = t.set s o' := by
  induction t with
  | nil => simp [Tab.set]
  | cons p t ih =>
    obtain ⟨j, u⟩ := p
    by_cases e : s = j
    · subst e; simp [Tab.set]
    · simp [Tab.set, e, ih]
@[simp] theorem Tab.get_set_self (t : Tab) : (t.set s o).get s = some o := by rw [Tab.get_set_if, if_pos rfl]
theorem Tab.set_same {t : Tab} (h : t.get s = some o) : t.set s o = t := by
  induction t with
  | nil => simp [Tab.get] at h
  | cons p t ih =>
    obtain ⟨j, u⟩ := p
    by_cases e : s = j
    · subst e; simp [Tab.get] at h; subst h; simp [Tab.set]
    · simp [Tab.get, e] at h; simp [Tab.set, e, ih h]
@[simp] theorem jput_obj (h : k < H.length) : ((jput H k s o)[k]?).bind (fun t => t.get s) = some o := by
  unfold jput
  rw [List.getElem?_modify_eq, List.getElem?_eq_getElem h]
  simp [Tab.get_set_self]
@[simp] theorem jput_get (h : k < H.length) : (jput H k s o)[k]? = some ((H[k]'h).set s o) := by
  unfold jput
  rw [List.getElem?_modify_eq, List.getElem?_eq_getElem h]; rfl
@[simp] theorem jput_mod : (jput H k s o).modify k (fun t => t.set s o') = jput H k s o' := by
  unfold jput
  rw [List.modify_modify_eq]
  congr 1; funext t; exact Tab.set_set t
@[simp] theorem jput_jput : jput (jput H k s o) k s o' = jput H k s o' := jput_mod
@[simp] theorem jput_app (h : k < H.length) : jput H k s o ++ [L] = jput (H ++ [L]) k s o := by
  unfold jput
  refine List.ext_getElem? fun i => ?_
  rw [List.getElem?_modify]
  by_cases hi : i < H.length
  · rw [List.getElem?_append_left (by simpa using hi), List.getElem?_append_left hi, List.getElem?_modify]
  · rw [List.getElem?_append_right (by simpa using hi), List.getElem?_append_right (by omega), List.length_modify]
    have e : k ≠ i := by omega
    simp [e]
@[simp] theorem jput_last (h : k < H.length) : (jput (H ++ [L]) k s o).getLastD [] = L := by
  rw [← jput_app h]; exact getLast_snoc
@[simp] theorem jput_last2 (h : k < H.length) : (jput (H ++ [L]) k s o).getLast? = some L := by
  rw [← jput_app h, List.getLast?_append]; rfl
@[simp] theorem jput_drop (h : k < H.length) : (jput (H ++ [L]) k s o).dropLast = jput H k s o := by
  rw [← jput_app h]; exact List.dropLast_concat
theorem jput_at {t : Tab} (h : H[k]? = some t) (hg : t.get s = some o) : jput H k s o = H := by
  unfold jput
  refine List.ext_getElem? fun i => ?_
  rw [List.getElem?_modify]
  by_cases e : k = i
  · subst e; rw [h]; simp [Tab.set_same hg]
  · simp [e]
theorem jput_new {t : Tab} (hg : t.get s = some o) : jput (H ++ [t]) H.length s o = H ++ [t] := jput_at (by simp) hg
theorem jput_end {t : Tab} : jput (H ++ [t]) H.length s o = H ++ [t.set s o] := by
  unfold jput
  refine List.ext_getElem? fun i => ?_
  rw [List.getElem?_modify]
  rcases Nat.lt_trichotomy i H.length with h | h | h
  · have e : H.length ≠ i := by omega
    rw [List.getElem?_append_left h, List.getElem?_append_left h]; simp [e]
  · subst h; simp
  · rw [List.getElem?_eq_none (by simp; omega), List.getElem?_eq_none (by simp; omega)]; rfl
end
end Go.Proofs.YtlacnkjkcikodaaDoor.Am
end
section
set_option linter.unusedVariables false
set_option linter.unusedSimpArgs false
set_option maxHeartbeats 1000000
namespace Go.Proofs.YtlacnkjkcikodaaDoor.Am
open Go
variable {lk : Nat} {H : List Tab}
def encJ (t : Tbl) (r : Rule) (s : Srt) (c : List Int) : Ob := .cells [.sl (t.inn.names.map V.str) .no, .sl (t.inn.terms.map V.str) .no, .int .i64 t.inn.start, .sl (t.inn.rules.map encR) .no, .sl (t.out.names.map V.str) .no, .sl (t.out.terms.map V.str) .no, .int .i64 t.out.start, .sl (t.out.rules.map encR) .no, .sl (t.sorts.map encS) .no, .sl (t.rules.map encL) .no, .int .i64 r.left, .sl (r.right.map (V.int .i64)) .no, .bool s.takes, .sl (s.arg.map (V.int .i64)) .no, .sl (s.res.map (V.int .i64)) .no, .sl (c.map (V.int .i64)) .held]
structure JOk (t : Tbl) (r : Rule) (s : Srt) : Prop where
  rr : r.right.length ≤ 1000000
  rp : ∀ x ∈ r.right, -9223372036854775808 ≤ x ∧ x < t.sorts.length
  sl : t.sorts.length ≤ 1000000
  sk : ∀ x ∈ t.sorts, x.arg.length ≤ 1000000 ∧ x.res.length ≤ 1000000
  ss : s.arg.length ≤ 1000000 ∧ s.res.length ≤ 1000000
  il : t.inn.rules.length ≤ 1000000
  ir : ∀ x ∈ t.inn.rules, x.right.length ≤ 1000000
theorem getD_of {α : Type} {l : List α} {i : Nat} {x d : α} (h : l[i]? = some x) : l.getD i d = x := by rw [List.getD_eq_getElem?_getD, h]; rfl
theorem at_some {α : Type} {l : List α} {i : Nat} (h : i < l.length) : ∃ x, l[i]? = some x := ⟨_, List.getElem?_eq_getElem h⟩
variable {t : Tbl} {r : Rule} {s : Srt} {c : List Int} {k q : Nat} {H0 : List Tab}
theorem sp_kid (hlk : lk ≤ H0.length) (hk : k < H0.length) (hj : JOk t r s) (n : Int) : lim mach lk f_tmpl_judge_kid [.ptr k q 0, .int .i64 n] (jput H0 k q (encJ t r s c)) = some (.tup [.int .i64 (kidC t r n).1, encS (kidC t r n).2.1, .int .i64 (kidC t r n).2.2], jput H0 k q (encJ t r s c)) := by
  have h1 := hj.rr
  have h2 := hj.sl
  have hkl : ¬ (k = H0.length) := by omega
  unfold kidC encJ
  by_cases c0 : n < 0
  · (rw [eq_tmpl_judge_kid]; simp (disch := first | assumption | omega | (simp; done) | (simp only [ByteArray.size_append]; omega)) [-getElem?_pos, -List.all_eq_true, -List.any_eq_true, -List.length_eq_zero_iff, -List.map_take, -List.map_drop, c_tmpl_judge_kid, hk, hkl, c0])
  by_cases c1 : (r.right.length : Int) ≤ n
  · (rw [eq_tmpl_judge_kid]; simp (disch := first | assumption | omega | (simp; done) | (simp only [ByteArray.size_append]; omega)) [-getElem?_pos, -List.all_eq_true, -List.any_eq_true, -List.length_eq_zero_iff, -List.map_take, -List.map_drop, c_tmpl_judge_kid, hk, hkl, c0, c1])
  obtain ⟨i, rfl⟩ := Int.eq_ofNat_of_zero_le (Int.not_lt.1 c0)
  obtain ⟨x, hx⟩ := at_some (l := r.right) (i := i) (by omega)
  have hp := hj.rp x (List.mem_of_getElem? hx)
  have e := getD_of (d := 0) hx
  have h4 := fun (H : List Tab) => sp_Place (lk := H0.length + 1) (H := H) x hp.1
  by_cases c2 : x < 0
  · (rw [eq_tmpl_judge_kid]; simp (disch := first | assumption | omega | (simp; done) | (simp only [ByteArray.size_append]; omega)) [-getElem?_pos, -List.all_eq_true, -List.any_eq_true, -List.length_eq_zero_iff, -List.map_take, -List.map_drop, c_tmpl_judge_kid, hk, hkl, c0, c1, hx, e, c2])
  · obtain ⟨p, rfl⟩ := Int.eq_ofNat_of_zero_le (Int.not_lt.1 c2)
    obtain ⟨⟨b, a, m⟩, hy⟩ := at_some (l := t.sorts) (i := p) (by omega)
    have e2 := getD_of (d := ⟨false, [], []⟩) hy
    (rw [eq_tmpl_judge_kid]; simp (disch := first | assumption | omega | (simp; done) | (simp only [ByteArray.size_append]; omega)) [-getElem?_pos, -List.all_eq_true, -List.any_eq_true, -List.length_eq_zero_iff, -List.map_take, -List.map_drop, c_tmpl_judge_kid, hk, hkl, c0, c1, hx, e, c2, h4, placeI, hy, e2])
theorem sp_node (hlk : lk ≤ H0.length) (hk : k < H0.length) (hj : JOk t r s) (n : Int) (l : List Int) (hl : l.length ≤ 4611686018427387904) : lim mach lk f_tmpl_judge_node [.ptr k q 0, .int .i64 n, (.sl (l.map (V.int .i64)) .no)] (jput H0 k q (encJ t r s c)) = some (.tup [.sl ((nodeC t n l).1.map (V.int .i64)) .no, .int .i64 (nodeC t n l).2], jput H0 k q (encJ t r s c)) := by
  have h1 := hj.il
  have hkl : ¬ (k = H0.length) := by omega
  unfold nodeC encJ
  by_cases c0 : n < 0
  · (rw [eq_tmpl_judge_node]; simp (disch := first | assumption | omega | (simp; done) | (simp only [ByteArray.size_append]; omega)) [-getElem?_pos, -List.all_eq_true, -List.any_eq_true, -List.length_eq_zero_iff, -List.map_take, -List.map_drop, c_tmpl_judge_node, hk, hkl, c0])
  by_cases c1 : (t.inn.rules.length : Int) ≤ n
  · (rw [eq_tmpl_judge_node]; simp (disch := first | assumption | omega | (simp; done) | (simp only [ByteArray.size_append]; omega)) [-getElem?_pos, -List.all_eq_true, -List.any_eq_true, -List.length_eq_zero_iff, -List.map_take, -List.map_drop, c_tmpl_judge_node, hk, hkl, c0, c1])
  obtain ⟨i, rfl⟩ := Int.eq_ofNat_of_zero_le (Int.not_lt.1 c0)
  obtain ⟨⟨a, m⟩, hx⟩ := at_some (l := t.inn.rules) (i := i) (by omega)
  have hm := hj.ir _ (List.mem_of_getElem? hx)
  simp only at hm
  have e := getD_of (d := ⟨0, []⟩) hx
  have h3 := fun (H : List Tab) => sp_slices_Equal_gram_Sym_gram_Sym (lk := H0.length + 1) (H := H) m l (by omega) hl
  by_cases c2 : m = l
  · (rw [eq_tmpl_judge_node]; simp (disch := first | assumption | omega | (simp; done) | (simp only [ByteArray.size_append]; omega)) [-getElem?_pos, -List.all_eq_true, -List.any_eq_true, -List.length_eq_zero_iff, -List.map_take, -List.map_drop, c_tmpl_judge_node, hk, hkl, c0, c1, hx, e, c2, h3])
  · (rw [eq_tmpl_judge_node]; simp (disch := first | assumption | omega | (simp; done) | (simp only [ByteArray.size_append]; omega)) [-getElem?_pos, -List.all_eq_true, -List.any_eq_true, -List.length_eq_zero_iff, -List.map_take, -List.map_drop, c_tmpl_judge_node, hk, hkl, c0, c1, hx, e, c2, h3])
end Go.Proofs.YtlacnkjkcikodaaDoor.Am
end
section
set_option linter.unusedVariables false
set_option linter.unusedSimpArgs false
set_option maxHeartbeats 1000000
namespace Go.Proofs.YtlacnkjkcikodaaDoor.Am
open Go
variable {lk : Nat} {H : List Tab}
variable {t : Tbl} {r : Rule} {s : Srt} {k q : Nat}
theorem allC_c (t : Tbl) (r : Rule) (s : Srt) : ∀ (l : List Item) (d : Nat) (out c : List Int), allC t r s l d out c = ((allC t r s l d out []).1, (allC t r s l d out []).2.1, c ++ (allC t r s l d out []).2.2)
  | [], d, out, c => by simp [allC]
  | x :: l, d, out, c => by
    rw [allC, allC]
    split
    · rw [List.nil_append]
    · rw [allC_c t r s l d _ (c ++ _), allC_c t r s l d _ ([] ++ _)]; simp [List.append_assoc]
theorem one_len (hj : JOk t r s) : ∀ (n : Nat) (x : Item) (d : Nat), x.size ≤ n → (hb : s.arg.length ≤ 6000 ∧ s.res.length ≤ 6000 ∧ ∀ y ∈ t.sorts, y.arg.length ≤ 6000 ∧ y.res.length ≤ 6000) → (oneC t r s x d).1.length ≤ 6000 ∧ (oneC t r s x d).2.2.length ≤ x.size
  | 0, .mk a m l, d, h, _ => by simp [Item.size] at h
  | n + 1, .mk a m l, d, h, hb => by
    have hs : ∀ i, (t.sorts.getD i ⟨false, [], []⟩).res.length ≤ 6000 := fun i => by
      cases hy : t.sorts[i]? with
      | none => rw [List.getD_eq_getElem?_getD, hy]; simp
      | some y => rw [getD_of hy]; exact (hb.2.2 y (List.mem_of_getElem? hy)).2
    have hkid : (kidC t r m).2.1.res.length ≤ 6000 := by
      unfold kidC
      split
      · simp
      · dsimp only
        split
        · simp
        · exact hs _
    have hall : ∀ (l : List Item) (out c : List Int), itsSize l ≤ n → (allC t r s l (d + 1) out c).2.2.length ≤ c.length + itsSize l := by
      intro l
      induction l with
      | nil => intro out c _; simp [allC, itsSize]
      | cons y l ih =>
        intro out c hl
        rw [itsSize] at hl
        have h1 := (one_len hj n y (d + 1) (by omega) hb).2
        rw [allC, itsSize]
        split
        · simp only [List.length_append]; omega
        · have := ih (out ++ (oneC t r s y (d + 1)).1) (c ++ (oneC t r s y (d + 1)).2.2) (by omega)
          simp only [List.length_append] at this
          omega
    rw [Item.size] at h ⊢
    have h2 := hall l [] [] (by omega)
    simp only [List.length_nil] at h2
    rw [oneC]
    split
    · split <;> simp <;> omega
    split
    · split <;> simp <;> omega
    split
    · simp
    split
    · simp
    simp only
    split
    · refine ⟨by simp, ?_⟩
      show (allC t r s l (d + 1) [] []).2.2.length ≤ 1 + itsSize l
      omega
    split
    · refine ⟨?_, Nat.le_trans h2 (by omega)⟩
      unfold nodeC
      split
      · simp
      · simp only; split <;> simp
    · have : (callC t r m (allC t r s l (d + 1) [] []).1).1.length ≤ 6000 ∧ (callC t r m (allC t r s l (d + 1) [] []).1).2.2.length ≤ 1 := by
        unfold callC
        simp only
        split
        · simp
        · split
          · simp
          · exact ⟨hkid, by simp⟩
      refine ⟨this.1, ?_⟩
      have e : ∀ a b : List Int, (a ++ b).length = a.length + b.length := fun a b => List.length_append
      refine Nat.le_trans (Nat.le_of_eq (e _ _)) ?_
      omega
def OneSays (t : Tbl) (r : Rule) (s : Srt) (k q : Nat) (x : Item) (d : Nat) : Prop := ∀ (lk : Nat) (H0 : List Tab) (c : List Int), lk ≤ k → k < H0.length → c.length + x.size ≤ 1000000 → lim mach lk f_tmpl_judge_one [.ptr k q 0, encIt x, .int .i64 d] (jput H0 k q (encJ t r s c)) = some (.tup [.sl ((oneC t r s x d).1.map (V.int .i64)) .no, .int .i64 (oneC t r s x d).2.1], jput H0 k q (encJ t r s (c ++ (oneC t r s x d).2.2)))
def JB (t : Tbl) (s : Srt) : Prop := s.arg.length ≤ 6000 ∧ s.res.length ≤ 6000 ∧ ∀ y ∈ t.sorts, y.arg.length ≤ 6000 ∧ y.res.length ≤ 6000
theorem all_l0 {H0 : List Tab} (hlk : lk ≤ k) (hk : k < H0.length) (hj : JOk t r s) (hb : JB t s) (l : List Item) (hl : l.length ≤ 1000000) (d : Nat) (hone : ∀ x ∈ l, OneSays t r s k q x d) : ∀ (m : List Item) (i : Nat) (j : Int) (out c : List Int), l.drop i = m → j = i → c.length + itsSize m ≤ 1000000 → out.length + 6000 * m.length ≤ 1000000000 → lp mach lk c_tmpl_judge_all_l0 ⟨[(0, .ptr k q 0), (2, .int .i64 d), (8, .sl (out.map (V.int .i64)) (.own 38)), (20, .sl (l.map encIt) .no), (21, .int .i64 l.length), (22, .int .i64 j)], [], jput H0 k q (encJ t r s c)⟩ = some (if (allC t r s m d out c).2.1 ≠ 0 then (.ret, ⟨[(6, .sl [] .no), (7, .int .i64 (allC t r s m d out c).2.1)], [], jput H0 k q (encJ t r s (allC t r s m d out c).2.2)⟩) else (.exit 0, ⟨[(8, .sl ((allC t r s m d out c).1.map (V.int .i64)) .no)], [], jput H0 k q (encJ t r s (allC t r s m d out c).2.2)⟩)) := by
  intro m
  induction m with
  | nil =>
    intro i j out c hd hj hc ho; subst hj
    have := drop_nil hd
    (rw [st_tmpl_judge_all_l0]; simp (disch := first | assumption | omega | (simp; done) | (simp only [ByteArray.size_append]; omega)) [-getElem?_pos, -List.all_eq_true, -List.any_eq_true, -List.length_eq_zero_iff, -List.map_take, -List.map_drop, b_tmpl_judge_all_l0, allC])
  | cons x m ih =>
    intro i j out c hd hj2 hc ho; subst hj2
    obtain ⟨hx, hlt, hr⟩ := drop_cons hd
    rw [itsSize] at hc
    simp only [List.length_cons] at ho
    have hx1 := fun (L : Tab) => hone x (mem_drop hd) lk (H0 ++ [L]) c hlk (by simp; omega) (by omega)
    have hlen := one_len hj x.size x d (Nat.le_refl _) hb
    have ih := ih (i + 1) (i + 1) (out ++ (oneC t r s x d).1) (c ++ (oneC t r s x d).2.2) hr (by omega) (by simp only [List.length_append]; omega) (by simp only [List.length_append]; omega)
    rw [allC]
    generalize oneC t r s x d = R at *
    obtain ⟨sg, e, cc⟩ := R
    simp only at hx1 hlen ih ⊢
    have hxe : ∃ a b g, x = .mk a b g := by cases x; exact ⟨_, _, _, rfl⟩
    obtain ⟨a, b, g, rfl⟩ := hxe
    rw [encIt_mk] at hx1
    by_cases he : e = 0
    · subst he
      simp only [List.map_append] at ih
      (rw [st_tmpl_judge_all_l0]; simp (disch := first | assumption | omega | (simp; done) | (simp only [ByteArray.size_append]; omega)) [-getElem?_pos, -List.all_eq_true, -List.any_eq_true, -List.length_eq_zero_iff, -List.map_take, -List.map_drop, b_tmpl_judge_all_l0, hx, hx1, hk, ih, appMost])
    · (rw [st_tmpl_judge_all_l0]; simp (disch := first | assumption | omega | (simp; done) | (simp only [ByteArray.size_append]; omega)) [-getElem?_pos, -List.all_eq_true, -List.any_eq_true, -List.length_eq_zero_iff, -List.map_take, -List.map_drop, b_tmpl_judge_all_l0, hx, hx1, hk, he, appMost])
theorem sp_all {H0 : List Tab} (hlk : lk ≤ k) (hk : k < H0.length) (hj : JOk t r s) (hb : JB t s) (l : List Item) (hl : l.length ≤ 100000) (d : Nat) (hd : d ≤ 65) (hone : d ≤ 64 → ∀ x ∈ l, OneSays t r s k q x d) (c : List Int) (hc : c.length + itsSize l ≤ 1000000) : lim mach lk f_tmpl_judge_all [.ptr k q 0, .sl (l.map encIt) .no, .int .i64 d] (jput H0 k q (encJ t r s c)) = some (if 64 < d ∧ l ≠ [] then (.tup [.sl [] .no, .int .i64 4], jput H0 k q (encJ t r s c)) else (.tup [.sl ((allC t r s l d [] c).1.map (V.int .i64)) .no, .int .i64 (allC t r s l d [] c).2.1], jput H0 k q (encJ t r s (allC t r s l d [] c).2.2))) := by
  have h := all_l0 (q := q) hlk hk hj hb l (by omega) d
  by_cases h0 : 64 < d
  · cases l with
    | nil =>
      have h := h (fun x hx => by cases hx) [] 0 0 [] c rfl rfl hc (by simp)
      simp only [allC, List.map_nil, List.length_nil, Int.natCast_zero] at h
      rw [if_neg (by simp)]; (rw [eq_tmpl_judge_all]; simp (disch := first | assumption | omega | (simp; done) | (simp only [ByteArray.size_append]; omega)) [-getElem?_pos, -List.all_eq_true, -List.any_eq_true, -List.length_eq_zero_iff, -List.map_take, -List.map_drop, c_tmpl_judge_all, h0, h, allC])
    | cons x l => rw [if_pos ⟨h0, by simp⟩]; (rw [eq_tmpl_judge_all]; simp (disch := first | assumption | omega | (simp; done) | (simp only [ByteArray.size_append]; omega)) [-getElem?_pos, -List.all_eq_true, -List.any_eq_true, -List.length_eq_zero_iff, -List.map_take, -List.map_drop, c_tmpl_judge_all, h0])
  · rw [if_neg (by omega)]
    have h := h (hone (by omega)) l 0 0 [] c rfl rfl hc (by simp; omega)
    simp only [List.map_nil] at h
    by_cases e : (allC t r s l d [] c).2.1 = 0
    · rw [e, if_neg (by simp)] at h; rw [e]
      (rw [eq_tmpl_judge_all]; simp (disch := first | assumption | omega | (simp; done) | (simp only [ByteArray.size_append]; omega)) [-getElem?_pos, -List.all_eq_true, -List.any_eq_true, -List.length_eq_zero_iff, -List.map_take, -List.map_drop, c_tmpl_judge_all, h0, h])
    · rw [if_pos e] at h
      have e1 : ∀ (l : List Item) (out c : List Int), (allC t r s l d out c).2.1 ≠ 0 → (allC t r s l d out c).1 = [] := by
        intro l
        induction l with
        | nil => intro out c h; simp [allC] at h
        | cons x l ih =>
          intro out c h
          rw [allC] at h ⊢
          split
          · rfl
          · rename_i h1; rw [if_neg h1] at h; exact ih _ _ h
      have e2 := e1 l [] c e
      rw [e2]
      (rw [eq_tmpl_judge_all]; simp (disch := first | assumption | omega | (simp; done) | (simp only [ByteArray.size_append]; omega)) [-getElem?_pos, -List.all_eq_true, -List.any_eq_true, -List.length_eq_zero_iff, -List.map_take, -List.map_drop, c_tmpl_judge_all, h0, h])
theorem sp_one (hj : JOk t r s) (hb : JB t s) (hk3 : ∀ x : Item, x.size ≤ 100000 → True) : ∀ (n : Nat) (x : Item) (d : Nat), x.size ≤ n → n ≤ 100000 → d ≤ 64 → OneSays t r s k q x d
  | 0, .mk a m l, d, h, _, _ => by simp [Item.size] at h
  | n + 1, .mk a m l, d, h, hn, hd => by
    intro lk H0 c hlk hk hc
    rw [Item.size] at h hc
    have hkl : ¬ (k = H0.length) := by omega
    have hlk2 : lk ≤ H0.length := by omega
    have h1 := fun (L : Tab) => sp_kid (t := t) (r := r) (s := s) (c := c) (q := q) (lk := H0.length + 1) (k := k) (H0 := H0 ++ [L]) (by simp) (by simp; omega) hj m
    rw [encIt_mk, oneC]
    by_cases c2 : a = 2
    · rw [if_pos c2]
      cases e : s.takes with
      | true => simp only [encJ]; (rw [eq_tmpl_judge_one]; simp (disch := first | assumption | omega | (simp; done) | (simp only [ByteArray.size_append]; omega)) [-getElem?_pos, -List.all_eq_true, -List.any_eq_true, -List.length_eq_zero_iff, -List.map_take, -List.map_drop, c_tmpl_judge_one, hk, hkl, c2, e, appMost])
      | false => simp only [encJ]; (rw [eq_tmpl_judge_one]; simp (disch := first | assumption | omega | (simp; done) | (simp only [ByteArray.size_append]; omega)) [-getElem?_pos, -List.all_eq_true, -List.any_eq_true, -List.length_eq_zero_iff, -List.map_take, -List.map_drop, c_tmpl_judge_one, hk, hkl, c2, e, appMost])
    rw [if_neg c2]
    by_cases c1 : a = 1
    · rw [if_pos c1]
      generalize kidC t r m = K at *
      obtain ⟨sg, ⟨tk, ar, re⟩, e⟩ := K
      simp only [encJ] at h1 ⊢
      by_cases e0 : e = 0
      · cases tk with
        | true => rw [if_pos ⟨e0, rfl⟩]; subst e0; (rw [eq_tmpl_judge_one]; simp (disch := first | assumption | omega | (simp; done) | (simp only [ByteArray.size_append]; omega)) [-getElem?_pos, -List.all_eq_true, -List.any_eq_true, -List.length_eq_zero_iff, -List.map_take, -List.map_drop, c_tmpl_judge_one, hk, hkl, c1, h1, appMost])
        | false => rw [if_neg (by simp)]; subst e0; (rw [eq_tmpl_judge_one]; simp (disch := first | assumption | omega | (simp; done) | (simp only [ByteArray.size_append]; omega)) [-getElem?_pos, -List.all_eq_true, -List.any_eq_true, -List.length_eq_zero_iff, -List.map_take, -List.map_drop, c_tmpl_judge_one, hk, hkl, c1, h1, appMost])
      · rw [if_neg (by simp [e0])]; (rw [eq_tmpl_judge_one]; simp (disch := first | assumption | omega | (simp; done) | (simp only [ByteArray.size_append]; omega)) [-getElem?_pos, -List.all_eq_true, -List.any_eq_true, -List.length_eq_zero_iff, -List.map_take, -List.map_drop, c_tmpl_judge_one, hk, hkl, c1, h1, e0, appMost])
    rw [if_neg c1]
    by_cases c3 : a ≠ 0 ∧ a ≠ 3
    · rw [if_pos c3]
      (rw [eq_tmpl_judge_one]; simp (disch := first | assumption | omega | (simp; done) | (simp only [ByteArray.size_append]; omega)) [-getElem?_pos, -List.all_eq_true, -List.any_eq_true, -List.length_eq_zero_iff, -List.map_take, -List.map_drop, c_tmpl_judge_one, hk, hkl, c1, c2, c3])
    rw [if_neg c3]
    have hll : l.length ≤ itsSize l := by
      have : ∀ l : List Item, l.length ≤ itsSize l := fun l => by
        induction l with
        | nil => simp [itsSize]
        | cons x l ih => obtain ⟨_, _, _⟩ := x; rw [itsSize, Item.size]; simp only [List.length_cons]; omega
      exact this l
    have hA := fun (L : Tab) => sp_all (t := t) (r := r) (s := s) (k := k) (q := q) (lk := lk) (H0 := H0 ++ [L]) hlk (by simp; omega) hj hb l (by omega) (d + 1) (by omega) (fun hd x hx => sp_one hj hb hk3 n x (d + 1) (by have := itsSize_mem hx; omega) (by omega) hd) c (by omega)
    by_cases c4 : 64 < d + 1 ∧ l ≠ []
    · rw [if_pos c4]
      simp only [if_pos c4] at hA
      simp only [Int.natCast_add, Int.cast_ofNat_Int] at hA
      by_cases e0 : a = 0
      · (rw [eq_tmpl_judge_one]; simp (disch := first | assumption | omega | (simp; done) | (simp only [ByteArray.size_append]; omega)) [-getElem?_pos, -List.all_eq_true, -List.any_eq_true, -List.length_eq_zero_iff, -List.map_take, -List.map_drop, c_tmpl_judge_one, hk, hkl, c1, c2, e0, hA])
      · obtain rfl : a = 3 := by omega
        (rw [eq_tmpl_judge_one]; simp (disch := first | assumption | omega | (simp; done) | (simp only [ByteArray.size_append]; omega)) [-getElem?_pos, -List.all_eq_true, -List.any_eq_true, -List.length_eq_zero_iff, -List.map_take, -List.map_drop, c_tmpl_judge_one, hk, hkl, hA])
    rw [if_neg c4]
    simp only [if_neg c4] at hA
    rw [allC_c t r s l (d + 1) [] c] at hA
    have hN := fun (L : Tab) (c : List Int) (l : List Int) (hl : l.length ≤ 4611686018427387904) => sp_node (t := t) (r := r) (s := s) (c := c) (q := q) (lk := H0.length + 1) (k := k) (H0 := H0 ++ [L]) (by simp) (by simp; omega) hj m l hl
    have hK := fun (L : Tab) (c : List Int) => sp_kid (t := t) (r := r) (s := s) (c := c) (q := q) (lk := H0.length + 1) (k := k) (H0 := H0 ++ [L]) (by simp) (by simp; omega) hj m
    have hAl : (allC t r s l (d + 1) [] []).1.length ≤ 1000000000 := by
      have : ∀ (l : List Item) (out c : List Int), itsSize l ≤ n → (allC t r s l (d + 1) out c).1.length ≤ out.length + 6000 * l.length := by
        intro l
        induction l with
        | nil => intro out c _; simp [allC]
        | cons y l ih =>
          intro out c hl
          rw [itsSize] at hl
          have h1 := (one_len hj n y (d + 1) (by omega) hb).1
          rw [allC]
          split
          · simp
          · have := ih (out ++ (oneC t r s y (d + 1)).1) (c ++ (oneC t r s y (d + 1)).2.2) (by omega)
            simp only [List.length_append, List.length_cons] at this ⊢
            omega
      have := this l [] [] (by omega)
      simp only [List.length_nil] at this
      omega
    have hAc : (allC t r s l (d + 1) [] []).2.2.length ≤ itsSize l := by
      have : ∀ (l : List Item) (out c : List Int), itsSize l ≤ n → (allC t r s l (d + 1) out c).2.2.length ≤ c.length + itsSize l := by
        intro l
        induction l with
        | nil => intro out c _; simp [allC, itsSize]
        | cons y l ih =>
          intro out c hl
          rw [itsSize] at hl
          have h1 := (one_len hj n y (d + 1) (by omega) hb).2
          rw [allC, itsSize]
          split
          · simp only [List.length_append]; omega
          · have := ih (out ++ (oneC t r s y (d + 1)).1) (c ++ (oneC t r s y (d + 1)).2.2) (by omega)
            simp only [List.length_append] at this
            omega
      have := this l [] [] (by omega)
      simpa using this
    generalize allC t r s l (d + 1) [] [] = A at *
    obtain ⟨A1, A2, A3⟩ := A
    simp only at hA hAl hAc ⊢
    simp only [Int.natCast_add, Int.cast_ofNat_Int] at hA
    by_cases e2 : A2 = 0
    · rw [if_neg (by simp [e2])]
      subst e2
      have hN := fun (L : Tab) => hN L (c ++ A3) A1 (by omega)
      have hK := fun (L : Tab) => hK L (c ++ A3)
      by_cases e0 : a = 0
      · rw [if_pos e0]
        generalize nodeC t m A1 = NN at *
        obtain ⟨N1, N2⟩ := NN
        subst e0
        simp only [encJ, List.map_append] at hA hN ⊢
        (rw [eq_tmpl_judge_one]; simp (disch := first | assumption | omega | (simp; done) | (simp only [ByteArray.size_append]; omega)) [-getElem?_pos, -List.all_eq_true, -List.any_eq_true, -List.length_eq_zero_iff, -List.map_take, -List.map_drop, c_tmpl_judge_one, hk, hkl, hA, hN])
      · rw [if_neg e0]
        obtain rfl : a = 3 := by omega
        unfold callC
        have hse : (kidC t r m).2.2 = 0 → ¬ (kidC t r m).1 < 0 → (kidC t r m).2.1.arg.length ≤ 1000000 := by
          unfold kidC
          split
          · intro h; simp at h
          · dsimp only
            split
            · intro _ h; exact absurd (by assumption) h
            · intro _ _
              cases hy : t.sorts[(r.right.getD m.toNat 0).toNat]? with
              | none => rw [List.getD_eq_getElem?_getD (l := t.sorts), hy]; simp
              | some y => rw [getD_of hy]; exact (hj.sk y (List.mem_of_getElem? hy)).1
        generalize kidC t r m = K at *
        obtain ⟨sg, ⟨tk, ar, re⟩, e⟩ := K
        simp only at hse
        simp only [encJ, List.map_append] at hA hK ⊢
        by_cases e3 : e = 0
        · subst e3
          rw [if_neg (by simp)]
          by_cases e4 : sg < 0
          · rw [if_pos (.inl e4)]
            (rw [eq_tmpl_judge_one]; simp (disch := first | assumption | omega | (simp; done) | (simp only [ByteArray.size_append]; omega)) [-getElem?_pos, -List.all_eq_true, -List.any_eq_true, -List.length_eq_zero_iff, -List.map_take, -List.map_drop, c_tmpl_judge_one, hk, hkl, hA, hK, e4])
          · have hse := hse rfl e4
            cases tk with
            | false => rw [if_pos (.inr (.inl rfl))]; (rw [eq_tmpl_judge_one]; simp (disch := first | assumption | omega | (simp; done) | (simp only [ByteArray.size_append]; omega)) [-getElem?_pos, -List.all_eq_true, -List.any_eq_true, -List.length_eq_zero_iff, -List.map_take, -List.map_drop, c_tmpl_judge_one, hk, hkl, hA, hK, e4])
            | true =>
              have hE := fun (H : List Tab) => sp_slices_Equal_gram_Sym_gram_Sym (lk := H0.length + 1) (H := H) A1 ar (by omega) (by omega)
              by_cases e5 : A1 = ar
              · rw [if_neg (by simp [e4, e5])]; (rw [eq_tmpl_judge_one]; simp (disch := first | assumption | omega | (simp; done) | (simp only [ByteArray.size_append]; omega)) [-getElem?_pos, -List.all_eq_true, -List.any_eq_true, -List.length_eq_zero_iff, -List.map_take, -List.map_drop, c_tmpl_judge_one, hk, hkl, hA, hK, e4, hE, e5, appMost])
              · rw [if_pos (.inr (.inr e5))]; (rw [eq_tmpl_judge_one]; simp (disch := first | assumption | omega | (simp; done) | (simp only [ByteArray.size_append]; omega)) [-getElem?_pos, -List.all_eq_true, -List.any_eq_true, -List.length_eq_zero_iff, -List.map_take, -List.map_drop, c_tmpl_judge_one, hk, hkl, hA, hK, e4, hE, e5])
        · rw [if_pos e3]
          (rw [eq_tmpl_judge_one]; simp (disch := first | assumption | omega | (simp; done) | (simp only [ByteArray.size_append]; omega)) [-getElem?_pos, -List.all_eq_true, -List.any_eq_true, -List.length_eq_zero_iff, -List.map_take, -List.map_drop, c_tmpl_judge_one, hk, hkl, hA, hK, e3])
    · rw [if_pos e2]
      by_cases e0 : a = 0
      · subst e0; (rw [eq_tmpl_judge_one]; simp (disch := first | assumption | omega | (simp; done) | (simp only [ByteArray.size_append]; omega)) [-getElem?_pos, -List.all_eq_true, -List.any_eq_true, -List.length_eq_zero_iff, -List.map_take, -List.map_drop, c_tmpl_judge_one, hk, hkl, hA, e2])
      · obtain rfl : a = 3 := by omega
        (rw [eq_tmpl_judge_one]; simp (disch := first | assumption | omega | (simp; done) | (simp only [ByteArray.size_append]; omega)) [-getElem?_pos, -List.all_eq_true, -List.any_eq_true, -List.length_eq_zero_iff, -List.map_take, -List.map_drop, c_tmpl_judge_one, hk, hkl, hA, e2])
end Go.Proofs.YtlacnkjkcikodaaDoor.Am
end
section
set_option linter.unusedVariables false
set_option linter.unusedSimpArgs false
set_option maxHeartbeats 1000000
namespace Go.Proofs.YtlacnkjkcikodaaDoor.Am
open Go
variable {lk : Nat} {H : List Tab}
structure Met where
  a : Int
  chain : List Int
  deriving DecidableEq, Inhabited
def encMt (m : Met) : V := .agg [.int .i64 m.a, .sl (m.chain.map (V.int .i64)) .no]
theorem szOK_Mt {q : List Met} : szOK 2 (q.map encMt) = true := szOK_map fun _ => rfl
attribute [simp] encMt szOK_Mt
theorem nodupN : ∀ (n : Nat) (L : List Nat), L.Nodup → (∀ x ∈ L, x < n) → L.length ≤ n := by
  intro n
  induction n with
  | zero =>
    intro L _ h
    cases L with
    | nil => simp
    | cons a L => exact absurd (h a (by simp)) (by omega)
  | succ n ih =>
    intro L hd h
    have h1 := ih (L.erase n) (hd.erase n) (fun x hx => by
      have := h x (List.mem_of_mem_erase hx)
      have hne : x ≠ n := fun e => by subst e; exact hd.not_mem_erase hx
      omega)
    have h2 := List.length_erase (a := n) (l := L)
    split at h2 <;> omega
theorem nodupI {n : Nat} {L : List Int} (h : L.Nodup) (hr : ∀ x ∈ L, 0 ≤ x ∧ x < n) : L.length ≤ n := by
  have := nodupN n (L.map Int.toNat) (by
    rw [List.nodup_iff_pairwise_ne, List.pairwise_map]
    refine List.Pairwise.imp_of_mem ?_ h
    intro a b ha hb hne e
    have := hr a ha; have := hr b hb
    omega) (fun x hx => by
    obtain ⟨y, hy, rfl⟩ := List.mem_map.1 hx
    have := hr y hy; omega)
  simpa using this
structure WInv (n : Nat) (out : List Met) : Prop where
  nd : (out.map Met.a).Nodup
  rg : ∀ m ∈ out, 0 ≤ m.a ∧ m.a < n
  ch : ∀ m ∈ out, m.chain.length < out.length
theorem WInv.len {n : Nat} {out : List Met} (h : WInv n out) : out.length ≤ n := by
  have := nodupI h.nd fun x hx => by
    obtain ⟨m, hm, rfl⟩ := List.mem_map.1 hx
    exact h.rg m hm
  simpa using this
theorem WInv.one {n : Nat} {a : Int} (h : 0 ≤ a ∧ a < n) : WInv n [⟨a, []⟩] := ⟨by simp, fun m hm => by obtain rfl := List.mem_singleton.1 hm; exact h, fun m hm => by obtain rfl := List.mem_singleton.1 hm; simp⟩
theorem rulesF_none {n m : Nat} : ∀ {rs : List Rule}, rulesF n m rs = none → ∀ r ∈ rs, ruleC n m r = 0
  | r :: l, h, x, hx => by
    simp only [rulesF] at h
    split at h
    · rename_i h0
      rcases List.mem_cons.1 hx with rfl | hx
      · exact h0
      · exact rulesF_none h x hx
    · cases h
theorem check0 {g : Gram} (h : checkC g = 0) : (∀ r ∈ g.rules, ruleC g.names.length g.terms.length r = 0) ∧ 0 ≤ g.start ∧ g.start < g.names.length ∧ g.rules.Nodup ∧ 1 ≤ g.names.length ∧ g.names.length ≤ 2048 ∧ g.terms.length ≤ 2048 ∧ g.rules.length ≤ 8192 ∧ g.names.all nameB = true ∧ g.terms.all markB = true ∧ g.names.Nodup ∧ g.terms.Nodup := by
  unfold checkC at h
  split at h
  · cases h
  · rename_i h0
    split at h
    · cases h
    · rename_i h1
      split at h
      · cases h
      · rename_i h2
        split at h
        · cases h
        · rename_i h3
          rcases textsC_cases nameB g.names with ⟨e, f⟩ | ⟨e, f, q1⟩ | ⟨e, f, q1⟩
          · exact absurd (.inl e) h1
          · rcases textsC_cases markB g.terms with ⟨e2, f2⟩ | ⟨e2, f2, q2⟩ | ⟨e2, f2, q2⟩
            · exact absurd (.inr e2) h1
            · unfold rulesC at h
              split at h
              · rename_i x hx
                exfalso
                have : ∀ (l : List Rule) (x : Int), rulesF g.names.length g.terms.length l = some x → x ≠ 0 := by
                  intro l
                  induction l with
                  | nil => intro x h; cases h
                  | cons r l ih =>
                    intro x h
                    simp only [rulesF] at h
                    split at h
                    · exact ih x h
                    · rename_i hne; cases h; exact hne
                exact this _ _ hx h
              · rename_i hn
                split at h
                · rename_i hnd
                  exact ⟨rulesF_none hn, by omega, by omega, hnd, by omega, by omega, by omega, by omega, f, f2, q1, q2⟩
                · cases h
            · exact absurd (.inr e2) h2
          · exact absurd (.inl e) h2
end Go.Proofs.YtlacnkjkcikodaaDoor.Am
end
section
set_option linter.unusedVariables false
set_option linter.unusedSimpArgs false
set_option maxHeartbeats 1000000
namespace Go.Proofs.YtlacnkjkcikodaaDoor.Am
open Go
variable {lk : Nat} {H : List Tab}
def wantC (s : Srt) (n : Nat) : List Int := (if s.takes = true then [-1] else []) ++ (List.range n).map fun (i : Nat) => (i : Int)
def templC (t : Tbl) (r : Rule) (l : List Item) : Int :=
  let s := t.sorts.getD r.left.toNat ⟨false, [], []⟩
  let q := allC t r s l 1 [] []
  if q.2.1 ≠ 0 then q.2.1 else if q.1 ≠ s.res then 9 else if wantC s r.right.length ≠ q.2.2 then 4 else 0
def itSz (l : List Item) : Prop := l.length ≤ 3000 ∧ itsSize l ≤ 10000
theorem allC_len {t : Tbl} {r : Rule} {s : Srt} (hj : JOk t r s) (hb : JB t s) : ∀ (l : List Item) (d : Nat) (out c : List Int), (allC t r s l d out c).1.length ≤ out.length + 6000 * l.length ∧ (allC t r s l d out c).2.2.length ≤ c.length + itsSize l
  | [], d, out, c => by simp [allC, itsSize]
  | y :: l, d, out, c => by
    have h1 := one_len hj y.size y d (Nat.le_refl _) hb
    rw [allC, itsSize]
    split
    · simp only [List.length_append, List.length_nil]; omega
    · have := allC_len hj hb l d (out ++ (oneC t r s y d).1) (c ++ (oneC t r s y d).2.2)
      simp only [List.length_append, List.length_cons] at this ⊢
      omega
theorem wantC_succ (s : Srt) (n : Nat) : wantC s (n + 1) = wantC s n ++ [(n : Int)] := by unfold wantC; rw [List.range_succ, List.map_append, List.append_assoc]; rfl
theorem wantC_len (s : Srt) (n : Nat) : (wantC s n).length ≤ n + 1 := by unfold wantC; split <;> simp <;> omega
theorem templ_l0 (t : Tbl) (r : Rule) (s : Srt) (c : List Int) (n : Nat) (x : V) (hl : n ≤ 1000000) : ∀ (k i : Nat) (j : Int), i + k = n → j = i → lp mach lk c_tmpl_template_l0 ⟨[(6, .ptr H.length 26 0), (9, .sl ((wantC s i).map (V.int .i64)) (.own 55)), (58, .int .i64 n), (59, .int .i64 j)], [(26, encJ t r s c)], H⟩ = some (.exit 0, ⟨[(6, .ptr H.length 26 0), (9, (.sl ((wantC s n).map (V.int .i64)) .no))], [(26, encJ t r s c)], H⟩) := by
  intro k
  simp only [encJ]
  induction k with
  | zero =>
    intro i j h hj; subst hj
    obtain rfl : i = n := by omega
    (rw [st_tmpl_template_l0]; simp (disch := first | assumption | omega | (simp; done) | (simp only [ByteArray.size_append]; omega)) [-getElem?_pos, -List.all_eq_true, -List.any_eq_true, -List.length_eq_zero_iff, -List.map_take, -List.map_drop, b_tmpl_template_l0])
  | succ k ih =>
    intro i j h hj; subst hj
    have ih := ih (i + 1) (i + 1) (by omega) (by omega)
    rw [wantC_succ] at ih
    simp only [List.map_append, List.map_cons, List.map_nil] at ih
    have hw := wantC_len s i
    (rw [st_tmpl_template_l0]; simp (disch := first | assumption | omega | (simp; done) | (simp only [ByteArray.size_append]; omega)) [-getElem?_pos, -List.all_eq_true, -List.any_eq_true, -List.length_eq_zero_iff, -List.map_take, -List.map_drop, b_tmpl_template_l0, ih, appMost])
theorem sp_template (hlk : lk ≤ H.length) (t : Tbl) (i : Nat) (r : Rule) (s : Srt) (l : List Item) (hr : t.out.rules[i]? = some r) (hl : t.rules[i]? = some l) (hs0 : 0 ≤ r.left) (hs : t.sorts[r.left.toNat]? = some s) (hj : JOk t r s) (hb : JB t s) (hz : itSz l) : lim mach lk f_tmpl_template [encT t, .int .i64 i] H = some (.int .i64 (templC t r l), H) := by
  have hA := fun (L : Tab) (hL : L.get 26 = some (encJ t r s [])) => sp_all (t := t) (r := r) (s := s) (k := H.length) (q := 26) (lk := lk) (H0 := H ++ [L]) hlk (by simp) hj hb l (by have := hz.1; omega) 1 (by omega) (fun _ x hx => sp_one hj hb (fun _ _ => trivial) x.size x 1 (Nat.le_refl _) (by have := itsSize_mem hx; have := hz.2; omega) (by omega)) [] (by have := hz.2; simp; omega)
  have hA := fun (L : Tab) (hL : L.get 26 = some (encJ t r s [])) => by
    have h := hA L hL
    rw [if_neg (by omega), jput_new hL, jput_end] at h
    exact h
  have hlen := allC_len hj hb l 1 [] []
  have hz1 := hz.1
  have hz2 := hz.2
  have hrr := hj.rr
  have hss := hj.ss
  have hw := wantC_len s r.right.length
  obtain ⟨a, m⟩ := r
  simp only at hs0 hs hrr hw
  obtain ⟨a, rfl⟩ := Int.eq_ofNat_of_zero_le hs0
  have e := getD_of (d := ⟨false, [], []⟩) hs
  unfold templC
  simp only at e ⊢
  rw [e]
  simp only [Int.toNat_natCast] at hs
  have hsl := (List.getElem?_eq_some_iff.1 hs).1
  have hil := (List.getElem?_eq_some_iff.1 hr).1
  have hil2 := (List.getElem?_eq_some_iff.1 hl).1
  have h0 := fun c => templ_l0 (lk := lk) (H := H) t ⟨a, m⟩ s c m.length (.bool true) hrr m.length 0 0 (by omega) rfl
  have hw0 : wantC s 0 = if s.takes = true then [-1] else [] := by unfold wantC; split <;> rfl
  rw [hw0] at h0
  generalize allC t ⟨a, m⟩ s l 1 [] [] = Q at *
  obtain ⟨Q1, Q2, Q3⟩ := Q
  obtain ⟨tk, ar, re⟩ := s
  simp only at hlen hss hw ⊢
  have hE1 := fun (L : Tab) => sp_slices_Equal_gram_Sym_gram_Sym (lk := H.length + 1) (H := H ++ [L]) Q1 re (by simp at hlen; omega) (by omega)
  have hE2 := fun (L : Tab) => sp_slices_Equal_int_int (lk := H.length + 1) (H := H ++ [L]) (wantC ⟨tk, ar, re⟩ m.length) Q3 (by omega) (by simp at hlen; omega)
  simp only [encT, V.cells, Gram.cells, List.cons_append, List.nil_append, encJ, List.map_nil, Int.cast_ofNat_Int] at hA h0 hw0 ⊢
  by_cases e2 : Q2 = 0
  · subst e2
    by_cases e3 : Q1 = re
    · by_cases e4 : wantC ⟨tk, ar, re⟩ m.length = Q3
      · subst e4; cases tk <;> simp only [if_true, if_false, Bool.false_eq_true, List.map_cons, List.map_nil] at h0 <;> (rw [eq_tmpl_template]; simp (disch := first | assumption | omega | (simp; done) | (simp only [ByteArray.size_append]; omega)) [-getElem?_pos, -List.all_eq_true, -List.any_eq_true, -List.length_eq_zero_iff, -List.map_take, -List.map_drop, c_tmpl_template, hr, hl, hs, hA, h0, hE1, hE2, e3, appMost])
      · cases tk <;> simp only [if_true, if_false, Bool.false_eq_true, List.map_cons, List.map_nil] at h0 <;> (rw [eq_tmpl_template]; simp (disch := first | assumption | omega | (simp; done) | (simp only [ByteArray.size_append]; omega)) [-getElem?_pos, -List.all_eq_true, -List.any_eq_true, -List.length_eq_zero_iff, -List.map_take, -List.map_drop, c_tmpl_template, hr, hl, hs, hA, h0, hE1, hE2, e3, e4, appMost])
    · (rw [eq_tmpl_template]; simp (disch := first | assumption | omega | (simp; done) | (simp only [ByteArray.size_append]; omega)) [-getElem?_pos, -List.all_eq_true, -List.any_eq_true, -List.length_eq_zero_iff, -List.map_take, -List.map_drop, c_tmpl_template, hr, hl, hs, hA, hE1, e3])
  · (rw [eq_tmpl_template]; simp (disch := first | assumption | omega | (simp; done) | (simp only [ByteArray.size_append]; omega)) [-getElem?_pos, -List.all_eq_true, -List.any_eq_true, -List.length_eq_zero_iff, -List.map_take, -List.map_drop, c_tmpl_template, hr, hl, hs, hA, e2])
def sortsC (t : Tbl) : Int := if t.sorts.any (fun s => !(s.arg.all (hasI t.inn.names.length t.inn.terms.length) && s.res.all (hasI t.inn.names.length t.inn.terms.length))) = true then 3 else
  let s := t.sorts.getD t.out.start.toNat ⟨false, [], []⟩
  if s.takes = true ∨ s.res ≠ [t.inn.start] then 10 else 0
theorem sorts_l0 (hlk : lk ≤ H.length) (t : Tbl) (hg : OkG t.inn) (hs : ∀ s ∈ t.sorts, OkS s) (hl : t.sorts.length ≤ 4611686018427387904) : ∀ (r : List Srt) (i : Nat) (j : Int), t.sorts.drop i = r → j = i → lp mach lk c_tmpl_sorts_l0 ⟨[(1, .ptr H.length 1 0), (7, .sl (t.sorts.map encS) .no), (8, .int .i64 t.sorts.length), (9, .int .i64 j)], [(1, .cells (encT t).cells)], H⟩ = some (if r.any (fun s => !(s.arg.all (hasI t.inn.names.length t.inn.terms.length) && s.res.all (hasI t.inn.names.length t.inn.terms.length))) = true then (.ret, ⟨[(2, .int .i64 3)], [], H⟩) else (.exit 0, ⟨[(1, .ptr H.length 1 0)], [(1, .cells (encT t).cells)], H⟩)) := by
  obtain ⟨⟨ns, ts, st, rs⟩, ⟨ns2, ts2, st2, rs2⟩, ss, rl⟩ := t
  have hg1 := hg.1
  have hg2 := hg.2.1
  simp only [encT, V.cells, Gram.cells, List.cons_append, List.nil_append] at hs hl hg1 hg2 ⊢
  intro r
  induction r with
  | nil =>
    intro i j h hj; subst hj
    have := drop_nil h
    (rw [st_tmpl_sorts_l0]; simp (disch := first | assumption | omega | (simp; done) | (simp only [ByteArray.size_append]; omega)) [-getElem?_pos, -List.all_eq_true, -List.any_eq_true, -List.length_eq_zero_iff, -List.map_take, -List.map_drop, b_tmpl_sorts_l0])
  | cons x r ih =>
    intro i j h hj; subst hj
    obtain ⟨hx, hlt, hr2⟩ := drop_cons h
    obtain ⟨k1, k2, k3, k4⟩ := hs x (mem_drop h)
    obtain ⟨tk, ar, re⟩ := x
    simp only at k1 k2 k3 k4
    have q1 := fun (L : Tab) => sp_thas (lk := H.length + 1) (H := H ++ [L]) ⟨ns, ts, st, rs⟩ ar k3 hg1 hg2 (by omega)
    have q2 := fun (L : Tab) => sp_thas (lk := H.length + 1) (H := H ++ [L]) ⟨ns, ts, st, rs⟩ re k4 hg1 hg2 (by omega)
    have ih := ih (i + 1) (i + 1) hr2 (by omega)
    simp only [encG] at q1 q2
    rw [List.any_cons]
    cases e1 : ar.all (hasI ns.length ts.length) with
    | false => rw [e1] at q1; (rw [st_tmpl_sorts_l0]; simp (disch := first | assumption | omega | (simp; done) | (simp only [ByteArray.size_append]; omega)) [-getElem?_pos, -List.all_eq_true, -List.any_eq_true, -List.length_eq_zero_iff, -List.map_take, -List.map_drop, b_tmpl_sorts_l0, hx, q1])
    | true =>
      rw [e1] at q1
      cases e2 : re.all (hasI ns.length ts.length) with
      | false => rw [e2] at q2; (rw [st_tmpl_sorts_l0]; simp (disch := first | assumption | omega | (simp; done) | (simp only [ByteArray.size_append]; omega)) [-getElem?_pos, -List.all_eq_true, -List.any_eq_true, -List.length_eq_zero_iff, -List.map_take, -List.map_drop, b_tmpl_sorts_l0, hx, q1, q2])
      | true => rw [e2] at q2; (rw [st_tmpl_sorts_l0]; simp (disch := first | assumption | omega | (simp; done) | (simp only [ByteArray.size_append]; omega)) [-getElem?_pos, -List.all_eq_true, -List.any_eq_true, -List.length_eq_zero_iff, -List.map_take, -List.map_drop, b_tmpl_sorts_l0, hx, q1, q2, ih])
theorem sp_sorts (hlk : lk ≤ H.length) (t : Tbl) (hg : OkG t.inn) (hs : ∀ s ∈ t.sorts, OkS s) (hl : t.sorts.length ≤ 4611686018427387904) (h0 : 0 ≤ t.out.start) (h1 : t.out.start < t.sorts.length) : lim mach lk f_tmpl_sorts [encT t] H = some (.int .i64 (sortsC t), H) := by
  have h := sorts_l0 hlk t hg hs hl t.sorts 0 0 rfl rfl
  unfold sortsC
  obtain ⟨s, hsx⟩ := at_some (l := t.sorts) (i := t.out.start.toNat) (by omega)
  obtain ⟨k1, k2, -, -⟩ := hs s (List.mem_of_getElem? hsx)
  have e := getD_of (d := ⟨false, [], []⟩) hsx
  simp only [e]
  obtain ⟨⟨ns, ts, st, rs⟩, ⟨ns2, ts2, st2, rs2⟩, ss, rl⟩ := t
  simp only [encT, V.cells, Gram.cells, List.cons_append, List.nil_append] at h h0 h1 hsx ⊢
  obtain ⟨st2, rfl⟩ := Int.eq_ofNat_of_zero_le h0
  simp only [Int.toNat_natCast] at hsx
  obtain ⟨tk, ar, re⟩ := s
  simp only at k1 k2 ⊢
  have hE := fun (L : Tab) => sp_slices_Equal_gram_Sym_gram_Sym (lk := H.length + 1) (H := H ++ [L]) re [st] (by omega) (by simp)
  simp only [List.map_cons, List.map_nil] at hE
  by_cases c0 : ss.any (fun s => !(s.arg.all (hasI ns.length ts.length) && s.res.all (hasI ns.length ts.length))) = true
  · rw [if_pos c0] at h ⊢
    (rw [eq_tmpl_sorts]; simp (disch := first | assumption | omega | (simp; done) | (simp only [ByteArray.size_append]; omega)) [-getElem?_pos, -List.all_eq_true, -List.any_eq_true, -List.length_eq_zero_iff, -List.map_take, -List.map_drop, c_tmpl_sorts, h])
  · rw [if_neg c0] at h ⊢
    cases tk with
    | true => (rw [eq_tmpl_sorts]; simp (disch := first | assumption | omega | (simp; done) | (simp only [ByteArray.size_append]; omega)) [-getElem?_pos, -List.all_eq_true, -List.any_eq_true, -List.length_eq_zero_iff, -List.map_take, -List.map_drop, c_tmpl_sorts, h, hsx])
    | false =>
      by_cases c1 : re = [st]
      · subst c1; simp only [List.map_cons, List.map_nil] at hE; (rw [eq_tmpl_sorts]; simp (disch := first | assumption | omega | (simp; done) | (simp only [ByteArray.size_append]; omega)) [-getElem?_pos, -List.all_eq_true, -List.any_eq_true, -List.length_eq_zero_iff, -List.map_take, -List.map_drop, c_tmpl_sorts, h, hsx, hE])
      · (rw [eq_tmpl_sorts]; simp (disch := first | assumption | omega | (simp; done) | (simp only [ByteArray.size_append]; omega)) [-getElem?_pos, -List.all_eq_true, -List.any_eq_true, -List.length_eq_zero_iff, -List.map_take, -List.map_drop, c_tmpl_sorts, h, hsx, hE, c1])
def templsC (t : Tbl) : List Rule → Nat → Int
  | [], _ => 0
  | r :: l, i => if templC t r (t.rules.getD i []) ≠ 0 then templC t r (t.rules.getD i []) else templsC t l (i + 1)
def tcheckC (t : Tbl) : Int :=
  if checkC t.inn ≠ 0 then checkC t.inn else if checkC t.out ≠ 0 then checkC t.out else
  if t.inn.terms ≠ t.out.terms then 1 else if t.sorts.length ≠ t.out.names.length ∨ t.rules.length ≠ t.out.rules.length then 12 else
  if sortsC t ≠ 0 then sortsC t else templsC t t.out.rules 0
structure TOk (t : Tbl) : Prop where
  inn : OkG t.inn
  out : OkG t.out
  s : ∀ s ∈ t.sorts, OkS s
  s2 : ∀ s ∈ t.sorts, s.arg.length ≤ 6000 ∧ s.res.length ≤ 6000
  r : ∀ l ∈ t.rules, itSz l
theorem TOk.judge {t : Tbl} (h : TOk t) (hc : checkC t.out = 0) (hi : checkC t.inn = 0) (hl : t.sorts.length = t.out.names.length) {r : Rule} (hr : r ∈ t.out.rules) : 0 ≤ r.left ∧ ∃ s, t.sorts[r.left.toNat]? = some s ∧ JOk t r s ∧ JB t s := by
  obtain ⟨q1, -, -, -, -, q2, q3, q4, -⟩ := check0 hc
  obtain ⟨p1, -, -, -, -, p2, p3, p4, -⟩ := check0 hi
  have hrule : ∀ {n m : Nat} {r : Rule}, ruleC n m r = 0 → 0 ≤ r.left ∧ r.left < n ∧ r.right.length ≤ 64 ∧ ∀ x ∈ r.right, -(m : Int) ≤ x ∧ x < n := by
    intro n m r h
    unfold ruleC at h
    split at h
    · simp at h
    · rename_i h1
      split at h
      · simp at h
      · rename_i h2
        refine ⟨by omega, by omega, by omega, fun x hx => ?_⟩
        have h3 : ¬ r.right.any (fun s => !hasI n m s) = true := fun h => h1 (.inr (.inr h))
        simp only [List.any_eq_true, not_exists, not_and, Bool.not_eq_true, Bool.not_eq_false'] at h3
        have := h3 x hx
        unfold hasI at this
        exact of_decide_eq_true this
  obtain ⟨a1, a2, a3, a4⟩ := hrule (q1 r hr)
  obtain ⟨s, hs⟩ := at_some (l := t.sorts) (i := r.left.toNat) (by omega)
  have hsm := List.mem_of_getElem? hs
  have b1 := h.s2 s hsm
  refine ⟨a1, s, hs, ⟨by omega, fun x hx => ?_, by omega, fun x hx => ?_, by omega, by omega, fun x hx => ?_⟩, b1.1, b1.2, h.s2⟩
  · have := a4 x hx; omega
  · have := h.s2 x hx; omega
  · have := (hrule (p1 x hx)).2.2.1; omega
theorem tc_l1 (hlk : lk ≤ H.length) (t : Tbl) (h : TOk t) (hc : checkC t.out = 0) (hi : checkC t.inn = 0) (hl : t.sorts.length = t.out.names.length) (hl2 : t.rules.length = t.out.rules.length) : ∀ (r : List Rule) (i : Nat) (j : Int), t.out.rules.drop i = r → j = i → lp mach lk c_tmpl_Check_l1 ⟨[(1, .ptr H.length 1 0), (61, .int .i64 t.out.rules.length), (62, .int .i64 j)], [(1, .cells (encT t).cells)], H⟩ = some (if templsC t r i ≠ 0 then (.ret, ⟨[(2, .int .i64 (templsC t r i))], [], H⟩) else (.exit 3, ⟨[], [], H⟩)) := by
  obtain ⟨-, -, -, -, -, -, -, q4, -⟩ := check0 hc
  intro r
  induction r with
  | nil =>
    intro i j hd hj; subst hj
    have := drop_nil hd
    (rw [st_tmpl_Check_l1]; simp (disch := first | assumption | omega | (simp; done) | (simp only [ByteArray.size_append]; omega)) [-getElem?_pos, -List.all_eq_true, -List.any_eq_true, -List.length_eq_zero_iff, -List.map_take, -List.map_drop, b_tmpl_Check_l1, templsC])
  | cons x r ih =>
    intro i j hd hj; subst hj
    obtain ⟨hx, hlt, hr2⟩ := drop_cons hd
    obtain ⟨a1, s, hs, hj, hb⟩ := h.judge hc hi hl (mem_drop hd)
    obtain ⟨l, hll⟩ := at_some (l := t.rules) (i := i) (by omega)
    have hT := fun (L : Tab) => sp_template (lk := H.length + 1) (H := H ++ [L]) (by simp) t i x s l hx hll a1 hs hj hb (h.r l (List.mem_of_getElem? hll))
    have ih := ih (i + 1) (i + 1) hr2 (by omega)
    rw [templsC, getD_of hll]
    generalize templC t x l = e at *
    obtain ⟨⟨ns, ts, st, rs⟩, ⟨ns2, ts2, st2, rs2⟩, ss, rl⟩ := t
    simp only [encT, V.cells, Gram.cells, List.cons_append, List.nil_append] at hT ih q4 hlt ⊢
    by_cases e0 : e = 0
    · subst e0; (rw [st_tmpl_Check_l1]; simp (disch := first | assumption | omega | (simp; done) | (simp only [ByteArray.size_append]; omega)) [-getElem?_pos, -List.all_eq_true, -List.any_eq_true, -List.length_eq_zero_iff, -List.map_take, -List.map_drop, b_tmpl_Check_l1, hT, ih])
    · (rw [st_tmpl_Check_l1]; simp (disch := first | assumption | omega | (simp; done) | (simp only [ByteArray.size_append]; omega)) [-getElem?_pos, -List.all_eq_true, -List.any_eq_true, -List.length_eq_zero_iff, -List.map_take, -List.map_drop, b_tmpl_Check_l1, hT, e0])
theorem sp_tCheck (hlk : lk ≤ H.length) (t : Tbl) (h : TOk t) : lim mach lk f_tmpl_Check [encT t] H = some (.int .i64 (tcheckC t), H) := by
  have q1 := fun (L : Tab) => sp_Check (lk := H.length + 1) (H := H ++ [L]) (by simp) t.inn h.inn
  have q2 := fun (L : Tab) => sp_Check (lk := H.length + 1) (H := H ++ [L]) (by simp) t.out h.out
  have h1 := fun hc hi hl hl2 => tc_l1 hlk t h hc hi hl hl2 t.out.rules 0 0 rfl rfl
  have hk1 := h.inn.2.1
  have hk2 := h.out.2.1
  have hS := fun (L : Tab) hl h0 h1 => sp_sorts (lk := H.length + 1) (H := H ++ [L]) (by simp) t h.inn h.s hl h0 h1
  have hst := fun hc => check0 (g := t.out) hc
  have hE := fun (L : Tab) => sp_slices_Equal_string_string (lk := H.length + 1) (H := H ++ [L]) t.inn.terms t.out.terms hk1 hk2
  unfold tcheckC
  generalize checkC t.inn = e1 at *
  generalize checkC t.out = e2 at *
  generalize sortsC t = e3 at *
  generalize templsC t t.out.rules 0 = e4 at *
  have hg3 := h.out.2.2.1
  have hg1 := h.out.1
  obtain ⟨⟨ns, ts, st, rs⟩, ⟨ns2, ts2, st2, rs2⟩, ss, rl⟩ := t
  simp only [encT, encG, V.cells, Gram.cells, List.cons_append, List.nil_append] at q1 q2 h1 hS hE hst hg3 hg1 ⊢
  by_cases c1 : e1 = 0
  · by_cases c2 : e2 = 0
    · have l0 : lp mach lk c_tmpl_Check_l0 ⟨[(1, .ptr H.length 1 0), (13, .sl [(.agg [.sl (ns.map V.str) .no, .sl (ts.map V.str) .no, .int .i64 st, .sl (rs.map encR) .no]), (.agg [.sl (ns2.map V.str) .no, .sl (ts2.map V.str) .no, .int .i64 st2, .sl (rs2.map encR) .no])] .no), (14, .int .i64 2), (15, .int .i64 0)], [(1, .cells [.sl (ns.map V.str) .no, .sl (ts.map V.str) .no, .int .i64 st, .sl (rs.map encR) .no, .sl (ns2.map V.str) .no, .sl (ts2.map V.str) .no, .int .i64 st2, .sl (rs2.map encR) .no, .sl (ss.map encS) .no, .sl (rl.map encL) .no])], H⟩ = some (.exit 0, ⟨[(1, .ptr H.length 1 0)], [(1, .cells [.sl (ns.map V.str) .no, .sl (ts.map V.str) .no, .int .i64 st, .sl (rs.map encR) .no, .sl (ns2.map V.str) .no, .sl (ts2.map V.str) .no, .int .i64 st2, .sl (rs2.map encR) .no, .sl (ss.map encS) .no, .sl (rl.map encL) .no])], H⟩) := by
        subst c1; subst c2
        (rw [st_tmpl_Check_l0]; simp (disch := first | assumption | omega | (simp; done) | (simp only [ByteArray.size_append]; omega)) [-getElem?_pos, -List.all_eq_true, -List.any_eq_true, -List.length_eq_zero_iff, -List.map_take, -List.map_drop, b_tmpl_Check_l0, q1, q2, st_tmpl_Check_l0, b_tmpl_Check_l0])
      rw [if_neg (by simp [c1]), if_neg (by simp [c2])]
      by_cases c3 : ts = ts2
      · rw [if_neg (by simp [c3])]
        by_cases c4 : ss.length ≠ ns2.length ∨ rl.length ≠ rs2.length
        · rw [if_pos c4]
          by_cases c5 : ss.length = ns2.length
          · have c6 : rl.length ≠ rs2.length := c4.resolve_left (by simp [c5])
            subst c3; (rw [eq_tmpl_Check]; simp (disch := first | assumption | omega | (simp; done) | (simp only [ByteArray.size_append]; omega)) [-getElem?_pos, -List.all_eq_true, -List.any_eq_true, -List.length_eq_zero_iff, -List.map_take, -List.map_drop, c_tmpl_Check, l0, hE, c5, c6])
          · subst c3; (rw [eq_tmpl_Check]; simp (disch := first | assumption | omega | (simp; done) | (simp only [ByteArray.size_append]; omega)) [-getElem?_pos, -List.all_eq_true, -List.any_eq_true, -List.length_eq_zero_iff, -List.map_take, -List.map_drop, c_tmpl_Check, l0, hE, c5])
        · rw [if_neg c4]
          have c5 : ss.length = ns2.length := by omega
          have c6 : rl.length = rs2.length := by omega
          have hs3 := hst c2
          have hS := fun (L : Tab) => hS L (by omega) hs3.2.1 (by have := hs3.2.2.1; omega)
          by_cases c7 : e3 = 0
          · have h1 := h1 c2 c1 c5 c6
            rw [if_neg (by simp [c7])]
            by_cases c8 : e4 = 0
            · rw [if_neg (by simp [c8])] at h1
              subst c3; subst c7; (rw [eq_tmpl_Check]; simp (disch := first | assumption | omega | (simp; done) | (simp only [ByteArray.size_append]; omega)) [-getElem?_pos, -List.all_eq_true, -List.any_eq_true, -List.length_eq_zero_iff, -List.map_take, -List.map_drop, c_tmpl_Check, l0, hE, c5, c6, hS, h1, c8])
            · rw [if_pos c8] at h1
              subst c3; subst c7; (rw [eq_tmpl_Check]; simp (disch := first | assumption | omega | (simp; done) | (simp only [ByteArray.size_append]; omega)) [-getElem?_pos, -List.all_eq_true, -List.any_eq_true, -List.length_eq_zero_iff, -List.map_take, -List.map_drop, c_tmpl_Check, l0, hE, c5, c6, hS, h1])
          · rw [if_pos c7]
            subst c3; (rw [eq_tmpl_Check]; simp (disch := first | assumption | omega | (simp; done) | (simp only [ByteArray.size_append]; omega)) [-getElem?_pos, -List.all_eq_true, -List.any_eq_true, -List.length_eq_zero_iff, -List.map_take, -List.map_drop, c_tmpl_Check, l0, hE, c5, c6, hS, c7])
      · rw [if_pos c3]
        (rw [eq_tmpl_Check]; simp (disch := first | assumption | omega | (simp; done) | (simp only [ByteArray.size_append]; omega)) [-getElem?_pos, -List.all_eq_true, -List.any_eq_true, -List.length_eq_zero_iff, -List.map_take, -List.map_drop, c_tmpl_Check, l0, hE, c3])
    · have l0 : lp mach lk c_tmpl_Check_l0 ⟨[(1, .ptr H.length 1 0), (13, .sl [(.agg [.sl (ns.map V.str) .no, .sl (ts.map V.str) .no, .int .i64 st, .sl (rs.map encR) .no]), (.agg [.sl (ns2.map V.str) .no, .sl (ts2.map V.str) .no, .int .i64 st2, .sl (rs2.map encR) .no])] .no), (14, .int .i64 2), (15, .int .i64 0)], [(1, .cells [.sl (ns.map V.str) .no, .sl (ts.map V.str) .no, .int .i64 st, .sl (rs.map encR) .no, .sl (ns2.map V.str) .no, .sl (ts2.map V.str) .no, .int .i64 st2, .sl (rs2.map encR) .no, .sl (ss.map encS) .no, .sl (rl.map encL) .no])], H⟩ = some (.ret, ⟨[(2, .int .i64 e2)], [], H⟩) := by
        subst c1
        (rw [st_tmpl_Check_l0]; simp (disch := first | assumption | omega | (simp; done) | (simp only [ByteArray.size_append]; omega)) [-getElem?_pos, -List.all_eq_true, -List.any_eq_true, -List.length_eq_zero_iff, -List.map_take, -List.map_drop, b_tmpl_Check_l0, q1, q2, st_tmpl_Check_l0, b_tmpl_Check_l0, c2])
      rw [if_neg (by simp [c1]), if_pos c2]
      (rw [eq_tmpl_Check]; simp (disch := first | assumption | omega | (simp; done) | (simp only [ByteArray.size_append]; omega)) [-getElem?_pos, -List.all_eq_true, -List.any_eq_true, -List.length_eq_zero_iff, -List.map_take, -List.map_drop, c_tmpl_Check, l0])
  · have l0 : lp mach lk c_tmpl_Check_l0 ⟨[(1, .ptr H.length 1 0), (13, .sl [(.agg [.sl (ns.map V.str) .no, .sl (ts.map V.str) .no, .int .i64 st, .sl (rs.map encR) .no]), (.agg [.sl (ns2.map V.str) .no, .sl (ts2.map V.str) .no, .int .i64 st2, .sl (rs2.map encR) .no])] .no), (14, .int .i64 2), (15, .int .i64 0)], [(1, .cells [.sl (ns.map V.str) .no, .sl (ts.map V.str) .no, .int .i64 st, .sl (rs.map encR) .no, .sl (ns2.map V.str) .no, .sl (ts2.map V.str) .no, .int .i64 st2, .sl (rs2.map encR) .no, .sl (ss.map encS) .no, .sl (rl.map encL) .no])], H⟩ = some (.ret, ⟨[(2, .int .i64 e1)], [], H⟩) := by
      (rw [st_tmpl_Check_l0]; simp (disch := first | assumption | omega | (simp; done) | (simp only [ByteArray.size_append]; omega)) [-getElem?_pos, -List.all_eq_true, -List.any_eq_true, -List.length_eq_zero_iff, -List.map_take, -List.map_drop, b_tmpl_Check_l0, q1, c1])
    rw [if_pos c1]
    (rw [eq_tmpl_Check]; simp (disch := first | assumption | omega | (simp; done) | (simp only [ByteArray.size_append]; omega)) [-getElem?_pos, -List.all_eq_true, -List.any_eq_true, -List.length_eq_zero_iff, -List.map_take, -List.map_drop, c_tmpl_Check, l0])
end Go.Proofs.YtlacnkjkcikodaaDoor.Am
end
section
set_option linter.unusedVariables false
set_option linter.unusedSimpArgs false
set_option maxHeartbeats 1000000
namespace Go.Proofs.YtlacnkjkcikodaaDoor.Am
open Go
variable {lk : Nat} {H : List Tab}
def holesC (n : Nat) : List Item := (List.range n).map fun (k : Nat) => .mk 1 k []
def plainC (g : Gram) (i : Int) : List Item := if i < 0 ∨ (g.rules.length : Int) ≤ i then [] else [.mk 0 i (holesC (g.rules.getD i.toNat ⟨0, []⟩).right.length)]
def srtsC (n : Nat) : List Srt := (List.range n).map fun (k : Nat) => ⟨false, [], [(k : Int)]⟩
def sameC (g : Gram) : Tbl := ⟨g, g, srtsC g.names.length, (List.range g.rules.length).map fun (i : Nat) => plainC g i⟩
theorem holesC_succ (n : Nat) : holesC (n + 1) = holesC n ++ [.mk 1 n []] := by unfold holesC; rw [List.range_succ, List.map_append]; rfl
theorem holesC_len (n : Nat) : (holesC n).length = n := by simp [holesC]
theorem srtsC_succ (n : Nat) : srtsC (n + 1) = srtsC n ++ [⟨false, [], [(n : Int)]⟩] := by unfold srtsC; rw [List.range_succ, List.map_append]; rfl
theorem srtsC_len (n : Nat) : (srtsC n).length = n := by simp [srtsC]
theorem plain_l0 (hlk : lk ≤ H.length) (m : Int) (n : Nat) (hn : n ≤ 1000000) : ∀ (k i : Nat) (j : Int), i + k = n → j = i → lp mach lk c_tmpl_Plain_l0 ⟨[(5, .ptr H.length 5 0), (24, .int .i64 n), (25, .int .i64 j)], [(5, .cells [.int .i64 0, .int .i64 m, .sl ((holesC i).map encIt) .held])], H⟩ = some (.exit 0, ⟨[(5, .ptr H.length 5 0)], [(5, .cells [.int .i64 0, .int .i64 m, .sl ((holesC n).map encIt) .held])], H⟩) := by
  intro k
  induction k with
  | zero =>
    intro i j h hj; subst hj
    obtain rfl : i = n := by omega
    (rw [st_tmpl_Plain_l0]; simp (disch := first | assumption | omega | (simp; done) | (simp only [ByteArray.size_append]; omega)) [-getElem?_pos, -List.all_eq_true, -List.any_eq_true, -List.length_eq_zero_iff, -List.map_take, -List.map_drop, b_tmpl_Plain_l0])
  | succ k ih =>
    intro i j h hj; subst hj
    have ih := ih (i + 1) (i + 1) (by omega) (by omega)
    have hw := holesC_len i
    rw [holesC_succ] at ih
    simp only [List.map_append, List.map_cons, List.map_nil, encIt_mk] at ih
    (rw [st_tmpl_Plain_l0]; simp (disch := first | assumption | omega | (simp; done) | (simp only [ByteArray.size_append]; omega)) [-getElem?_pos, -List.all_eq_true, -List.any_eq_true, -List.length_eq_zero_iff, -List.map_take, -List.map_drop, b_tmpl_Plain_l0, ih, appMost])
theorem sp_Plain (hlk : lk ≤ H.length) (ns ts : List ByteArray) (st : Int) (rs : List Rule) (i : Int) (hr : rs.length ≤ 4611686018427387904) (hrr : ∀ r ∈ rs, r.right.length ≤ 1000000) : lim mach lk f_tmpl_Plain [(.agg [.sl (ns.map V.str) .no, .sl (ts.map V.str) .no, .int .i64 st, .sl (rs.map encR) .no]), .int .i64 i] H = some (.sl ((plainC ⟨ns, ts, st, rs⟩ i).map encIt) .no, H) := by
  unfold plainC
  simp only
  by_cases c0 : i < 0
  · rw [if_pos (.inl c0)]; (rw [eq_tmpl_Plain]; simp (disch := first | assumption | omega | (simp; done) | (simp only [ByteArray.size_append]; omega)) [-getElem?_pos, -List.all_eq_true, -List.any_eq_true, -List.length_eq_zero_iff, -List.map_take, -List.map_drop, c_tmpl_Plain, c0])
  by_cases c1 : (rs.length : Int) ≤ i
  · rw [if_pos (.inr c1)]; (rw [eq_tmpl_Plain]; simp (disch := first | assumption | omega | (simp; done) | (simp only [ByteArray.size_append]; omega)) [-getElem?_pos, -List.all_eq_true, -List.any_eq_true, -List.length_eq_zero_iff, -List.map_take, -List.map_drop, c_tmpl_Plain, c0, c1])
  rw [if_neg (by omega)]
  obtain ⟨i, rfl⟩ := Int.eq_ofNat_of_zero_le (Int.not_lt.1 c0)
  obtain ⟨⟨a, m⟩, hx⟩ := at_some (l := rs) (i := i) (by omega)
  have hm := hrr _ (List.mem_of_getElem? hx)
  simp only [Int.toNat_natCast] at hm ⊢
  rw [getD_of hx]
  have h := plain_l0 hlk i m.length hm m.length 0 0 (by omega) rfl
  have e : holesC 0 = [] := rfl
  simp only [e, List.map_nil] at h
  (rw [eq_tmpl_Plain]; simp (disch := first | assumption | omega | (simp; done) | (simp only [ByteArray.size_append]; omega)) [-getElem?_pos, -List.all_eq_true, -List.any_eq_true, -List.length_eq_zero_iff, -List.map_take, -List.map_drop, c_tmpl_Plain, c0, c1, hx, h])
theorem rplain_l0 (hlk : lk ≤ H.length) (ns ts : List ByteArray) (st : Int) (rs : List Rule) (m : Nat) (a : Int) (l : List Int) (hx : rs[m]? = some ⟨a, l⟩) (n : Nat) (hl : l.length = n) (hn : n ≤ 1000000) : ∀ (k i : Nat) (j : Int), i + k = n → j = i → lp mach lk c_ref12_Plain_l0 ⟨[(1, .int .i64 m), (2, .ptr H.length 2 0), (5, .ptr H.length 5 0), (6, .int .i64 j)], [(2, .cells [.sl (ns.map V.str) .no, .sl (ts.map V.str) .no, .int .i64 st, .sl (rs.map encR) .no]), (5, .cells [.int .i64 0, .int .i64 m, .sl ((holesC i).map encIt) .held])], H⟩ = some (.exit 0, ⟨[(5, .ptr H.length 5 0)], [(5, .cells [.int .i64 0, .int .i64 m, .sl ((holesC n).map encIt) .held])], H⟩) := by
  intro k
  induction k with
  | zero =>
    intro i j h hj; subst hj
    obtain rfl : i = n := by omega
    (rw [st_ref12_Plain_l0]; simp (disch := first | assumption | omega | (simp; done) | (simp only [ByteArray.size_append]; omega)) [-getElem?_pos, -List.all_eq_true, -List.any_eq_true, -List.length_eq_zero_iff, -List.map_take, -List.map_drop, b_ref12_Plain_l0, hx])
  | succ k ih =>
    intro i j h hj; subst hj
    have ih := ih (i + 1) (i + 1) (by omega) (by omega)
    have hw := holesC_len i
    rw [holesC_succ] at ih
    simp only [List.map_append, List.map_cons, List.map_nil, encIt_mk] at ih
    (rw [st_ref12_Plain_l0]; simp (disch := first | assumption | omega | (simp; done) | (simp only [ByteArray.size_append]; omega)) [-getElem?_pos, -List.all_eq_true, -List.any_eq_true, -List.length_eq_zero_iff, -List.map_take, -List.map_drop, b_ref12_Plain_l0, hx, ih, appMost])
theorem sp_rPlain (hlk : lk ≤ H.length) (ns ts : List ByteArray) (st : Int) (rs : List Rule) (i : Int) (hr : rs.length ≤ 4611686018427387904) (hrr : ∀ r ∈ rs, r.right.length ≤ 1000000) : lim mach lk f_ref12_Plain [(.agg [.sl (ns.map V.str) .no, .sl (ts.map V.str) .no, .int .i64 st, .sl (rs.map encR) .no]), .int .i64 i] H = some (.sl ((plainC ⟨ns, ts, st, rs⟩ i).map encIt) .no, H) := by
  unfold plainC
  simp only
  by_cases c0 : i < 0
  · rw [if_pos (.inl c0)]; (rw [eq_ref12_Plain]; simp (disch := first | assumption | omega | (simp; done) | (simp only [ByteArray.size_append]; omega)) [-getElem?_pos, -List.all_eq_true, -List.any_eq_true, -List.length_eq_zero_iff, -List.map_take, -List.map_drop, c_ref12_Plain, c0])
  by_cases c1 : (rs.length : Int) ≤ i
  · rw [if_pos (.inr c1)]; (rw [eq_ref12_Plain]; simp (disch := first | assumption | omega | (simp; done) | (simp only [ByteArray.size_append]; omega)) [-getElem?_pos, -List.all_eq_true, -List.any_eq_true, -List.length_eq_zero_iff, -List.map_take, -List.map_drop, c_ref12_Plain, c0, c1])
  rw [if_neg (by omega)]
  obtain ⟨i, rfl⟩ := Int.eq_ofNat_of_zero_le (Int.not_lt.1 c0)
  obtain ⟨⟨a, m⟩, hx⟩ := at_some (l := rs) (i := i) (by omega)
  have hm := hrr _ (List.mem_of_getElem? hx)
  simp only [Int.toNat_natCast] at hm ⊢
  rw [getD_of hx]
  have h := rplain_l0 hlk ns ts st rs i a m hx m.length rfl hm m.length 0 0 (by omega) rfl
  have e : holesC 0 = [] := rfl
  simp only [e, List.map_nil] at h
  (rw [eq_ref12_Plain]; simp (disch := first | assumption | omega | (simp; done) | (simp only [ByteArray.size_append]; omega)) [-getElem?_pos, -List.all_eq_true, -List.any_eq_true, -List.length_eq_zero_iff, -List.map_take, -List.map_drop, c_ref12_Plain, c0, c1, h])
theorem srts_l0 (n : Nat) (hn : n ≤ 1000000) : ∀ (k i : Nat) (j : Int), i + k = n → j = i → lp mach lk c_tmpl_Sorts_l0 ⟨[(5, .sl ((srtsC i).map encS) (.own 17)), (8, .int .i64 n), (9, .int .i64 j)], [], H⟩ = some (.exit 0, ⟨[(5, .sl ((srtsC n).map encS) .no)], [], H⟩) := by
  intro k
  induction k with
  | zero =>
    intro i j h hj; subst hj
    obtain rfl : i = n := by omega
    (rw [st_tmpl_Sorts_l0]; simp (disch := first | assumption | omega | (simp; done) | (simp only [ByteArray.size_append]; omega)) [-getElem?_pos, -List.all_eq_true, -List.any_eq_true, -List.length_eq_zero_iff, -List.map_take, -List.map_drop, b_tmpl_Sorts_l0])
  | succ k ih =>
    intro i j h hj; subst hj
    have ih := ih (i + 1) (i + 1) (by omega) (by omega)
    have hw := srtsC_len i
    rw [srtsC_succ] at ih
    simp only [List.map_append, List.map_cons, List.map_nil, encS] at ih
    (rw [st_tmpl_Sorts_l0]; simp (disch := first | assumption | omega | (simp; done) | (simp only [ByteArray.size_append]; omega)) [-getElem?_pos, -List.all_eq_true, -List.any_eq_true, -List.length_eq_zero_iff, -List.map_take, -List.map_drop, b_tmpl_Sorts_l0, ih, appMost])
theorem sp_Sorts (hlk : lk ≤ H.length) (ns ts : List ByteArray) (st : Int) (rs : List Rule) (n : Int) (hn : n ≤ 1000000) : lim mach lk f_tmpl_Sorts [(.agg [.sl (ns.map V.str) .no, .sl (ts.map V.str) .no, .int .i64 st, .sl (rs.map encR) .no]), .int .i64 n] H = some (.sl ((srtsC n.toNat).map encS) .no, H) := by
  have h := srts_l0 (lk := lk) (H := H) n.toNat (by omega) n.toNat 0 0 (by omega) rfl
  have e : srtsC 0 = [] := rfl
  simp only [e, List.map_nil] at h
  by_cases c : 0 ≤ n
  · obtain ⟨n, rfl⟩ := Int.eq_ofNat_of_zero_le c
    simp only [Int.toNat_natCast] at h ⊢
    by_cases c2 : n = 0
    · subst c2; simp only [Int.natCast_zero] at h; (rw [eq_tmpl_Sorts]; simp (disch := first | assumption | omega | (simp; done) | (simp only [ByteArray.size_append]; omega)) [-getElem?_pos, -List.all_eq_true, -List.any_eq_true, -List.length_eq_zero_iff, -List.map_take, -List.map_drop, c_tmpl_Sorts, h, low64])
    · (rw [eq_tmpl_Sorts]; simp (disch := first | assumption | omega | (simp; done) | (simp only [ByteArray.size_append]; omega)) [-getElem?_pos, -List.all_eq_true, -List.any_eq_true, -List.length_eq_zero_iff, -List.map_take, -List.map_drop, c_tmpl_Sorts, h, low64])
  · have e2 : n.toNat = 0 := by omega
    rw [e2] at h ⊢
    simp only [Int.natCast_zero, e, List.map_nil] at h
    (rw [eq_tmpl_Sorts]; simp (disch := first | assumption | omega | (simp; done) | (simp only [ByteArray.size_append]; omega)) [-getElem?_pos, -List.all_eq_true, -List.any_eq_true, -List.length_eq_zero_iff, -List.map_take, -List.map_drop, c_tmpl_Sorts, h, low64, e])
def Gram.vs (g : Gram) : List V := [.sl (g.names.map V.str) .no, .sl (g.terms.map V.str) .no, .int .i64 g.start, .sl (g.rules.map encR) .no]
theorem tsame_l0 (hlk : lk ≤ H.length) (ns ts : List ByteArray) (st : Int) (rs : List Rule) (ss : List Srt) (hr : rs.length ≤ 1000000) (hrr : ∀ r ∈ rs, r.right.length ≤ 1000000) : ∀ (k i : Nat) (j : Int), i + k = rs.length → j = i → lp mach lk c_tmpl_Same_l0 ⟨[(1, .ptr H.length 1 0), (2, .ptr H.length 2 0), (3, .ptr H.length 3 0), (15, .int .i64 rs.length), (16, .int .i64 j)], [(1, .cells [.sl (ns.map V.str) .no, .sl (ts.map V.str) .no, .int .i64 st, .sl (rs.map encR) .no]), (2, .cells [.sl [] .held, .sl [] .held, .int .i64 0, .sl [] .held, .sl [] .held, .sl [] .held, .int .i64 0, .sl [] .held, .sl [] .held, .sl [] .held]), (3, .cells [.sl (ns.map V.str) .no, .sl (ts.map V.str) .no, .int .i64 st, .sl (rs.map encR) .no, .sl (ns.map V.str) .no, .sl (ts.map V.str) .no, .int .i64 st, .sl (rs.map encR) .no, .sl (ss.map encS) .no, .sl (((List.range i).map fun (i : Nat) => plainC ⟨ns, ts, st, rs⟩ i).map encL) .held])], H⟩ = some (.exit 0, ⟨[(2, .ptr H.length 2 0), (3, .ptr H.length 3 0)], [(2, .cells [.sl [] .held, .sl [] .held, .int .i64 0, .sl [] .held, .sl [] .held, .sl [] .held, .int .i64 0, .sl [] .held, .sl [] .held, .sl [] .held]), (3, .cells [.sl (ns.map V.str) .no, .sl (ts.map V.str) .no, .int .i64 st, .sl (rs.map encR) .no, .sl (ns.map V.str) .no, .sl (ts.map V.str) .no, .int .i64 st, .sl (rs.map encR) .no, .sl (ss.map encS) .no, .sl (((List.range rs.length).map fun (i : Nat) => plainC ⟨ns, ts, st, rs⟩ i).map encL) .held])], H⟩) := by
  intro k
  induction k with
  | zero =>
    intro i j h hj; subst hj
    obtain rfl : i = rs.length := by omega
    (rw [st_tmpl_Same_l0]; simp (disch := first | assumption | omega | (simp; done) | (simp only [ByteArray.size_append]; omega)) [-getElem?_pos, -List.all_eq_true, -List.any_eq_true, -List.length_eq_zero_iff, -List.map_take, -List.map_drop, b_tmpl_Same_l0, -List.map_map])
  | succ k ih =>
    intro i j h hj; subst hj
    have ih := ih (i + 1) (i + 1) (by omega) (by omega)
    have hp := fun (L : Tab) => sp_Plain (lk := H.length + 1) (H := H ++ [L]) (by simp) ns ts st rs i (by omega) hrr
    rw [List.range_succ] at ih
    simp only [List.map_append, List.map_cons, List.map_nil, encL] at ih
    (rw [st_tmpl_Same_l0]; simp (disch := first | assumption | omega | (simp; done) | (simp only [ByteArray.size_append]; omega)) [-getElem?_pos, -List.all_eq_true, -List.any_eq_true, -List.length_eq_zero_iff, -List.map_take, -List.map_drop, b_tmpl_Same_l0, hp, ih, appMost, -List.map_map])
theorem sp_tSame (hlk : lk ≤ H.length) (ns ts : List ByteArray) (st : Int) (rs : List Rule) (hn : ns.length ≤ 1000000) (hr : rs.length ≤ 1000000) (hrr : ∀ r ∈ rs, r.right.length ≤ 1000000) : lim mach lk f_tmpl_Same [(.agg [.sl (ns.map V.str) .no, .sl (ts.map V.str) .no, .int .i64 st, .sl (rs.map encR) .no])] H = some (encT (sameC ⟨ns, ts, st, rs⟩), H) := by
  have hS := fun (L : Tab) => sp_Sorts (lk := H.length + 1) (H := H ++ [L]) (by simp) ns ts st rs ns.length (by omega)
  simp only [Int.toNat_natCast] at hS
  have h := tsame_l0 hlk ns ts st rs (srtsC ns.length) hr hrr rs.length 0 0 (by omega) rfl
  simp only [List.range_zero, List.map_nil] at h
  unfold sameC
  generalize srtsC ns.length = ss at *
  generalize (List.range rs.length).map (fun (i : Nat) => plainC ⟨ns, ts, st, rs⟩ i) = pl at *
  simp only [encT, Gram.cells, List.cons_append, List.nil_append]
  (rw [eq_tmpl_Same]; simp (disch := first | assumption | omega | (simp; done) | (simp only [ByteArray.size_append]; omega)) [-getElem?_pos, -List.all_eq_true, -List.any_eq_true, -List.length_eq_zero_iff, -List.map_take, -List.map_drop, c_tmpl_Same, hS, h])
theorem rsame_l0 (l : List Item) (hl : l.length ≤ 4611686018427387904) (hih : ∀ k n q, Item.mk k n q ∈ l → ∀ lk (H : List Tab), lim mach lk f_ref12_Same [.sl (q.map encIt) .no, .sl (q.map encIt) .no] H = some (.bool true, H)) : ∀ (r : List Item) (i : Nat) (j : Int), l.drop i = r → j = i → lp mach lk c_ref12_Same_l0 ⟨[(0, .sl (l.map encIt) .no), (1, .sl (l.map encIt) .no), (5, .int .i64 j)], [], H⟩ = some (.exit 0, ⟨[], [], H⟩) := by
  intro r
  induction r with
  | nil =>
    intro i j h hj; subst hj
    have := drop_nil h
    (rw [st_ref12_Same_l0]; simp (disch := first | assumption | omega | (simp; done) | (simp only [ByteArray.size_append]; omega)) [-getElem?_pos, -List.all_eq_true, -List.any_eq_true, -List.length_eq_zero_iff, -List.map_take, -List.map_drop, b_ref12_Same_l0])
  | cons x r ih =>
    intro i j h hj; subst hj
    obtain ⟨hx, hlt, hr⟩ := drop_cons h
    obtain ⟨k, n, q⟩ := x
    have hc := hih k n q (mem_drop h)
    have ih := ih (i + 1) (i + 1) hr (by omega)
    by_cases c2 : k = 2
    · (rw [st_ref12_Same_l0]; simp (disch := first | assumption | omega | (simp; done) | (simp only [ByteArray.size_append]; omega)) [-getElem?_pos, -List.all_eq_true, -List.any_eq_true, -List.length_eq_zero_iff, -List.map_take, -List.map_drop, b_ref12_Same_l0, hx, c2, ih])
    · by_cases c0 : k = 0
      · (rw [st_ref12_Same_l0]; simp (disch := first | assumption | omega | (simp; done) | (simp only [ByteArray.size_append]; omega)) [-getElem?_pos, -List.all_eq_true, -List.any_eq_true, -List.length_eq_zero_iff, -List.map_take, -List.map_drop, b_ref12_Same_l0, hx, c0, hc, ih])
      · by_cases c3 : k = 3
        · (rw [st_ref12_Same_l0]; simp (disch := first | assumption | omega | (simp; done) | (simp only [ByteArray.size_append]; omega)) [-getElem?_pos, -List.all_eq_true, -List.any_eq_true, -List.length_eq_zero_iff, -List.map_take, -List.map_drop, b_ref12_Same_l0, hx, c3, hc, ih])
        · (rw [st_ref12_Same_l0]; simp (disch := first | assumption | omega | (simp; done) | (simp only [ByteArray.size_append]; omega)) [-getElem?_pos, -List.all_eq_true, -List.any_eq_true, -List.length_eq_zero_iff, -List.map_take, -List.map_drop, b_ref12_Same_l0, hx, c2, c0, c3, ih])
theorem sp_rItSame : ∀ (k : Nat) (l : List Item), itsSize l ≤ k → itsOk 4611686018427387904 l → l.length ≤ 4611686018427387904 → ∀ lk (H : List Tab), lim mach lk f_ref12_Same [.sl (l.map encIt) .no, .sl (l.map encIt) .no] H = some (.bool true, H) := by
  intro k
  induction k using Nat.strongRecOn with
  | ind k ih =>
    intro l hk hok hl lk H
    have h := rsame_l0 (lk := lk) (H := H) l hl (fun a n q hm lk H => by
      have h1 := itsSize_mem hm
      have h2 := itsOk_iff.1 hok _ hm
      rw [Item.size] at h1
      rw [itOk] at h2
      exact ih (itsSize q) (by omega) q (Nat.le_refl _) h2.2 h2.1 lk H) l 0 0 rfl rfl
    (rw [eq_ref12_Same]; simp (disch := first | assumption | omega | (simp; done) | (simp only [ByteArray.size_append]; omega)) [-getElem?_pos, -List.all_eq_true, -List.any_eq_true, -List.length_eq_zero_iff, -List.map_take, -List.map_drop, c_ref12_Same, h])
end Go.Proofs.YtlacnkjkcikodaaDoor.Am
end
section
set_option linter.unusedVariables false
set_option linter.unusedSimpArgs false
set_option maxHeartbeats 1000000
namespace Go.Proofs.YtlacnkjkcikodaaDoor.Am
open Go
variable {lk : Nat} {H : List Tab}
theorem rule_facts {n m : Nat} {r : Rule} (h : ruleC n m r = 0) : 0 ≤ r.left ∧ r.left < n ∧ r.right.length ≤ 64 ∧ ∀ x ∈ r.right, -(m : Int) ≤ x ∧ x < n := by
  unfold ruleC at h
  split at h
  · simp at h
  · rename_i h1
    split at h
    · simp at h
    · rename_i h2
      refine ⟨by omega, by omega, by omega, fun x hx => ?_⟩
      have h3 : ¬ r.right.any (fun s => !hasI n m s) = true := fun h => h1 (.inr (.inr h))
      simp only [List.any_eq_true, not_exists, not_and, Bool.not_eq_true, Bool.not_eq_false'] at h3
      have := h3 x hx
      unfold hasI at this
      exact of_decide_eq_true this
theorem srtsC_get {n k : Nat} (h : k < n) : (srtsC n).getD k ⟨false, [], []⟩ = ⟨false, [], [(k : Int)]⟩ := by
  refine getD_of ?_
  unfold srtsC
  rw [List.getElem?_map, List.getElem?_range h]; rfl
theorem same_kid {g : Gram} {r : Rule} (h : ∀ x ∈ r.right, x < g.names.length) {i : Nat} {x : Int} (hx : r.right[i]? = some x) : kidC (sameC g) r i = (x, ⟨false, [], [x]⟩, 0) := by
  have hi := (List.getElem?_eq_some_iff.1 hx).1
  have := h x (List.mem_of_getElem? hx)
  unfold kidC
  rw [if_neg (by omega)]
  simp only [Int.toNat_natCast, getD_of hx]
  split
  · rfl
  · rename_i h0
    obtain ⟨x, rfl⟩ := Int.eq_ofNat_of_zero_le (Int.not_lt.1 h0)
    show ((x : Int), (srtsC g.names.length).getD _ _, (0 : Int)) = _
    rw [Int.toNat_natCast, srtsC_get (by omega)]
theorem same_holes {g : Gram} {r : Rule} (s : Srt) (h : ∀ x ∈ r.right, x < g.names.length) (d : Nat) : ∀ (k i : Nat) (out c : List Int), i + k = r.right.length → allC (sameC g) r s ((List.range' i k).map fun (k : Nat) => .mk 1 k []) d out c = (out ++ r.right.drop i, 0, c ++ (List.range' i k).map fun (k : Nat) => (k : Int))
  | 0, i, out, c, hk => by
    rw [List.drop_eq_nil_of_le (by omega)]
    simp [allC]
  | k + 1, i, out, c, hk => by
    obtain ⟨x, hx⟩ := at_some (l := r.right) (i := i) (by omega)
    have e : oneC (sameC g) r s (.mk 1 i []) d = ([x], 0, [(i : Int)]) := by
      rw [oneC, if_neg (by omega), if_pos rfl, same_kid h hx]
      simp
    have e2 : r.right.drop i = x :: r.right.drop (i + 1) := by
      have := List.getElem?_eq_some_iff.1 hx
      rw [← this.2]; exact List.drop_eq_getElem_cons this.1
    rw [List.range'_succ, List.map_cons, List.map_cons, allC, e, e2]
    simp only [ne_eq, not_true, if_false]
    rw [same_holes s h d k (i + 1) _ _ (by omega)]
    simp
theorem same_templ {g : Gram} {i : Nat} {r : Rule} (hr : g.rules[i]? = some r) (h1 : 0 ≤ r.left ∧ r.left < g.names.length) (h : ∀ x ∈ r.right, x < g.names.length) : templC (sameC g) r (plainC g i) = 0 := by
  have hi := (List.getElem?_eq_some_iff.1 hr).1
  obtain ⟨a, m⟩ := r
  obtain ⟨a, rfl⟩ := Int.eq_ofNat_of_zero_le h1.1
  have es : (sameC g).sorts.getD ((a : Int)).toNat ⟨false, [], []⟩ = ⟨false, [], [(a : Int)]⟩ := by
    rw [Int.toNat_natCast]; exact srtsC_get (by have := h1.2; simp only at this; omega)
  unfold templC
  simp only [es]
  have ep : plainC g i = [.mk 0 i (holesC m.length)] := by
    unfold plainC
    rw [if_neg (by omega)]
    simp only [Int.toNat_natCast, getD_of hr]
  rw [ep]
  have eh : holesC m.length = (List.range' 0 m.length).map fun (k : Nat) => .mk 1 k [] := by unfold holesC; rw [List.range_eq_range']
  have ea := same_holes (g := g) (r := ⟨a, m⟩) ⟨false, [], [(a : Int)]⟩ h 2 m.length 0 [] [] (by simp)
  rw [← eh] at ea
  have en : nodeC (sameC g) i m = ([(a : Int)], 0) := by
    unfold nodeC
    rw [if_neg (by simp only [sameC]; omega)]
    have : (sameC g).inn.rules.getD ((i : Int)).toNat ⟨0, []⟩ = ⟨a, m⟩ := by rw [Int.toNat_natCast]; exact getD_of hr
    simp only [this, if_true]
  have eo : oneC (sameC g) ⟨a, m⟩ ⟨false, [], [(a : Int)]⟩ (.mk 0 i (holesC m.length)) 1 = ([(a : Int)], 0, (List.range' 0 m.length).map fun (k : Nat) => (k : Int)) := by
    rw [oneC, if_neg (by omega), if_neg (by omega), if_neg (by omega), if_neg (by omega), ea]
    simp [en]
  rw [allC, eo]
  simp only [ne_eq, not_true, if_false, List.nil_append, allC]
  rw [if_neg (by simp [wantC, List.range_eq_range'])]
theorem same_check (g : Gram) : tcheckC (sameC g) = checkC g := by
  unfold tcheckC
  show (if checkC g ≠ 0 then checkC g else if checkC g ≠ 0 then checkC g else if g.terms ≠ g.terms then 1 else if (srtsC g.names.length).length ≠ g.names.length ∨ ((List.range g.rules.length).map fun (i : Nat) => plainC g i).length ≠ g.rules.length then 12 else if sortsC (sameC g) ≠ 0 then sortsC (sameC g) else templsC (sameC g) g.rules 0) = _
  by_cases hc : checkC g = 0
  · rw [if_neg (by simp [hc]), if_neg (by simp [hc]), if_neg (by simp), if_neg (by simp [srtsC_len])]
    obtain ⟨q1, s0, s1, -, -, -, -, -, -⟩ := check0 hc
    have hs : sortsC (sameC g) = 0 := by
      unfold sortsC
      rw [if_neg]
      · obtain ⟨st, hst⟩ := Int.eq_ofNat_of_zero_le s0
        have : (sameC g).sorts.getD (sameC g).out.start.toNat ⟨false, [], []⟩ = ⟨false, [], [g.start]⟩ := by
          show (srtsC g.names.length).getD g.start.toNat _ = _
          rw [hst, Int.toNat_natCast]; exact srtsC_get (by omega)
        simp only [this]
        rw [if_neg]
        simp [sameC]
      · simp only [List.any_eq_true, not_exists, not_and]
        intro s hsm
        have hsm : s ∈ srtsC g.names.length := hsm
        unfold srtsC at hsm
        obtain ⟨k, hk, rfl⟩ := List.mem_map.1 hsm
        have hk := List.mem_range.1 hk
        have : hasI g.names.length g.terms.length k = true := by unfold hasI; rw [decide_eq_true_eq]; omega
        simp [sameC, this]
    rw [if_neg (by simp [hs]), hc]
    have : ∀ (r : List Rule) (i : Nat), g.rules.drop i = r → templsC (sameC g) r i = 0 := by
      intro r
      induction r with
      | nil => intro i _; rfl
      | cons x r ih =>
        intro i hd
        obtain ⟨hx, hlt, hr⟩ := drop_cons hd
        have hf := rule_facts (q1 x (mem_drop hd))
        have e : (sameC g).rules.getD i [] = plainC g i := by
          refine getD_of ?_
          show ((List.range g.rules.length).map fun (i : Nat) => plainC g i)[i]? = _
          rw [List.getElem?_map, List.getElem?_range hlt]; rfl
        rw [templsC, e, same_templ hx ⟨hf.1, hf.2.1⟩ (fun y hy => (hf.2.2.2 y hy).2), if_neg (by simp)]
        exact ih (i + 1) hr
    exact this g.rules 0 rfl
  · rw [if_pos hc]
theorem plain_size (g : Gram) (i : Int) (h : ∀ r ∈ g.rules, r.right.length ≤ 600) : (plainC g i).length ≤ 1 ∧ itsSize (plainC g i) ≤ 601 ∧ itsOk 600 (plainC g i) := by
  have hh : ∀ n : Nat, itsSize (holesC n) = n ∧ itsOk 600 (holesC n) := by
    have key : ∀ l : List Nat, itsSize (l.map fun (k : Nat) => .mk 1 k []) = l.length ∧ itsOk 600 (l.map fun (k : Nat) => Item.mk 1 k []) := by
      intro l
      induction l with
      | nil => exact ⟨rfl, trivial⟩
      | cons x l ih => simp only [List.map_cons, itsSize, Item.size, itsOk, itOk, List.length_cons, ih, List.length_nil]; exact ⟨by omega, ⟨by omega, trivial⟩, trivial⟩
    intro n
    have := key (List.range n)
    rw [List.length_range] at this
    exact this
  unfold plainC
  split
  · simp [itsSize, itsOk]
  · have hl : (g.rules.getD i.toNat ⟨0, []⟩).right.length ≤ 600 := by
      cases hx : g.rules[i.toNat]? with
      | none => rw [List.getD_eq_getElem?_getD, hx]; simp
      | some x => rw [getD_of hx]; exact h x (List.mem_of_getElem? hx)
    obtain ⟨h1, h2⟩ := hh (g.rules.getD i.toNat ⟨0, []⟩).right.length
    simp only [itsSize, Item.size, itsOk, itOk, List.length_cons, List.length_nil, h1, holesC_len]
    exact ⟨by omega, by omega, ⟨hl, h2⟩, trivial⟩
theorem same_ok {g : Gram} (hg : OkG g) (hn : g.names.length ≤ 1000000) (h : ∀ r ∈ g.rules, r.right.length ≤ 600) : TOk (sameC g) := by
  have hs : ∀ s ∈ (sameC g).sorts, ∃ k : Nat, k < g.names.length ∧ s = ⟨false, [], [(k : Int)]⟩ := fun s hsm => by
    have hsm : s ∈ srtsC g.names.length := hsm
    unfold srtsC at hsm
    obtain ⟨k, hk, rfl⟩ := List.mem_map.1 hsm
    exact ⟨k, List.mem_range.1 hk, rfl⟩
  refine ⟨hg, hg, fun s hsm => ?_, fun s hsm => ?_, fun l hl => ?_⟩
  · obtain ⟨k, hk, rfl⟩ := hs s hsm
    exact ⟨by simp, by simp, by simp, fun x hx => by obtain rfl := List.mem_singleton.1 hx; omega⟩
  · obtain ⟨k, hk, rfl⟩ := hs s hsm
    simp
  · obtain ⟨i, -, rfl⟩ := List.mem_map.1 hl
    have := plain_size g i h
    exact ⟨by omega, by omega⟩
theorem sp_Awake12 (hlk : lk ≤ H.length) : lim mach lk f_law12_Awake [] H = some (.bool true, H) := by
  have h1 := fun (L : Tab) => sp_Example (lk := H.length + 1) (H := H ++ [L]) (by simp)
  have h2 := fun (L : Tab) => sp_Plain (lk := H.length + 1) (H := H ++ [L]) (by simp) exG.names exG.terms exG.start exG.rules 0 (by simp [exG]) (by simp [exG])
  have e : plainC ⟨exG.names, exG.terms, exG.start, exG.rules⟩ 0 = [.mk 0 0 [.mk 1 0 [], .mk 1 1 []]] := by kernel_rfl
  rw [e] at h2
  have h3 := fun (L : Tab) => sp_Awake2 (lk := H.length + 1) (H := H ++ [L]) (by simp)
  simp only [exG, encG, encR, List.map_cons, List.map_nil, encIt_mk] at h1 h2
  (rw [eq_law12_Awake]; simp (disch := first | assumption | omega | (simp; done) | (simp only [ByteArray.size_append]; omega)) [-getElem?_pos, -List.all_eq_true, -List.any_eq_true, -List.length_eq_zero_iff, -List.map_take, -List.map_drop, c_law12_Awake, h1, h2, h3])
end Go.Proofs.YtlacnkjkcikodaaDoor.Am
end
section
set_option linter.unusedVariables false
set_option linter.unusedSimpArgs false
set_option maxHeartbeats 1000000
namespace Go.Proofs.YtlacnkjkcikodaaDoor.Am
open Go
variable {lk : Nat} {H : List Tab}
theorem small_spec2 {g : Gram} (h : smallB g = true) : g.rules.length ≤ 120 ∧ g.names.length ≤ 60 ∧ g.terms.length ≤ 60 ∧ sizeC g.rules ≤ 600 ∧ ∀ r ∈ g.rules, r.right.length ≤ 600 := by
  have h := of_decide_eq_true h
  have p1 := textsW_0 g.names
  have p2 := textsW_0 g.terms
  refine ⟨h.2.2.2, h.2.1, h.2.2.1, by omega, fun r hr => ?_⟩
  have : ∀ (l : List Rule), r ∈ l → (r.right.length : Int) ≤ sizeC l := by
    intro l
    induction l with
    | nil => intro h; cases h
    | cons x l ih =>
      intro h
      have := sizeC_0 l
      simp only [sizeC]
      rcases List.mem_cons.1 h with rfl | h
      · omega
      · have := ih h; omega
  have := this g.rules hr
  omega
end Go.Proofs.YtlacnkjkcikodaaDoor.Am
end
section
set_option linter.unusedVariables false
set_option linter.unusedSimpArgs false
set_option maxHeartbeats 1000000
namespace Go.Proofs.YtlacnkjkcikodaaDoor.Am
open Go
variable {lk : Nat} {H : List Tab}
theorem tp_l0 (hlk : lk ≤ H.length) (ns ts : List ByteArray) (st : Int) (rs : List Rule) (i : Int) (n : Nat) (hn : n ≤ 1000000) : ∀ (k m : Nat) (j : Int), m + k = n → j = m → lp mach lk c_law12_TmplPlain_l0 ⟨[(1, .int .i64 i), (3, .ptr H.length 3 0), (27, .sl ((srtsC n).map encS) .no), (28, .int .i64 n), (29, .int .i64 j)], [(3, .cells [.sl (ns.map V.str) .no, .sl (ts.map V.str) .no, .int .i64 st, .sl (rs.map encR) .no])], H⟩ = some (.exit 0, ⟨[(1, .int .i64 i), (3, .ptr H.length 3 0)], [(3, .cells [.sl (ns.map V.str) .no, .sl (ts.map V.str) .no, .int .i64 st, .sl (rs.map encR) .no])], H⟩) := by
  have hx : ∀ m, m < n → (srtsC n)[m]? = some ⟨false, [], [(m : Int)]⟩ := fun m h => by
    unfold srtsC; rw [List.getElem?_map, List.getElem?_range h]; rfl
  have hlen := srtsC_len n
  generalize srtsC n = ss at *
  intro k
  induction k with
  | zero =>
    intro m j h hj; subst hj
    obtain rfl : m = n := by omega
    (rw [st_law12_TmplPlain_l0]; simp (disch := first | assumption | omega | (simp; done) | (simp only [ByteArray.size_append]; omega)) [-getElem?_pos, -List.all_eq_true, -List.any_eq_true, -List.length_eq_zero_iff, -List.map_take, -List.map_drop, b_law12_TmplPlain_l0])
  | succ k ih =>
    intro m j h hj; subst hj
    have hxm := hx m (by omega)
    have ih := ih (m + 1) (m + 1) (by omega) (by omega)
    (rw [st_law12_TmplPlain_l0]; simp (disch := first | assumption | omega | (simp; done) | (simp only [ByteArray.size_append]; omega)) [-getElem?_pos, -List.all_eq_true, -List.any_eq_true, -List.length_eq_zero_iff, -List.map_take, -List.map_drop, b_law12_TmplPlain_l0, hxm, ih])
theorem sp_TmplPlain (hlk : lk ≤ H.length) (ns ts : List ByteArray) (st : Int) (rs : List Rule) (i n : Int) (hg : OkG ⟨ns, ts, st, rs⟩) (hn : ∀ s ∈ ns, s.size ≤ 140737488355328) (ht : ∀ s ∈ ts, s.size ≤ 140737488355328) (hr : ∀ r ∈ rs, r.right.length ≤ 140737488355328) : lim mach lk f_law12_TmplPlain [(.agg [.sl (ns.map V.str) .no, .sl (ts.map V.str) .no, .int .i64 st, .sl (rs.map encR) .no]), .int .i64 i, .int .i64 n] H = some (.bool true, H) := by
  have q1 := fun (L : Tab) => sp_Small (lk := H.length + 1) (H := H ++ [L]) (by simp) ns ts st rs hg hn ht hr
  have qA := fun (L : Tab) => sp_Awake12 (lk := H.length + 1) (H := H ++ [L]) (by simp)
  cases hsm : smallB ⟨ns, ts, st, rs⟩ with
  | false => rw [hsm] at q1; (rw [eq_law12_TmplPlain]; simp (disch := first | assumption | omega | (simp; done) | (simp only [ByteArray.size_append]; omega)) [-getElem?_pos, -List.all_eq_true, -List.any_eq_true, -List.length_eq_zero_iff, -List.map_take, -List.map_drop, c_law12_TmplPlain, q1, qA])
  | true =>
    rw [hsm] at q1
    obtain ⟨z1, z2, z3, z4, z5⟩ := small_spec2 hsm
    simp only at z1 z2 z3 z4 z5
    by_cases c0 : 200 < n
    · (rw [eq_law12_TmplPlain]; simp (disch := first | assumption | omega | (simp; done) | (simp only [ByteArray.size_append]; omega)) [-getElem?_pos, -List.all_eq_true, -List.any_eq_true, -List.length_eq_zero_iff, -List.map_take, -List.map_drop, c_law12_TmplPlain, q1, qA, c0])
    have hb2 : ∀ r ∈ rs, r.right.length ≤ 500000000 := fun r hr => by have := z5 r hr; omega
    have hb3 : ∀ r ∈ rs, r.right.length ≤ 1000000 := fun r hr => by have := z5 r hr; omega
    have q2 := fun (L : Tab) => sp_Sorts (lk := H.length + 1) (H := H ++ [L]) (by simp) ns ts st rs n (by omega)
    have q3 := fun (L : Tab) => sp_Of2 (lk := H.length + 1) (H := H ++ [L]) (by simp) ns ts st rs (by omega) hb2
    have q4 := fun (L : Tab) => sp_Check (lk := H.length + 1) (H := H ++ [L]) (by simp) ⟨ns, ts, st, rs⟩ hg
    have q5 := fun (L : Tab) => sp_tSame (lk := H.length + 1) (H := H ++ [L]) (by simp) ns ts st rs (by omega) (by omega) hb3
    have q6 := fun (L : Tab) => sp_tCheck (lk := H.length + 1) (H := H ++ [L]) (by simp) (sameC ⟨ns, ts, st, rs⟩) (same_ok hg (by simp only; omega) z5)
    have q7 := fun (L : Tab) => sp_Plain (lk := H.length + 1) (H := H ++ [L]) (by simp) ns ts st rs i (by omega) hb3
    have q8 := fun (L : Tab) => sp_rPlain (lk := H.length + 1) (H := H ++ [L]) (by simp) ns ts st rs i (by omega) hb3
    obtain ⟨p1, p2, p3⟩ := plain_size ⟨ns, ts, st, rs⟩ i z5
    have up : ∀ (B B' : Nat), B ≤ B' → ∀ (k : Nat) (l : List Item), itsSize l ≤ k → itsOk B l → itsOk B' l := by
      intro B B' hB k
      induction k using Nat.strongRecOn with
      | ind k ih =>
        intro l hk h
        rw [itsOk_iff] at h ⊢
        intro x hx
        obtain ⟨a, b, q⟩ := x
        have h1 := itsSize_mem hx
        have h2 := h _ hx
        rw [Item.size] at h1
        rw [itOk] at h2 ⊢
        exact ⟨by omega, ih (itsSize q) (by omega) q (Nat.le_refl _) h2.2⟩
    have q9 := fun (L : Tab) => sp_Items (itsSize (plainC ⟨ns, ts, st, rs⟩ i)) (plainC ⟨ns, ts, st, rs⟩ i) (Nat.le_refl _) (up _ _ (by omega) _ _ (Nat.le_refl _) p3) (by omega) (H.length + 1) (H ++ [L]) (by simp)
    have qs := fun (L : Tab) => sp_rItSame (itsSize (plainC ⟨ns, ts, st, rs⟩ i)) (plainC ⟨ns, ts, st, rs⟩ i) (Nat.le_refl _) (up _ _ (by omega) _ _ (Nat.le_refl _) p3) (by omega) (H.length + 1) (H ++ [L])
    have h0 := tp_l0 hlk ns ts st rs i n.toNat (by omega) n.toNat 0 0 (by omega) rfl
    rw [same_check] at q6
    have hlen := srtsC_len n.toNat
    simp only [encT, sameC, Gram.cells, List.cons_append, List.nil_append, encG] at q4 q5 q6
    have hpl : ((List.range rs.length).map fun (i : Nat) => plainC ⟨ns, ts, st, rs⟩ i).length = rs.length := by simp
    generalize (List.range rs.length).map (fun (i : Nat) => plainC ⟨ns, ts, st, rs⟩ i) = pl at *
    generalize srtsC ns.length = sn at *
    generalize srtsC n.toNat = ss at *
    generalize plainC ⟨ns, ts, st, rs⟩ i = pp at *
    generalize checkC ⟨ns, ts, st, rs⟩ = e at *
    by_cases c1 : 0 ≤ n
    · obtain ⟨n, rfl⟩ := Int.eq_ofNat_of_zero_le c1
      simp only [Int.toNat_natCast] at hlen h0 q2
      by_cases c2 : e = 0
      · subst c2
        by_cases c3 : 0 < rs.length
        · (rw [eq_law12_TmplPlain]; simp (disch := first | assumption | omega | (simp; done) | (simp only [ByteArray.size_append]; omega)) [-getElem?_pos, -List.all_eq_true, -List.any_eq_true, -List.length_eq_zero_iff, -List.map_take, -List.map_drop, c_law12_TmplPlain, q1, qA, c0, q2, q3, q4, q5, q6, q7, q8, q9, qs, h0, hlen, low64, hpl, c3])
        · (rw [eq_law12_TmplPlain]; simp (disch := first | assumption | omega | (simp; done) | (simp only [ByteArray.size_append]; omega)) [-getElem?_pos, -List.all_eq_true, -List.any_eq_true, -List.length_eq_zero_iff, -List.map_take, -List.map_drop, c_law12_TmplPlain, q1, qA, c0, q2, q3, q4, q5, q6, q7, q8, q9, qs, h0, hlen, low64, hpl, c3])
      · (rw [eq_law12_TmplPlain]; simp (disch := first | assumption | omega | (simp; done) | (simp only [ByteArray.size_append]; omega)) [-getElem?_pos, -List.all_eq_true, -List.any_eq_true, -List.length_eq_zero_iff, -List.map_take, -List.map_drop, c_law12_TmplPlain, q1, qA, c0, q2, q3, q4, q5, q6, q7, q8, q9, qs, h0, hlen, low64, hpl, c2])
    · have e0 : n.toNat = 0 := by omega
      rw [e0] at hlen h0
      simp only [Int.natCast_zero] at h0
      by_cases c2 : e = 0
      · subst c2
        by_cases c3 : 0 < rs.length
        · (rw [eq_law12_TmplPlain]; simp (disch := first | assumption | omega | (simp; done) | (simp only [ByteArray.size_append]; omega)) [-getElem?_pos, -List.all_eq_true, -List.any_eq_true, -List.length_eq_zero_iff, -List.map_take, -List.map_drop, c_law12_TmplPlain, q1, qA, c0, q2, q3, q4, q5, q6, q7, q8, q9, qs, h0, hlen, low64, hpl, c3])
        · (rw [eq_law12_TmplPlain]; simp (disch := first | assumption | omega | (simp; done) | (simp only [ByteArray.size_append]; omega)) [-getElem?_pos, -List.all_eq_true, -List.any_eq_true, -List.length_eq_zero_iff, -List.map_take, -List.map_drop, c_law12_TmplPlain, q1, qA, c0, q2, q3, q4, q5, q6, q7, q8, q9, qs, h0, hlen, low64, hpl, c3])
      · (rw [eq_law12_TmplPlain]; simp (disch := first | assumption | omega | (simp; done) | (simp only [ByteArray.size_append]; omega)) [-getElem?_pos, -List.all_eq_true, -List.any_eq_true, -List.length_eq_zero_iff, -List.map_take, -List.map_drop, c_law12_TmplPlain, q1, qA, c0, q2, q3, q4, q5, q6, q7, q8, q9, qs, h0, hlen, low64, hpl, c2])
end Go.Proofs.YtlacnkjkcikodaaDoor.Am
end
section
set_option linter.unusedVariables false
set_option linter.unusedSimpArgs false
namespace Go.Proofs.YtlacnkjkcikodaaDoor.Am
open Go Go.RowKit
theorem tmplPlain_calls (w : World) (hL : Laid w) {v : Value} {g : Gram} (hv : VR w (topG w hL) (encG g) v) (hg : GArg g) (a : Int) (_ : (Lit.int .i64 a).wf = true) (b : Int) (_ : (Lit.int .i64 b).wf = true) :
    Calls Tryd.prog 12 #[v, .int .i64 a, .int .i64 b] w fun e w' => e = .returned (.bool true) ∧ Below w.heap.size w w' := by
  have h := sp_TmplPlain (lk := 0) (H := []) (Nat.le_refl _) g.names g.terms g.start g.rules a b hg.ok hg.s0 hg.s1 (fun r hr => (hg.r3 r hr).2.1)
  obtain ⟨k, hk⟩ := lim_iff.1 h
  exact top_true mach_ok Tryd.func12 rfl (by kernel_rfl) ⟨k, hk⟩ hL (vals := [v, .int .i64 a, .int .i64 b]) (.cons hv (.cons (CR.int .i64 a) (.cons (CR.int .i64 b) .nil)))
    (fun x hx => by
      simp only [List.mem_cons, List.not_mem_nil, or_false] at hx
      rcases hx with rfl | rfl | rfl
      · exact gram_out g
      · exact ⟨rfl, rfl⟩
      · exact ⟨rfl, rfl⟩)
end Go.Proofs.YtlacnkjkcikodaaDoor.Am
end
namespace Go.Proofs.YtlacnkjkcikodaaDoor.tmplPlain
open Go Go.ChangeShapes Go.WideShapes Go.ChangeAt Go.RowKit
open Go.ChangeMaps (open_string shut_string)
set_option linter.unusedVariables false
theorem own : ownKnob Tryd.prog.godebug = none := by kernel_rfl
theorem laidOut : laidOutB Tryd.prog = true := by kernel_rfl
def laid : List (String × DataW Unit) := [("math/bits.deBruijn32tab", Rows.laid_math_bits_deBruijn32tab), ("math/bits.deBruijn64tab", Rows.laid_math_bits_deBruijn64tab), ("internal/strconv.uint64pow10", Rows.laid_internal_strconv_uint64pow10)]
theorem laid_in : (("internal/strconv.uint64pow10", Lib.tabData .u64 Lib.pow10Tab) : String × DataW Unit) ∈ laid := by
  rw [show (Lib.tabData .u64 Lib.pow10Tab : DataW Unit) = Rows.laid_internal_strconv_uint64pow10 by kernel_rfl]
  exact List.Mem.tail _ (List.Mem.tail _ (List.Mem.head _))
theorem laid_met (os : Os) (args : Array Value) : laidMetH Tryd.prog laid ((World.laidAll Tryd.prog os laid).forCall (fun _ _ => 0) ⟨#[], args, []⟩).memory := by
  rw [Go.MakeChecks.laidMetH_plain _ _ _ (by kernel_rfl)]
  exact laidMet_laidAll args (by kernel_rfl) (by kernel_rfl)
set_option maxRecDepth 100000 in
theorem lifted (os : Os) (started : os.Started) (H : Type) (enc : TypeId × Value → H) :
    ReturnsInHanded {} Tryd.checked os 12 .any (fun w args => (Rows.tmplPlainSpec.pre enc Tryd.prog Tryd.f12 [] false w args ∧ laidMetH Tryd.prog laid w) ∧ sizedMet enc Tryd.prog Tryd.f12 (OpenSpec.ofChange Rows.tmplPlainSpec) false w args) (Rows.tmplPlainSpec.post enc Tryd.prog Tryd.f12 false true false false) := by
  refine returnsInHanded_of_change_and (C := Tryd.checked) (X := fun w _ => laidMetH Tryd.prog laid w) (fun _ _ _ hh h => h.of_heap hh) own started (by kernel_rfl) Tryd.func12
    (ChangeSpec.witness_at (enc := enc) (C := Tryd.checked) (os := os) (X := fun w _ => laidMetH Tryd.prog laid w) false (World.laidAll Tryd.prog os laid) #[.agg #[.slice none 0 0, .slice none 0 0, .int .i64 0, .slice none 0 0], .int .i64 0, .int .i64 0] 8 (World.laidAll_os _ _ _) (by kernel_rfl) (by kernel_rfl) (by kernel_rfl) (by kernel_rfl) (by kernel_rfl) (laid_met os _)) ?_
  intro W base args ds gs before hval0 hW hcnd hsz0 hL _
  have hsz : (DataW.weightsEach Tryd.prog (Tryd.f12.params.toList ++ Rows.tmplPlainSpec.plain.varTypes Tryd.prog) (ds ++ gs)).all (· ≤ reachBytes) = true := hsz0
  have hval : ∀ (j : Nat) t v, Tryd.f12.params[j]? = some t → args[j]? = some v → Value.okWide Tryd.prog W .any base t v := hval0
  have hW' := hW
  obtain ⟨p, q, hA0, hV, rfl, hfz, hnd⟩ := hW
  have hA : DataW.TrodAll enc Tryd.prog W 0 (fun _ => true) true Tryd.f12.params.toList args.toList ds p := hA0
  rw [Tryd.params12] at hA hval hsz
  obtain ⟨v0, vs0, d0, ds0, p0, q0, hargs, rfl, rfl, h0, r0⟩ := trodAll_cons hA
  obtain ⟨v1, vs1, d1, ds1, p1, q1, rfl, rfl, rfl, h1, r1⟩ := trodAll_cons r0
  obtain ⟨v2, vs2, d2, ds2, p2, q2, rfl, rfl, rfl, h2, r2⟩ := trodAll_cons r1
  obtain ⟨rfl, rfl, rfl⟩ := trodAll_nil r2
  obtain rfl : args = #[v0, v1, v2] := by cases args; simp_all
  obtain ⟨rfl, rfl⟩ := trodVars_none hV
  have k0 := h0
  have lt0 : ∀ x ∈ p0, x.block < W.heap.size := by obtain ⟨m, hm⟩ := k0; exact DataW.trod_lt m _ _ _ hm
  obtain ⟨g0, vr0, ga0⟩ := Am.open_gramA (hL := laid_of (by kernel_rfl) laid_in hL) (hval 0 25 v0 rfl rfl) h0 (Am.weigh hsz (j := 0) rfl rfl)
  obtain ⟨a1, rfl, rfl, rfl, w1⟩ := open_int Tryd.underlying3 (hval 1 3 v1 rfl rfl) h1
  obtain ⟨a2, rfl, rfl, rfl, w2⟩ := open_int Tryd.underlying3 (hval 2 3 v2 rfl rfl) h2
  clear hA0 hval0 hsz0 hsz
  refine (Go.Proofs.YtlacnkjkcikodaaDoor.Am.tmplPlain_calls W (laid_of (by kernel_rfl) laid_in hL) vr0 ga0 a1 w1 a2 w2).mono fun e W' hpost => ?_
  obtain ⟨he, bel⟩ : e = .returned (.bool true) ∧ Below W.heap.size W W' := hpost
  subst he
  exact ⟨_, rfl, _, _, _, [], _, [], hW', trodAll_mk1 (shut_bool Tryd.underlying4 _), (trodAll_cons_mk (Below.trod laidOut (by kernel_rfl) (of_decide_eq_true (by kernel_rfl)) k0 bel lt0) (trodAll_cons_mk (shut_int Tryd.underlying3 w1) (trodAll_cons_mk (shut_int Tryd.underlying3 w2) trodAll_mk0))), rfl, bel.frame _, fun h => by cases h⟩
theorem over : Rows.TmplPlainSaid :=
  OpenClaim.holds_of_wide 12 Tryd.f12 rfl rfl rfl rfl rfl rfl rfl ⟨rfl, rfl, rfl, rfl, rfl⟩ rfl rfl rfl rfl rfl (by kernel_rfl) Tryd.func12 (by kernel_rfl)
    (of_decide_eq_true (by kernel_rfl)) (by unfold Func.isWrapper; first | (rw [if_pos (by decide +kernel)]; kernel_rfl) | (rw [if_neg (by decide +kernel)]; exact ⟨rfl, rfl⟩))
    (fun os started H enc _ => lifted os started H enc)
theorem carded : Rows.TmplPlainCardSaid :=
  Claim7.holds_tied_plain_at .later [] [.data, .data, .data] true (true, "89abc19328727d928b1072c3e57a07c25fd2f401f2357e5a3c2f8e765eb4ff5b") true
    over (fun _ h => by cases h) (by kernel_rfl) (fun _ h => by cases h) tmplPlain_row_tie rfl ⟨rfl, rfl⟩ (by kernel_rfl) rfl
    (fun f fn hf hfn => by
      obtain rfl : f = 12 := Option.some.inj ((show Tryd.prog.funcNamed Rows.tmplPlainRow.func = some 12 by kernel_rfl).symm.trans hf) |>.symm
      obtain rfl : fn = Tryd.f12 := (Option.some.inj (Tryd.func12.symm.trans hfn)).symm
      exact ⟨by kernel_rfl, fun j t ht => by
        rw [Tryd.params12] at ht
        rcases j with _ | j
        · obtain rfl : t = 25 := by simpa using ht.symm
          exact (show Tryd.prog.wantsStandIn 25 = false by kernel_rfl)
        rcases j with _ | j
        · obtain rfl : t = 3 := by simpa using ht.symm
          exact (show Tryd.prog.wantsStandIn 3 = false by kernel_rfl)
        rcases j with _ | j
        · obtain rfl : t = 3 := by simpa using ht.symm
          exact (show Tryd.prog.wantsStandIn 3 = false by kernel_rfl)
        simp at ht⟩)
    (by kernel_rfl)
#print axioms carded
end Go.Proofs.YtlacnkjkcikodaaDoor.tmplPlain
namespace Go.Proofs.YtlacnkjkcikodaaDoor
theorem tmplPlain_holds : Rows.TmplPlainCardSaid := tmplPlain.carded
end Go.Proofs.YtlacnkjkcikodaaDoor
