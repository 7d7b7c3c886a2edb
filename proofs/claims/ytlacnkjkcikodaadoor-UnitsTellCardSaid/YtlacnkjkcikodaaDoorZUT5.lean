/- what the units of a grammar tell, walked by the program, is what the document tells: part 6 of 6 of its proof, packed by a program of this session out of the texts SpI, SpJ, SpK, SpU, SpV, SpW, RowUT, LUnitsTell. -/
import Derived.Test.YtlacnkjkcikodaaDoorZUT4
import Derived.Test.YtlacnkjkcikodaaDoorRows
import Derived.Test.YtlacnkjkcikodaaDoorTie
import Derived.Test.YtlacnkjkcikodaaDoorCards
import Derived.WalkKit
import Derived.ProofKit
import Derived.OpenShut
import Derived.ShutString
import Derived.ChangeOld
import Derived.ChangeVars
import Derived.ChangeSame
import Derived.JoinedOf
import Derived.Below
import Derived.SizedLaws
import Derived.Handed
import Derived.LaidLaws
import Derived.LaidHandle
import Derived.Lay
import Derived.MakeChecks
import Derived.Stop.Joined
import Derived.SevenTiedAt
section
set_option linter.unusedVariables false
set_option linter.unusedSimpArgs false
set_option maxHeartbeats 1000000
namespace Go.Proofs.YtlacnkjkcikodaaDoor.Am
open Go
variable {lk : Nat} {H : List Tab}
@[simp] theorem sp_rHas (ns ts : List ByteArray) (st : Int) (rs : List Rule) (s : Int) (ht : ts.length ≤ 4611686018427387904) : lim mach lk f_ref02_Has [(.agg [.sl (ns.map V.str) .no, .sl (ts.map V.str) .no, .int .i64 st, .sl (rs.map encR) .no]), .int .i64 s] H = some (.bool (hasI ns.length ts.length s), H) := by
  by_cases h : s < ns.length
  · have e : hasI ns.length ts.length s = decide (-(ts.length : Int) ≤ s) := by unfold hasI; simp [h]
    (rw [eq_ref02_Has]; simp (disch := first | assumption | omega | (simp; done) | (simp only [ByteArray.size_append]; omega)) [-getElem?_pos, -List.all_eq_true, -List.any_eq_true, -List.length_eq_zero_iff, -List.map_take, -List.map_drop, c_ref02_Has, h, e])
  · have e : hasI ns.length ts.length s = false := by unfold hasI; simp [h]
    (rw [eq_ref02_Has]; simp (disch := first | assumption | omega | (simp; done) | (simp only [ByteArray.size_append]; omega)) [-getElem?_pos, -List.all_eq_true, -List.any_eq_true, -List.length_eq_zero_iff, -List.map_take, -List.map_drop, c_ref02_Has, h, e])
theorem twice_l0 (l : List ByteArray) (i : Nat) (x : ByteArray) (hx : l[i]? = some x) (hi : i < l.length) (hl : l.length ≤ 4611686018427387904) : ∀ (r : List ByteArray) (k : Nat) (j : Int), (l.take i).drop k = r → j = k → k ≤ i → lp mach lk c_ref02_twice_l0 ⟨[(0, .sl (l.map V.str) .no), (3, .int .i64 i), (4, .int .i64 j)], [], H⟩ = some (if r.any (fun y => decide (x = y)) = true then (.ret, ⟨[(2, .bool true)], [], H⟩) else (.exit 2, ⟨[(0, .sl (l.map V.str) .no), (3, .int .i64 i)], [], H⟩)) := by
  have hlen : (l.take i).length = i := by simp; omega
  intro r
  induction r with
  | nil =>
    intro k j h hj hk; subst hj
    have := drop_nil h
    (rw [st_ref02_twice_l0]; simp (disch := first | assumption | omega | (simp; done) | (simp only [ByteArray.size_append]; omega)) [-getElem?_pos, -List.all_eq_true, -List.any_eq_true, -List.length_eq_zero_iff, -List.map_take, -List.map_drop, b_ref02_twice_l0])
  | cons y r ih =>
    intro k j h hj hk; subst hj
    obtain ⟨hy, hlt, hr⟩ := drop_cons h
    rw [List.getElem?_take_of_lt (by omega)] at hy
    have ih := ih (k + 1) (k + 1) hr (by omega) (by omega)
    by_cases e : x = y
    · subst e; (rw [st_ref02_twice_l0]; simp (disch := first | assumption | omega | (simp; done) | (simp only [ByteArray.size_append]; omega)) [-getElem?_pos, -List.all_eq_true, -List.any_eq_true, -List.length_eq_zero_iff, -List.map_take, -List.map_drop, b_ref02_twice_l0, hx, hy])
    · (rw [st_ref02_twice_l0]; simp (disch := first | assumption | omega | (simp; done) | (simp only [ByteArray.size_append]; omega)) [-getElem?_pos, -List.all_eq_true, -List.any_eq_true, -List.length_eq_zero_iff, -List.map_take, -List.map_drop, b_ref02_twice_l0, hx, hy, e, ih])
theorem twice_l1 (l : List ByteArray) (hl : l.length ≤ 4611686018427387904) : ∀ (r : List ByteArray) (i : Nat) (j : Int), l.drop i = r → j = i → (l.take i).Nodup → lp mach lk c_ref02_twice_l1 ⟨[(0, .sl (l.map V.str) .no), (3, .int .i64 j)], [], H⟩ = some (if l.Nodup then (.exit 0, ⟨[], [], H⟩) else (.ret, ⟨[(2, .bool true)], [], H⟩)) := by
  intro r
  induction r with
  | nil =>
    intro i j h hj hn; subst hj
    have := drop_nil h
    rw [List.take_of_length_le this] at hn
    (rw [st_ref02_twice_l1]; simp (disch := first | assumption | omega | (simp; done) | (simp only [ByteArray.size_append]; omega)) [-getElem?_pos, -List.all_eq_true, -List.any_eq_true, -List.length_eq_zero_iff, -List.map_take, -List.map_drop, b_ref02_twice_l1, hn])
  | cons x r ih =>
    intro i j h hj hn; subst hj
    obtain ⟨hx, hlt, hr⟩ := drop_cons h
    have h0 := twice_l0 (lk := lk) (H := H) l i x hx hlt hl (l.take i) 0 0 rfl rfl (by omega)
    have hany : (l.take i).any (fun y => decide (x = y)) = true ↔ x ∈ l.take i := by rw [List.any_eq_true]; simp
    by_cases e : (l.take i).any (fun y => decide (x = y)) = true
    · have hnd : ¬ l.Nodup := fun hnd => by
        rw [← List.take_append_drop i l, h, List.nodup_append] at hnd
        exact hnd.2.2 x (hany.1 e) x List.mem_cons_self rfl
      rw [if_pos e] at h0
      (rw [st_ref02_twice_l1]; simp (disch := first | assumption | omega | (simp; done) | (simp only [ByteArray.size_append]; omega)) [-getElem?_pos, -List.all_eq_true, -List.any_eq_true, -List.length_eq_zero_iff, -List.map_take, -List.map_drop, b_ref02_twice_l1, h0, hnd])
    · rw [if_neg e] at h0
      have ih := ih (i + 1) (i + 1) hr (by omega) (by
        rw [List.take_add_one, hx, List.nodup_append]
        simp [hn]; exact fun y hy e2 => e (hany.2 (e2 ▸ hy)))
      (rw [st_ref02_twice_l1]; simp (disch := first | assumption | omega | (simp; done) | (simp only [ByteArray.size_append]; omega)) [-getElem?_pos, -List.all_eq_true, -List.any_eq_true, -List.length_eq_zero_iff, -List.map_take, -List.map_drop, b_ref02_twice_l1, h0, ih])
@[simp] theorem sp_twice (l : List ByteArray) (hl : l.length ≤ 4611686018427387904) : lim mach lk f_ref02_twice [.sl (l.map V.str) .no] H = some (.bool (!decide l.Nodup), H) := by
  have h := twice_l1 (lk := lk) (H := H) l hl l 0 0 rfl rfl (by simp)
  by_cases e : l.Nodup
  · rw [if_pos e] at h; (rw [eq_ref02_twice]; simp (disch := first | assumption | omega | (simp; done) | (simp only [ByteArray.size_append]; omega)) [-getElem?_pos, -List.all_eq_true, -List.any_eq_true, -List.length_eq_zero_iff, -List.map_take, -List.map_drop, c_ref02_twice, h, e])
  · rw [if_neg e] at h; (rw [eq_ref02_twice]; simp (disch := first | assumption | omega | (simp; done) | (simp only [ByteArray.size_append]; omega)) [-getElem?_pos, -List.all_eq_true, -List.any_eq_true, -List.length_eq_zero_iff, -List.map_take, -List.map_drop, c_ref02_twice, h, e])
theorem same_l0 (a b : Int) (l m : List Int) (hlm : l.length = m.length) (hl : l.length ≤ 4611686018427387904) : ∀ (r : List Int) (i : Nat) (j : Int), l.drop i = r → j = i → lp mach lk c_ref02_Same_l0 ⟨[(2, .ptr H.length 2 0), (3, .ptr H.length 3 0), (5, .int .i64 j)], [(2, .cells [.int .i64 a, .sl (l.map (V.int .i64)) .no]), (3, .cells [.int .i64 b, .sl (m.map (V.int .i64)) .no])], H⟩ = some (if r = m.drop i then (.exit 0, ⟨[], [], H⟩) else (.ret, ⟨[(4, .bool false)], [], H⟩)) := by
  intro r
  induction r with
  | nil =>
    intro i j h hj; subst hj
    have := drop_nil h
    have e : m.drop i = [] := List.drop_eq_nil_of_le (by omega)
    (rw [st_ref02_Same_l0]; simp (disch := first | assumption | omega | (simp; done) | (simp only [ByteArray.size_append]; omega)) [-getElem?_pos, -List.all_eq_true, -List.any_eq_true, -List.length_eq_zero_iff, -List.map_take, -List.map_drop, b_ref02_Same_l0, e])
  | cons x r ih =>
    intro i j h hj; subst hj
    obtain ⟨hx, hlt, hr⟩ := drop_cons h
    obtain ⟨y, hy⟩ : ∃ y, m[i]? = some y := ⟨_, List.getElem?_eq_getElem (by omega)⟩
    have hd : m.drop i = y :: m.drop (i + 1) := by
      have := List.getElem?_eq_some_iff.1 hy
      rw [← this.2]; exact List.drop_eq_getElem_cons this.1
    have ih := ih (i + 1) (i + 1) hr (by omega)
    by_cases e : x = y
    · (rw [st_ref02_Same_l0]; simp (disch := first | assumption | omega | (simp; done) | (simp only [ByteArray.size_append]; omega)) [-getElem?_pos, -List.all_eq_true, -List.any_eq_true, -List.length_eq_zero_iff, -List.map_take, -List.map_drop, b_ref02_Same_l0, hx, hy, hd, e, ih])
    · (rw [st_ref02_Same_l0]; simp (disch := first | assumption | omega | (simp; done) | (simp only [ByteArray.size_append]; omega)) [-getElem?_pos, -List.all_eq_true, -List.any_eq_true, -List.length_eq_zero_iff, -List.map_take, -List.map_drop, b_ref02_Same_l0, hx, hy, hd, e])
@[simp] theorem sp_rSame (a b : Int) (l m : List Int) (hl : l.length ≤ 4611686018427387904) : lim mach lk f_ref02_Same [(.agg [.int .i64 a, .sl ( l.map (V.int .i64)) .no]), (.agg [.int .i64 b, .sl ( m.map (V.int .i64)) .no])] H = some (.bool (decide ((⟨a, l⟩ : Rule) = ⟨b, m⟩)), H) := by
  have e0 : decide ((⟨a, l⟩ : Rule) = ⟨b, m⟩) = decide (a = b ∧ l = m) := by congr 1; rw [Rule.mk.injEq]
  rw [e0]
  by_cases h1 : a = b
  · by_cases h2 : l.length = m.length
    · have h := same_l0 (lk := lk) (H := H) a b l m h2 hl l 0 0 rfl rfl
      rw [List.drop_zero] at h
      by_cases h3 : l = m
      · rw [if_pos h3] at h; subst h1; subst h3; (rw [eq_ref02_Same]; simp (disch := first | assumption | omega | (simp; done) | (simp only [ByteArray.size_append]; omega)) [-getElem?_pos, -List.all_eq_true, -List.any_eq_true, -List.length_eq_zero_iff, -List.map_take, -List.map_drop, c_ref02_Same, h])
      · rw [if_neg h3] at h; (rw [eq_ref02_Same]; simp (disch := first | assumption | omega | (simp; done) | (simp only [ByteArray.size_append]; omega)) [-getElem?_pos, -List.all_eq_true, -List.any_eq_true, -List.length_eq_zero_iff, -List.map_take, -List.map_drop, c_ref02_Same, h, h3])
    · have h3 : l ≠ m := fun e => h2 (by rw [e])
      (rw [eq_ref02_Same]; simp (disch := first | assumption | omega | (simp; done) | (simp only [ByteArray.size_append]; omega)) [-getElem?_pos, -List.all_eq_true, -List.any_eq_true, -List.length_eq_zero_iff, -List.map_take, -List.map_drop, c_ref02_Same, h3])
  · (rw [eq_ref02_Same]; simp (disch := first | assumption | omega | (simp; done) | (simp only [ByteArray.size_append]; omega)) [-getElem?_pos, -List.all_eq_true, -List.any_eq_true, -List.length_eq_zero_iff, -List.map_take, -List.map_drop, c_ref02_Same, h1])
theorem find_l0 (rs : List Rule) (a : Int) (l : List Int) (hl : rs.length ≤ 4611686018427387904) (hr : ∀ r ∈ rs, r.right.length ≤ 4611686018427387904) : ∀ (r : List Rule) (i : Nat) (j : Int), rs.drop i = r → j = i → lp mach lk c_ref02_Find_l0 ⟨[(0, .sl (rs.map encR) .no), (3, .ptr H.length 3 0), (5, .int .i64 j)], [(3, .cells [.int .i64 a, .sl (l.map (V.int .i64)) .no])], H⟩ = some (if idxI (fun s => decide (s = (⟨a, l⟩ : Rule))) r j < 0 then (.exit 0, ⟨[], [], H⟩) else (.ret, ⟨[(4, .int .i64 (idxI (fun s => decide (s = (⟨a, l⟩ : Rule))) r j))], [], H⟩)) := by
  intro r
  induction r with
  | nil =>
    intro i j h hj; subst hj
    have := drop_nil h
    (rw [st_ref02_Find_l0]; simp (disch := first | assumption | omega | (simp; done) | (simp only [ByteArray.size_append]; omega)) [-getElem?_pos, -List.all_eq_true, -List.any_eq_true, -List.length_eq_zero_iff, -List.map_take, -List.map_drop, b_ref02_Find_l0, idxI])
  | cons x r ih =>
    intro i j h hj; subst hj
    obtain ⟨hx, hlt, hr2⟩ := drop_cons h
    have hxl := hr x (mem_drop h)
    have ih := ih (i + 1) (i + 1) hr2 (by omega)
    obtain ⟨b, m⟩ := x
    simp only at hxl
    by_cases e : (⟨b, m⟩ : Rule) = ⟨a, l⟩
    · have e2 : idxI (fun s => decide (s = (⟨a, l⟩ : Rule))) (⟨b, m⟩ :: r) i = i := by simp [idxI, e]
      rw [e2]
      cases e
      (rw [st_ref02_Find_l0]; simp (disch := first | assumption | omega | (simp; done) | (simp only [ByteArray.size_append]; omega)) [-getElem?_pos, -List.all_eq_true, -List.any_eq_true, -List.length_eq_zero_iff, -List.map_take, -List.map_drop, b_ref02_Find_l0, hx])
    · have e2 : idxI (fun s => decide (s = (⟨a, l⟩ : Rule))) (⟨b, m⟩ :: r) i = idxI (fun s => decide (s = (⟨a, l⟩ : Rule))) r (i + 1) := by simp [idxI, e]
      rw [e2]
      (rw [st_ref02_Find_l0]; simp (disch := first | assumption | omega | (simp; done) | (simp only [ByteArray.size_append]; omega)) [-getElem?_pos, -List.all_eq_true, -List.any_eq_true, -List.length_eq_zero_iff, -List.map_take, -List.map_drop, b_ref02_Find_l0, hx, e, ih])
def findC (rs : List Rule) (r : Rule) : Int := idxI (fun s => decide (s = r)) rs 0
theorem sp_rFind (rs : List Rule) (a : Int) (l : List Int) (hl : rs.length ≤ 4611686018427387904) (hr : ∀ r ∈ rs, r.right.length ≤ 4611686018427387904) : lim mach lk f_ref02_Find [.sl (rs.map encR) .no, (.agg [.int .i64 a, .sl ( l.map (V.int .i64)) .no])] H = some (.int .i64 (findC rs ⟨a, l⟩), H) := by
  have h := find_l0 (lk := lk) (H := H) rs a l hl hr rs 0 0 rfl rfl
  unfold findC
  by_cases e : idxI (fun s => decide (s = (⟨a, l⟩ : Rule))) rs 0 < 0
  · rw [if_pos e] at h
    have e2 := idxI_neg (fun s => decide (s = (⟨a, l⟩ : Rule))) rs 0 (by omega) e
    (rw [eq_ref02_Find]; simp (disch := first | assumption | omega | (simp; done) | (simp only [ByteArray.size_append]; omega)) [-getElem?_pos, -List.all_eq_true, -List.any_eq_true, -List.length_eq_zero_iff, -List.map_take, -List.map_drop, c_ref02_Find, h, e2])
  · rw [if_neg e] at h; (rw [eq_ref02_Find]; simp (disch := first | assumption | omega | (simp; done) | (simp only [ByteArray.size_append]; omega)) [-getElem?_pos, -List.all_eq_true, -List.any_eq_true, -List.length_eq_zero_iff, -List.map_take, -List.map_drop, c_ref02_Find, h])
theorem rc_l0 (ns ts : List ByteArray) (st : Int) (rs : List Rule) (hl : ns.length ≤ 4611686018427387904) : ∀ (r : List ByteArray) (i : Nat) (j : Int), ns.drop i = r → j = i → lp mach lk c_ref02_Check_l0 ⟨[(1, .ptr H.length 1 0), (3, .int .i64 j)], [(1, .cells [.sl (ns.map V.str) .no, .sl (ts.map V.str) .no, .int .i64 st, .sl (rs.map encR) .no])], H⟩ = some (if r.all nameB = true then (.exit 0, ⟨[(1, .ptr H.length 1 0)], [(1, .cells [.sl (ns.map V.str) .no, .sl (ts.map V.str) .no, .int .i64 st, .sl (rs.map encR) .no])], H⟩) else (.ret, ⟨[(2, .int .i64 1)], [], H⟩)) := by
  intro r
  induction r with
  | nil =>
    intro i j h hj; subst hj
    have := drop_nil h
    (rw [st_ref02_Check_l0]; simp (disch := first | assumption | omega | (simp; done) | (simp only [ByteArray.size_append]; omega)) [-getElem?_pos, -List.all_eq_true, -List.any_eq_true, -List.length_eq_zero_iff, -List.map_take, -List.map_drop, b_ref02_Check_l0])
  | cons x r ih =>
    intro i j h hj; subst hj
    obtain ⟨hx, hlt, hr⟩ := drop_cons h
    have ih := ih (i + 1) (i + 1) hr (by omega)
    cases e : nameB x with
    | true => (rw [st_ref02_Check_l0]; simp (disch := first | assumption | omega | (simp; done) | (simp only [ByteArray.size_append]; omega)) [-getElem?_pos, -List.all_eq_true, -List.any_eq_true, -List.length_eq_zero_iff, -List.map_take, -List.map_drop, b_ref02_Check_l0, hx, e, ih])
    | false => (rw [st_ref02_Check_l0]; simp (disch := first | assumption | omega | (simp; done) | (simp only [ByteArray.size_append]; omega)) [-getElem?_pos, -List.all_eq_true, -List.any_eq_true, -List.length_eq_zero_iff, -List.map_take, -List.map_drop, b_ref02_Check_l0, hx, e])
theorem rc_l1 (ns ts : List ByteArray) (st : Int) (rs : List Rule) (hl : ts.length ≤ 4611686018427387904) : ∀ (r : List ByteArray) (i : Nat) (j : Int), ts.drop i = r → j = i → lp mach lk c_ref02_Check_l1 ⟨[(1, .ptr H.length 1 0), (4, .int .i64 j)], [(1, .cells [.sl (ns.map V.str) .no, .sl (ts.map V.str) .no, .int .i64 st, .sl (rs.map encR) .no])], H⟩ = some (if r.all markB = true then (.exit 2, ⟨[(1, .ptr H.length 1 0)], [(1, .cells [.sl (ns.map V.str) .no, .sl (ts.map V.str) .no, .int .i64 st, .sl (rs.map encR) .no])], H⟩) else (.ret, ⟨[(2, .int .i64 1)], [], H⟩)) := by
  intro r
  induction r with
  | nil =>
    intro i j h hj; subst hj
    have := drop_nil h
    (rw [st_ref02_Check_l1]; simp (disch := first | assumption | omega | (simp; done) | (simp only [ByteArray.size_append]; omega)) [-getElem?_pos, -List.all_eq_true, -List.any_eq_true, -List.length_eq_zero_iff, -List.map_take, -List.map_drop, b_ref02_Check_l1])
  | cons x r ih =>
    intro i j h hj; subst hj
    obtain ⟨hx, hlt, hr⟩ := drop_cons h
    have ih := ih (i + 1) (i + 1) hr (by omega)
    cases e : markB x with
    | true => (rw [st_ref02_Check_l1]; simp (disch := first | assumption | omega | (simp; done) | (simp only [ByteArray.size_append]; omega)) [-getElem?_pos, -List.all_eq_true, -List.any_eq_true, -List.length_eq_zero_iff, -List.map_take, -List.map_drop, b_ref02_Check_l1, hx, e, ih])
    | false => (rw [st_ref02_Check_l1]; simp (disch := first | assumption | omega | (simp; done) | (simp only [ByteArray.size_append]; omega)) [-getElem?_pos, -List.all_eq_true, -List.any_eq_true, -List.length_eq_zero_iff, -List.map_take, -List.map_drop, b_ref02_Check_l1, hx, e])
theorem rc_l2 (ns ts : List ByteArray) (st : Int) (rs : List Rule) (a : Int) (l : List Int) (q : Int) (hts : ts.length ≤ 4611686018427387904) (hl : l.length ≤ 4611686018427387904) : ∀ (r : List Int) (i : Nat) (j : Int), l.drop i = r → j = i → lp mach lk c_ref02_Check_l2 ⟨[(1, .ptr H.length 1 0), (5, .int .i64 q), (6, .ptr H.length 6 0), (7, .int .i64 j)], [(1, .cells [.sl (ns.map V.str) .no, .sl (ts.map V.str) .no, .int .i64 st, .sl (rs.map encR) .no]), (6, .cells [.int .i64 a, .sl (l.map (V.int .i64)) .no])], H⟩ = some (if r.any (fun s => !hasI ns.length ts.length s) = true then (.ret, ⟨[(2, .int .i64 3)], [], H⟩) else (.exit 6, ⟨[(1, .ptr H.length 1 0), (5, .int .i64 q), (6, .ptr H.length 6 0)], [(1, .cells [.sl (ns.map V.str) .no, .sl (ts.map V.str) .no, .int .i64 st, .sl (rs.map encR) .no]), (6, .cells [.int .i64 a, .sl (l.map (V.int .i64)) .no])], H⟩)) := by
  intro r
  induction r with
  | nil =>
    intro i j h hj; subst hj
    have := drop_nil h
    (rw [st_ref02_Check_l2]; simp (disch := first | assumption | omega | (simp; done) | (simp only [ByteArray.size_append]; omega)) [-getElem?_pos, -List.all_eq_true, -List.any_eq_true, -List.length_eq_zero_iff, -List.map_take, -List.map_drop, b_ref02_Check_l2])
  | cons x r ih =>
    intro i j h hj; subst hj
    obtain ⟨hx, hlt, hr⟩ := drop_cons h
    have ih := ih (i + 1) (i + 1) hr (by omega)
    cases e : hasI ns.length ts.length x with
    | true => (rw [st_ref02_Check_l2]; simp (disch := first | assumption | omega | (simp; done) | (simp only [ByteArray.size_append]; omega)) [-getElem?_pos, -List.all_eq_true, -List.any_eq_true, -List.length_eq_zero_iff, -List.map_take, -List.map_drop, b_ref02_Check_l2, hx, e, ih])
    | false => (rw [st_ref02_Check_l2]; simp (disch := first | assumption | omega | (simp; done) | (simp only [ByteArray.size_append]; omega)) [-getElem?_pos, -List.all_eq_true, -List.any_eq_true, -List.length_eq_zero_iff, -List.map_take, -List.map_drop, b_ref02_Check_l2, hx, e])
theorem rc_l3 (hlk : lk ≤ H.length) (ns ts : List ByteArray) (st : Int) (rs : List Rule) (hts : ts.length ≤ 4611686018427387904) (hl : rs.length ≤ 4611686018427387904) (hok : ∀ r ∈ rs, OkR r) : ∀ (r : List Rule) (i : Nat) (j : Int), rs.drop i = r → j = i → lp mach lk c_ref02_Check_l3 ⟨[(1, .ptr H.length 1 0), (5, .int .i64 j)], [(1, .cells [.sl (ns.map V.str) .no, .sl (ts.map V.str) .no, .int .i64 st, .sl (rs.map encR) .no])], H⟩ = some (match rulesF ns.length ts.length r with | none => (.exit 4, ⟨[(1, .ptr H.length 1 0)], [(1, .cells [.sl (ns.map V.str) .no, .sl (ts.map V.str) .no, .int .i64 st, .sl (rs.map encR) .no])], H⟩) | some e => (.ret, ⟨[(2, .int .i64 e)], [], H⟩)) := by
  intro r
  induction r with
  | nil =>
    intro i j h hj; subst hj
    have := drop_nil h
    (rw [st_ref02_Check_l3]; simp (disch := first | assumption | omega | (simp; done) | (simp only [ByteArray.size_append]; omega)) [-getElem?_pos, -List.all_eq_true, -List.any_eq_true, -List.length_eq_zero_iff, -List.map_take, -List.map_drop, b_ref02_Check_l3, rulesF])
  | cons x r ih =>
    intro i j h hj; subst hj
    obtain ⟨hx, hlt, hr⟩ := drop_cons h
    have ih := ih (i + 1) (i + 1) hr (by omega)
    have hokx := hok x (mem_drop h)
    obtain ⟨a, l⟩ := x
    have h0 := rc_l2 (lk := lk) (H := H) ns ts st rs a l i hts hokx.1 l 0 0 rfl rfl
    by_cases h1 : a < 0
    · have e : ruleC ns.length ts.length ⟨a, l⟩ = 3 := by unfold ruleC; rw [if_pos (.inl h1)]
      (rw [st_ref02_Check_l3]; simp (disch := first | assumption | omega | (simp; done) | (simp only [ByteArray.size_append]; omega)) [-getElem?_pos, -List.all_eq_true, -List.any_eq_true, -List.length_eq_zero_iff, -List.map_take, -List.map_drop, b_ref02_Check_l3, hx, rulesF, e])
    by_cases h2 : (ns.length : Int) ≤ a
    · have e : ruleC ns.length ts.length ⟨a, l⟩ = 3 := by unfold ruleC; rw [if_pos (.inr (.inl h2))]
      (rw [st_ref02_Check_l3]; simp (disch := first | assumption | omega | (simp; done) | (simp only [ByteArray.size_append]; omega)) [-getElem?_pos, -List.all_eq_true, -List.any_eq_true, -List.length_eq_zero_iff, -List.map_take, -List.map_drop, b_ref02_Check_l3, hx, rulesF, e])
    cases h3 : l.any (fun s => !hasI ns.length ts.length s) with
    | true =>
      have e : ruleC ns.length ts.length ⟨a, l⟩ = 3 := by unfold ruleC; rw [if_pos (.inr (.inr h3))]
      rw [h3, if_pos rfl] at h0
      (rw [st_ref02_Check_l3]; simp (disch := first | assumption | omega | (simp; done) | (simp only [ByteArray.size_append]; omega)) [-getElem?_pos, -List.all_eq_true, -List.any_eq_true, -List.length_eq_zero_iff, -List.map_take, -List.map_drop, b_ref02_Check_l3, hx, rulesF, e, h0])
    | false =>
      have e : ruleC ns.length ts.length ⟨a, l⟩ = if 64 < l.length then 5 else 0 := by unfold ruleC; rw [if_neg]; simp only [h3]; simp; omega
      rw [h3, if_neg (by simp)] at h0
      by_cases h4 : 64 < l.length
      · rw [if_pos h4] at e
        (rw [st_ref02_Check_l3]; simp (disch := first | assumption | omega | (simp; done) | (simp only [ByteArray.size_append]; omega)) [-getElem?_pos, -List.all_eq_true, -List.any_eq_true, -List.length_eq_zero_iff, -List.map_take, -List.map_drop, b_ref02_Check_l3, hx, rulesF, e, h0])
      · rw [if_neg h4] at e
        (rw [st_ref02_Check_l3]; simp (disch := first | assumption | omega | (simp; done) | (simp only [ByteArray.size_append]; omega)) [-getElem?_pos, -List.all_eq_true, -List.any_eq_true, -List.length_eq_zero_iff, -List.map_take, -List.map_drop, b_ref02_Check_l3, hx, rulesF, e, h0, ih])
theorem findC_lt (rs : List Rule) : ∀ (r : List Rule) (i : Nat) (x : Rule), rs.drop i = x :: r → (findC rs x < i ↔ x ∈ rs.take i) := by
  have key : ∀ (l : List Rule) (x : Rule) (k : Int) (i : Nat), l[i]? = some x → (idxI (fun s => decide (s = x)) l k < k + i ↔ x ∈ l.take i) ∧ k ≤ idxI (fun s => decide (s = x)) l k := by
    intro l
    induction l with
    | nil => intro x k i h; simp at h
    | cons y l ih =>
      intro x k i h
      rw [show idxI (fun s => decide (s = x)) (y :: l) k = bif decide (y = x) then k else idxI (fun s => decide (s = x)) l (k + 1) from rfl]
      cases i with
      | zero => simp at h; subst h; simp
      | succ i =>
        rw [List.getElem?_cons_succ] at h
        by_cases e : y = x
        · subst e; simp; omega
        · obtain ⟨h1, h2⟩ := ih x (k + 1) i h
          simp only [decide_eq_false e, cond_false, List.take_succ_cons, List.mem_cons, Ne.symm e, false_or, ← h1]
          exact ⟨⟨fun h => by omega, fun h => by omega⟩, by omega⟩
  intro r i x h
  have := (key rs x 0 i (drop_cons h).1).1
  rwa [Int.zero_add] at this
theorem rc_l4 (ns ts : List ByteArray) (st : Int) (rs : List Rule) (hl : rs.length ≤ 4611686018427387904) (hok : ∀ r ∈ rs, r.right.length ≤ 4611686018427387904) : ∀ (r : List Rule) (i : Nat) (j : Int), rs.drop i = r → j = i → (rs.take i).Nodup → lp mach lk c_ref02_Check_l4 ⟨[(1, .ptr H.length 1 0), (8, .int .i64 j)], [(1, .cells [.sl (ns.map V.str) .no, .sl (ts.map V.str) .no, .int .i64 st, .sl (rs.map encR) .no])], H⟩ = some (if rs.Nodup then (.exit 8, ⟨[], [], H⟩) else (.ret, ⟨[(2, .int .i64 2)], [], H⟩)) := by
  intro r
  induction r with
  | nil =>
    intro i j h hj hn; subst hj
    have := drop_nil h
    rw [List.take_of_length_le this] at hn
    (rw [st_ref02_Check_l4]; simp (disch := first | assumption | omega | (simp; done) | (simp only [ByteArray.size_append]; omega)) [-getElem?_pos, -List.all_eq_true, -List.any_eq_true, -List.length_eq_zero_iff, -List.map_take, -List.map_drop, b_ref02_Check_l4, hn])
  | cons x r ih =>
    intro i j h hj hn; subst hj
    obtain ⟨hx, hlt, hr⟩ := drop_cons h
    have hf := findC_lt rs r i x h
    have hq := fun (L : Tab) => sp_rFind (lk := H.length + 1) (H := H ++ [L]) rs x.left x.right hl hok
    by_cases e : x ∈ rs.take i
    · have hnd : ¬ rs.Nodup := fun hnd => by
        rw [← List.take_append_drop i rs, h, List.nodup_append] at hnd
        exact hnd.2.2 x e x List.mem_cons_self rfl
      have h1 := hf.2 e
      (rw [st_ref02_Check_l4]; simp (disch := first | assumption | omega | (simp; done) | (simp only [ByteArray.size_append]; omega)) [-getElem?_pos, -List.all_eq_true, -List.any_eq_true, -List.length_eq_zero_iff, -List.map_take, -List.map_drop, b_ref02_Check_l4, hx, hq, hnd])
    · have h1 : ¬ findC rs x < i := fun h => e (hf.1 h)
      have ih := ih (i + 1) (i + 1) hr (by omega) (by
        rw [List.take_add_one, hx, List.nodup_append]
        simp [hn]; exact fun y hy e2 => e (e2 ▸ hy))
      (rw [st_ref02_Check_l4]; simp (disch := first | assumption | omega | (simp; done) | (simp only [ByteArray.size_append]; omega)) [-getElem?_pos, -List.all_eq_true, -List.any_eq_true, -List.length_eq_zero_iff, -List.map_take, -List.map_drop, b_ref02_Check_l4, hx, hq, ih])
theorem sp_rCheck (hlk : lk ≤ H.length) (ns ts : List ByteArray) (st : Int) (rs : List Rule) (hg : OkG ⟨ns, ts, st, rs⟩) : lim mach lk f_ref02_Check [(.agg [.sl (ns.map V.str) .no, .sl (ts.map V.str) .no, .int .i64 st, .sl (rs.map encR) .no])] H = some (.int .i64 (checkC ⟨ns, ts, st, rs⟩), H) := by
  obtain ⟨hg1, hg2, hg3, hg4⟩ := hg
  simp only at hg1 hg2 hg3 hg4
  have q0 := rc_l0 (lk := lk) (H := H) ns ts st rs hg1 ns 0 0 rfl rfl
  have q1 := rc_l1 (lk := lk) (H := H) ns ts st rs hg2 ts 0 0 rfl rfl
  have q3 := rc_l3 hlk ns ts st rs hg2 hg3 hg4 rs 0 0 rfl rfl
  have q4 := rc_l4 (lk := lk) (H := H) ns ts st rs hg3 (fun r hr => (hg4 r hr).1) rs 0 0 rfl rfl (by simp)
  unfold checkC
  simp only
  by_cases h1 : ns.length < 1
  · (rw [eq_ref02_Check]; simp (disch := first | assumption | omega | (simp; done) | (simp only [ByteArray.size_append]; omega)) [-getElem?_pos, -List.all_eq_true, -List.any_eq_true, -List.length_eq_zero_iff, -List.map_take, -List.map_drop, c_ref02_Check, h1])
  by_cases h2 : 2048 < ns.length
  · (rw [eq_ref02_Check]; simp (disch := first | assumption | omega | (simp; done) | (simp only [ByteArray.size_append]; omega)) [-getElem?_pos, -List.all_eq_true, -List.any_eq_true, -List.length_eq_zero_iff, -List.map_take, -List.map_drop, c_ref02_Check, h2])
  by_cases h3 : 2048 < ts.length
  · (rw [eq_ref02_Check]; simp (disch := first | assumption | omega | (simp; done) | (simp only [ByteArray.size_append]; omega)) [-getElem?_pos, -List.all_eq_true, -List.any_eq_true, -List.length_eq_zero_iff, -List.map_take, -List.map_drop, c_ref02_Check, h3])
  by_cases h4 : 8192 < rs.length
  · (rw [eq_ref02_Check]; simp (disch := first | assumption | omega | (simp; done) | (simp only [ByteArray.size_append]; omega)) [-getElem?_pos, -List.all_eq_true, -List.any_eq_true, -List.length_eq_zero_iff, -List.map_take, -List.map_drop, c_ref02_Check, h4])
  rw [if_neg (by omega)]
  rcases textsC_cases nameB ns with ⟨e1, f1⟩ | ⟨e1, f1, g1⟩ | ⟨e1, f1, g1⟩
  · rw [f1, if_neg (by simp)] at q0; (rw [eq_ref02_Check]; simp (disch := first | assumption | omega | (simp; done) | (simp only [ByteArray.size_append]; omega)) [-getElem?_pos, -List.all_eq_true, -List.any_eq_true, -List.length_eq_zero_iff, -List.map_take, -List.map_drop, c_ref02_Check, q0, e1])
  all_goals
    rw [f1, if_pos rfl] at q0
    rcases textsC_cases markB ts with ⟨e2, f2⟩ | ⟨e2, f2, g2⟩ | ⟨e2, f2, g2⟩
    · rw [f2, if_neg (by simp)] at q1; (rw [eq_ref02_Check]; simp (disch := first | assumption | omega | (simp; done) | (simp only [ByteArray.size_append]; omega)) [-getElem?_pos, -List.all_eq_true, -List.any_eq_true, -List.length_eq_zero_iff, -List.map_take, -List.map_drop, c_ref02_Check, q0, q1, e1, e2])
    all_goals
      rw [f2, if_pos rfl] at q1
      first
      | ((rw [eq_ref02_Check]; simp (disch := first | assumption | omega | (simp; done) | (simp only [ByteArray.size_append]; omega)) [-getElem?_pos, -List.all_eq_true, -List.any_eq_true, -List.length_eq_zero_iff, -List.map_take, -List.map_drop, c_ref02_Check, q0, q1, e1, e2, g1, g2]); done)
      | (by_cases h5 : st < 0
         · (rw [eq_ref02_Check]; simp (disch := first | assumption | omega | (simp; done) | (simp only [ByteArray.size_append]; omega)) [-getElem?_pos, -List.all_eq_true, -List.any_eq_true, -List.length_eq_zero_iff, -List.map_take, -List.map_drop, c_ref02_Check, q0, q1, e1, e2, g1, g2, h5])
         · by_cases h6 : (ns.length : Int) ≤ st
           · (rw [eq_ref02_Check]; simp (disch := first | assumption | omega | (simp; done) | (simp only [ByteArray.size_append]; omega)) [-getElem?_pos, -List.all_eq_true, -List.any_eq_true, -List.length_eq_zero_iff, -List.map_take, -List.map_drop, c_ref02_Check, q0, q1, e1, e2, g1, g2, h5, h6])
           · unfold rulesC
             cases e3 : rulesF ns.length ts.length rs with
             | some x => rw [e3] at q3; (rw [eq_ref02_Check]; simp (disch := first | assumption | omega | (simp; done) | (simp only [ByteArray.size_append]; omega)) [-getElem?_pos, -List.all_eq_true, -List.any_eq_true, -List.length_eq_zero_iff, -List.map_take, -List.map_drop, c_ref02_Check, q0, q1, q3, e1, e2, g1, g2, h5, h6])
             | none =>
               rw [e3] at q3
               by_cases h7 : rs.Nodup
               · rw [if_pos h7] at q4; (rw [eq_ref02_Check]; simp (disch := first | assumption | omega | (simp; done) | (simp only [ByteArray.size_append]; omega)) [-getElem?_pos, -List.all_eq_true, -List.any_eq_true, -List.length_eq_zero_iff, -List.map_take, -List.map_drop, c_ref02_Check, q0, q1, q3, q4, e1, e2, g1, g2, h5, h6, h7])
               · rw [if_neg h7] at q4; (rw [eq_ref02_Check]; simp (disch := first | assumption | omega | (simp; done) | (simp only [ByteArray.size_append]; omega)) [-getElem?_pos, -List.all_eq_true, -List.any_eq_true, -List.length_eq_zero_iff, -List.map_take, -List.map_drop, c_ref02_Check, q0, q1, q3, q4, e1, e2, g1, g2, h5, h6, h7]))
end Go.Proofs.YtlacnkjkcikodaaDoor.Am
end
section
set_option linter.unusedVariables false
set_option linter.unusedSimpArgs false
set_option maxHeartbeats 1000000
namespace Go.Proofs.YtlacnkjkcikodaaDoor.Am
open Go
variable {lk : Nat} {H : List Tab}
theorem ofr_l0 (hlk : lk ≤ H.length) (a : Int) (l : List Int) (hl : l.length ≤ 500000000) : ∀ (r : List Int) (i : Nat) (j : Int), l.drop i = r → j = i → lp mach lk c_law02_OfRule_l0 ⟨[(2, .ptr H.length 2 0), (3, .ptr H.length 3 0), (10, .sl (l.map (V.int .i64)) .no), (11, .int .i64 l.length), (12, .int .i64 j)], [(2, .cells [.int .i64 0, .sl [] .held]), (3, .cells [.int .i64 a, .sl ((l.take i).map (V.int .i64)) .held])], H⟩ = some (.exit 0, ⟨[(2, .ptr H.length 2 0), (3, .ptr H.length 3 0)], [(2, .cells [.int .i64 0, .sl [] .held]), (3, .cells [.int .i64 a, .sl (l.map (V.int .i64)) .held])], H⟩) := by
  intro r
  induction r with
  | nil =>
    intro i j h hj; subst hj
    have := drop_nil h
    rw [List.take_of_length_le this]
    (rw [st_law02_OfRule_l0]; simp (disch := first | assumption | omega | (simp; done) | (simp only [ByteArray.size_append]; omega)) [-getElem?_pos, -List.all_eq_true, -List.any_eq_true, -List.length_eq_zero_iff, -List.map_take, -List.map_drop, b_law02_OfRule_l0])
  | cons x r ih =>
    intro i j h hj; subst hj
    obtain ⟨hx, hlt, hr⟩ := drop_cons h
    have ih := ih (i + 1) (i + 1) hr (by omega)
    rw [List.take_add_one, hx] at ih
    simp only [Option.toList_some, List.map_append, List.map_cons, List.map_nil] at ih
    have hm : (l.take i).length ≤ i := List.length_take_le ..
    (rw [st_law02_OfRule_l0]; simp (disch := first | assumption | omega | (simp; done) | (simp only [ByteArray.size_append]; omega)) [-getElem?_pos, -List.all_eq_true, -List.any_eq_true, -List.length_eq_zero_iff, -List.map_take, -List.map_drop, b_law02_OfRule_l0, hx, appMost, ih])
@[simp] theorem sp_OfRule (hlk : lk ≤ H.length) (a : Int) (l : List Int) (hl : l.length ≤ 500000000) : lim mach lk f_law02_OfRule [(.agg [.int .i64 a, .sl ( l.map (V.int .i64)) .no])] H = some ((.agg [.int .i64 a, .sl ( l.map (V.int .i64)) .no]), H) := by
  have h := ofr_l0 hlk a l hl l 0 0 rfl rfl
  simp only [List.take_zero, List.map_nil] at h
  (rw [eq_law02_OfRule]; simp (disch := first | assumption | omega | (simp; done) | (simp only [ByteArray.size_append]; omega)) [-getElem?_pos, -List.all_eq_true, -List.any_eq_true, -List.length_eq_zero_iff, -List.map_take, -List.map_drop, c_law02_OfRule, h])
theorem of2_l0 (hlk : lk ≤ H.length) (ns ts : List ByteArray) (st : Int) (rs : List Rule) (hl : rs.length ≤ 500000000) (hok : ∀ r ∈ rs, r.right.length ≤ 500000000) : ∀ (r : List Rule) (i : Nat) (j : Int), rs.drop i = r → j = i → lp mach lk c_law02_Of_l0 ⟨[(2, .ptr H.length 2 0), (3, .ptr H.length 3 0), (14, .sl (rs.map encR) .no), (15, .int .i64 rs.length), (16, .int .i64 j)], [(2, .cells [.sl [] .held, .sl [] .held, .int .i64 0, .sl [] .held]), (3, .cells [.sl (ns.map V.str) .no, .sl (ts.map V.str) .no, .int .i64 st, .sl ((rs.take i).map encR) .held])], H⟩ = some (.exit 0, ⟨[(2, .ptr H.length 2 0), (3, .ptr H.length 3 0)], [(2, .cells [.sl [] .held, .sl [] .held, .int .i64 0, .sl [] .held]), (3, .cells [.sl (ns.map V.str) .no, .sl (ts.map V.str) .no, .int .i64 st, .sl (rs.map encR) .held])], H⟩) := by
  intro r
  induction r with
  | nil =>
    intro i j h hj; subst hj
    have := drop_nil h
    rw [List.take_of_length_le this]
    (rw [st_law02_Of_l0]; simp (disch := first | assumption | omega | (simp; done) | (simp only [ByteArray.size_append]; omega)) [-getElem?_pos, -List.all_eq_true, -List.any_eq_true, -List.length_eq_zero_iff, -List.map_take, -List.map_drop, b_law02_Of_l0])
  | cons x r ih =>
    intro i j h hj; subst hj
    obtain ⟨hx, hlt, hr⟩ := drop_cons h
    have hxl := hok x (mem_drop h)
    have ih := ih (i + 1) (i + 1) hr (by omega)
    rw [List.take_add_one, hx] at ih
    obtain ⟨a, l⟩ := x
    simp only [Option.toList_some, List.map_append, List.map_cons, List.map_nil, encR] at ih hxl
    have hm : (rs.take i).length ≤ i := List.length_take_le ..
    (rw [st_law02_Of_l0]; simp (disch := first | assumption | omega | (simp; done) | (simp only [ByteArray.size_append]; omega)) [-getElem?_pos, -List.all_eq_true, -List.any_eq_true, -List.length_eq_zero_iff, -List.map_take, -List.map_drop, b_law02_Of_l0, hx, appMost, ih])
theorem sp_Of2 (hlk : lk ≤ H.length) (ns ts : List ByteArray) (st : Int) (rs : List Rule) (hl : rs.length ≤ 500000000) (hok : ∀ r ∈ rs, r.right.length ≤ 500000000) : lim mach lk f_law02_Of [(.agg [.sl (ns.map V.str) .no, .sl (ts.map V.str) .no, .int .i64 st, .sl (rs.map encR) .no])] H = some ((.agg [.sl (ns.map V.str) .no, .sl (ts.map V.str) .no, .int .i64 st, .sl (rs.map encR) .no]), H) := by
  have h := of2_l0 hlk ns ts st rs hl hok rs 0 0 rfl rfl
  simp only [List.take_zero, List.map_nil] at h
  (rw [eq_law02_Of]; simp (disch := first | assumption | omega | (simp; done) | (simp only [ByteArray.size_append]; omega)) [-getElem?_pos, -List.all_eq_true, -List.any_eq_true, -List.length_eq_zero_iff, -List.map_take, -List.map_drop, c_law02_Of, h])
theorem sp_May (hlk : lk ≤ H.length) (ns ts : List ByteArray) (st : Int) (rs : List Rule) (hl : rs.length ≤ 500000000) (hok : ∀ r ∈ rs, r.right.length ≤ 500000000) (hg : OkG ⟨ns, ts, st, rs⟩) : lim mach lk f_law02_May [(.agg [.sl (ns.map V.str) .no, .sl (ts.map V.str) .no, .int .i64 st, .sl (rs.map encR) .no])] H = some (.bool (decide (checkC ⟨ns, ts, st, rs⟩ = 0)), H) := by
  have h1 := fun (L : Tab) => sp_Of2 (lk := H.length + 1) (H := H ++ [L]) (by simp) ns ts st rs hl hok
  have h2 := fun (L : Tab) => sp_rCheck (lk := H.length + 1) (H := H ++ [L]) (by simp) ns ts st rs hg
  (rw [eq_law02_May]; simp (disch := first | assumption | omega | (simp; done) | (simp only [ByteArray.size_append]; omega)) [-getElem?_pos, -List.all_eq_true, -List.any_eq_true, -List.length_eq_zero_iff, -List.map_take, -List.map_drop, c_law02_May, h1, h2])
def textsW : List ByteArray → Int
  | [] => 0
  | s :: l => (s.size : Int) / 16 + textsW l
theorem textsW_0 : ∀ l : List ByteArray, 0 ≤ textsW l
  | [] => by simp [textsW]
  | s :: l => by have := textsW_0 l; simp only [textsW]; omega
def smallB (g : Gram) : Bool := decide (sizeC g.rules + textsW g.names + textsW g.terms ≤ 600 ∧ g.names.length ≤ 60 ∧ g.terms.length ≤ 60 ∧ g.rules.length ≤ 120)
theorem small_l0 (hlk : lk ≤ H.length) (G : List V) (hG : ∃ (ns ts : List ByteArray) (st : Int) (rs : List Rule), G = (encG ⟨ns, ts, st, rs⟩).cells) (rs : List Rule) (hs : sizeC rs ≤ 4611686018427387904) (hl : rs.length ≤ 4611686018427387904) : ∀ (r : List Rule) (i : Nat) (j n : Int), rs.drop i = r → j = i → n + sizeC r = sizeC rs → 0 ≤ n → lp mach lk c_law02_Small_l0 ⟨[(1, .ptr H.length 1 0), (3, .int .i64 n), (11, .sl (rs.map encR) .no), (12, .int .i64 rs.length), (13, .int .i64 j)], [(1, .cells G)], H⟩ = some (.exit 0, ⟨[(1, .ptr H.length 1 0), (3, .int .i64 (sizeC rs))], [(1, .cells G)], H⟩) := by
  obtain ⟨ns, ts, st, rs', rfl⟩ := hG
  simp only [encG, V.cells]
  intro r
  induction r with
  | nil =>
    intro i j n h hj hn h0; subst hj
    have := drop_nil h
    simp only [sizeC] at hn
    obtain rfl : n = sizeC rs := by omega
    (rw [st_law02_Small_l0]; simp (disch := first | assumption | omega | (simp; done) | (simp only [ByteArray.size_append]; omega)) [-getElem?_pos, -List.all_eq_true, -List.any_eq_true, -List.length_eq_zero_iff, -List.map_take, -List.map_drop, b_law02_Small_l0])
  | cons x r ih =>
    intro i j n h hj hn h0; subst hj
    obtain ⟨hx, hlt, hr⟩ := drop_cons h
    obtain ⟨a, l⟩ := x
    simp only [sizeC] at hn
    have := sizeC_0 r
    have ih := ih (i + 1) (i + 1) (n + (1 + l.length)) hr (by omega) (by omega) (by omega)
    (rw [st_law02_Small_l0]; simp (disch := first | assumption | omega | (simp; done) | (simp only [ByteArray.size_append]; omega)) [-getElem?_pos, -List.all_eq_true, -List.any_eq_true, -List.length_eq_zero_iff, -List.map_take, -List.map_drop, b_law02_Small_l0, hx, ih])
theorem div16 (n : Nat) : ((n : Int)).tdiv 16 = (n : Int) / 16 := by rw [Int.tdiv_eq_ediv_of_nonneg (by omega)]
theorem small_l1 (G : List V) (hG : ∃ (ns ts : List ByteArray) (st : Int) (rs : List Rule), G = (encG ⟨ns, ts, st, rs⟩).cells) (q : List ByteArray) (m : Int) (hm : 0 ≤ m) (hs : m + textsW q ≤ 4611686018427387904) (hl : q.length ≤ 4611686018427387904) : ∀ (r : List ByteArray) (i : Nat) (j n : Int), q.drop i = r → j = i → n + textsW r = m + textsW q → m ≤ n → lp mach lk c_law02_Small_l1 ⟨[(1, .ptr H.length 1 0), (3, .int .i64 n), (25, .sl (q.map V.str) .no), (26, .int .i64 q.length), (27, .int .i64 j)], [(1, .cells G)], H⟩ = some (.exit 2, ⟨[(1, .ptr H.length 1 0), (3, .int .i64 (m + textsW q))], [(1, .cells G)], H⟩) := by
  obtain ⟨ns, ts, st, rs', rfl⟩ := hG
  simp only [encG, V.cells]
  intro r
  induction r with
  | nil =>
    intro i j n h hj hn h0; subst hj
    have := drop_nil h
    simp only [textsW] at hn
    obtain rfl : n = m + textsW q := by omega
    (rw [st_law02_Small_l1]; simp (disch := first | assumption | omega | (simp; done) | (simp only [ByteArray.size_append]; omega)) [-getElem?_pos, -List.all_eq_true, -List.any_eq_true, -List.length_eq_zero_iff, -List.map_take, -List.map_drop, b_law02_Small_l1])
  | cons x r ih =>
    intro i j n h hj hn h0; subst hj
    obtain ⟨hx, hlt, hr⟩ := drop_cons h
    simp only [textsW] at hn
    have := textsW_0 r
    have ih := ih (i + 1) (i + 1) (n + (x.size : Int) / 16) hr (by omega) (by omega) (by omega)
    have hd := div16 x.size
    (rw [st_law02_Small_l1]; simp (disch := first | assumption | omega | (simp; done) | (simp only [ByteArray.size_append]; omega)) [-getElem?_pos, -List.all_eq_true, -List.any_eq_true, -List.length_eq_zero_iff, -List.map_take, -List.map_drop, b_law02_Small_l1, hx, hd, ih])
theorem small_l2 (G : List V) (hG : ∃ (ns ts : List ByteArray) (st : Int) (rs : List Rule), G = (encG ⟨ns, ts, st, rs⟩).cells) (q : List ByteArray) (m : Int) (hm : 0 ≤ m) (hs : m + textsW q ≤ 4611686018427387904) (hl : q.length ≤ 4611686018427387904) : ∀ (r : List ByteArray) (i : Nat) (j n : Int), q.drop i = r → j = i → n + textsW r = m + textsW q → m ≤ n → lp mach lk c_law02_Small_l2 ⟨[(1, .ptr H.length 1 0), (3, .int .i64 n), (38, .sl (q.map V.str) .no), (39, .int .i64 q.length), (40, .int .i64 j)], [(1, .cells G)], H⟩ = some (.exit 4, ⟨[(1, .ptr H.length 1 0), (3, .int .i64 (m + textsW q))], [(1, .cells G)], H⟩) := by
  obtain ⟨ns, ts, st, rs', rfl⟩ := hG
  simp only [encG, V.cells]
  intro r
  induction r with
  | nil =>
    intro i j n h hj hn h0; subst hj
    have := drop_nil h
    simp only [textsW] at hn
    obtain rfl : n = m + textsW q := by omega
    (rw [st_law02_Small_l2]; simp (disch := first | assumption | omega | (simp; done) | (simp only [ByteArray.size_append]; omega)) [-getElem?_pos, -List.all_eq_true, -List.any_eq_true, -List.length_eq_zero_iff, -List.map_take, -List.map_drop, b_law02_Small_l2])
  | cons x r ih =>
    intro i j n h hj hn h0; subst hj
    obtain ⟨hx, hlt, hr⟩ := drop_cons h
    simp only [textsW] at hn
    have := textsW_0 r
    have ih := ih (i + 1) (i + 1) (n + (x.size : Int) / 16) hr (by omega) (by omega) (by omega)
    have hd := div16 x.size
    (rw [st_law02_Small_l2]; simp (disch := first | assumption | omega | (simp; done) | (simp only [ByteArray.size_append]; omega)) [-getElem?_pos, -List.all_eq_true, -List.any_eq_true, -List.length_eq_zero_iff, -List.map_take, -List.map_drop, b_law02_Small_l2, hx, hd, ih])
theorem small_a0 (hlk : lk ≤ H.length) (G : List V) (hG : ∃ (ns ts : List ByteArray) (st : Int) (rs : List Rule), G = (encG ⟨ns, ts, st, rs⟩).cells) (rs : List Rule) (hs : ∀ r ∈ rs, OkR r) (hl : rs.length ≤ 4611686018427387904) : ∀ (r : List Rule) (i : Nat) (j n : Int), rs.drop i = r → j = i → ∃ y : Int, lp mach lk c_law02_Small_l0 ⟨[(1, .ptr H.length 1 0), (3, .int .i64 n), (11, .sl (rs.map encR) .no), (12, .int .i64 rs.length), (13, .int .i64 j)], [(1, .cells G)], H⟩ = some (.exit 0, ⟨[(1, .ptr H.length 1 0), (3, .int .i64 y)], [(1, .cells G)], H⟩) := by
  obtain ⟨ns, ts, st, rs', rfl⟩ := hG
  simp only [encG, V.cells]
  intro r
  induction r with
  | nil =>
    intro i j n h hj; subst hj
    have := drop_nil h
    refine ⟨n, ?_⟩
    (rw [st_law02_Small_l0]; simp (disch := first | assumption | omega | (simp; done) | (simp only [ByteArray.size_append]; omega)) [-getElem?_pos, -List.all_eq_true, -List.any_eq_true, -List.length_eq_zero_iff, -List.map_take, -List.map_drop, b_law02_Small_l0])
  | cons x r ih =>
    intro i j n h hj; subst hj
    obtain ⟨hx, hlt, hr⟩ := drop_cons h
    have hm := (hs x (mem_drop h)).1
    obtain ⟨a, l⟩ := x
    simp only at hm
    obtain ⟨y, ih⟩ := ih (i + 1) (i + 1) (IntKind.i64.wrap (n + (1 + l.length))) hr (by omega)
    refine ⟨y, ?_⟩
    (rw [st_law02_Small_l0]; simp (disch := first | assumption | omega | (simp; done) | (simp only [ByteArray.size_append]; omega)) [-getElem?_pos, -List.all_eq_true, -List.any_eq_true, -List.length_eq_zero_iff, -List.map_take, -List.map_drop, b_law02_Small_l0, hx, ih])
theorem small_a1 (G : List V) (hG : ∃ (ns ts : List ByteArray) (st : Int) (rs : List Rule), G = (encG ⟨ns, ts, st, rs⟩).cells) (q : List ByteArray) (hs : ∀ s ∈ q, s.size ≤ 4611686018427387904) (hl : q.length ≤ 4611686018427387904) : ∀ (r : List ByteArray) (i : Nat) (j n : Int), q.drop i = r → j = i → ∃ y : Int, lp mach lk c_law02_Small_l1 ⟨[(1, .ptr H.length 1 0), (3, .int .i64 n), (25, .sl (q.map V.str) .no), (26, .int .i64 q.length), (27, .int .i64 j)], [(1, .cells G)], H⟩ = some (.exit 2, ⟨[(1, .ptr H.length 1 0), (3, .int .i64 y)], [(1, .cells G)], H⟩) := by
  obtain ⟨ns, ts, st, rs', rfl⟩ := hG
  simp only [encG, V.cells]
  intro r
  induction r with
  | nil =>
    intro i j n h hj; subst hj
    have := drop_nil h
    refine ⟨n, ?_⟩
    (rw [st_law02_Small_l1]; simp (disch := first | assumption | omega | (simp; done) | (simp only [ByteArray.size_append]; omega)) [-getElem?_pos, -List.all_eq_true, -List.any_eq_true, -List.length_eq_zero_iff, -List.map_take, -List.map_drop, b_law02_Small_l1])
  | cons x r ih =>
    intro i j n h hj; subst hj
    obtain ⟨hx, hlt, hr⟩ := drop_cons h
    have hm := hs x (mem_drop h)
    have hd := div16 x.size
    obtain ⟨y, ih⟩ := ih (i + 1) (i + 1) (IntKind.i64.wrap (n + (x.size : Int) / 16)) hr (by omega)
    refine ⟨y, ?_⟩
    (rw [st_law02_Small_l1]; simp (disch := first | assumption | omega | (simp; done) | (simp only [ByteArray.size_append]; omega)) [-getElem?_pos, -List.all_eq_true, -List.any_eq_true, -List.length_eq_zero_iff, -List.map_take, -List.map_drop, b_law02_Small_l1, hx, hd, ih])
theorem small_a2 (G : List V) (hG : ∃ (ns ts : List ByteArray) (st : Int) (rs : List Rule), G = (encG ⟨ns, ts, st, rs⟩).cells) (q : List ByteArray) (hs : ∀ s ∈ q, s.size ≤ 4611686018427387904) (hl : q.length ≤ 4611686018427387904) : ∀ (r : List ByteArray) (i : Nat) (j n : Int), q.drop i = r → j = i → ∃ y : Int, lp mach lk c_law02_Small_l2 ⟨[(1, .ptr H.length 1 0), (3, .int .i64 n), (38, .sl (q.map V.str) .no), (39, .int .i64 q.length), (40, .int .i64 j)], [(1, .cells G)], H⟩ = some (.exit 4, ⟨[(1, .ptr H.length 1 0), (3, .int .i64 y)], [(1, .cells G)], H⟩) := by
  obtain ⟨ns, ts, st, rs', rfl⟩ := hG
  simp only [encG, V.cells]
  intro r
  induction r with
  | nil =>
    intro i j n h hj; subst hj
    have := drop_nil h
    refine ⟨n, ?_⟩
    (rw [st_law02_Small_l2]; simp (disch := first | assumption | omega | (simp; done) | (simp only [ByteArray.size_append]; omega)) [-getElem?_pos, -List.all_eq_true, -List.any_eq_true, -List.length_eq_zero_iff, -List.map_take, -List.map_drop, b_law02_Small_l2])
  | cons x r ih =>
    intro i j n h hj; subst hj
    obtain ⟨hx, hlt, hr⟩ := drop_cons h
    have hm := hs x (mem_drop h)
    have hd := div16 x.size
    obtain ⟨y, ih⟩ := ih (i + 1) (i + 1) (IntKind.i64.wrap (n + (x.size : Int) / 16)) hr (by omega)
    refine ⟨y, ?_⟩
    (rw [st_law02_Small_l2]; simp (disch := first | assumption | omega | (simp; done) | (simp only [ByteArray.size_append]; omega)) [-getElem?_pos, -List.all_eq_true, -List.any_eq_true, -List.length_eq_zero_iff, -List.map_take, -List.map_drop, b_law02_Small_l2, hx, hd, ih])
theorem sp_Small0 (hlk : lk ≤ H.length) (ns ts : List ByteArray) (st : Int) (rs : List Rule) (hl : ns.length ≤ 4611686018427387904 ∧ ts.length ≤ 4611686018427387904 ∧ rs.length ≤ 4611686018427387904) (hs : sizeC rs + textsW ns + textsW ts ≤ 4611686018427387904) : lim mach lk f_law02_Small [(.agg [.sl (ns.map V.str) .no, .sl (ts.map V.str) .no, .int .i64 st, .sl (rs.map encR) .no])] H = some (.bool (smallB ⟨ns, ts, st, rs⟩), H) := by
  have p0 := sizeC_0 rs
  have p1 := textsW_0 ns
  have p2 := textsW_0 ts
  have h0 := small_l0 hlk _ ⟨ns, ts, st, rs, rfl⟩ rs (by omega) hl.2.2 rs 0 0 0 rfl rfl (by omega) (by omega)
  have h1 := small_l1 (lk := lk) (H := H) _ ⟨ns, ts, st, rs, rfl⟩ ns (sizeC rs) (by omega) (by omega) hl.1 ns 0 0 (sizeC rs) rfl rfl (by omega) (by omega)
  have h2 := small_l2 (lk := lk) (H := H) _ ⟨ns, ts, st, rs, rfl⟩ ts (sizeC rs + textsW ns) (by omega) (by omega) hl.2.1 ts 0 0 (sizeC rs + textsW ns) rfl rfl (by omega) (by omega)
  simp only [encG, V.cells] at h0 h1 h2
  unfold smallB
  simp only
  by_cases c0 : sizeC rs + textsW ns + textsW ts ≤ 600
  · by_cases c1 : ns.length ≤ 60
    · by_cases c2 : ts.length ≤ 60
      · by_cases c3 : rs.length ≤ 120 <;> (rw [eq_law02_Small]; simp (disch := first | assumption | omega | (simp; done) | (simp only [ByteArray.size_append]; omega)) [-getElem?_pos, -List.all_eq_true, -List.any_eq_true, -List.length_eq_zero_iff, -List.map_take, -List.map_drop, c_law02_Small, h0, h1, h2, c0, c1, c2, c3])
      · (rw [eq_law02_Small]; simp (disch := first | assumption | omega | (simp; done) | (simp only [ByteArray.size_append]; omega)) [-getElem?_pos, -List.all_eq_true, -List.any_eq_true, -List.length_eq_zero_iff, -List.map_take, -List.map_drop, c_law02_Small, h0, h1, h2, c0, c1, c2])
    · (rw [eq_law02_Small]; simp (disch := first | assumption | omega | (simp; done) | (simp only [ByteArray.size_append]; omega)) [-getElem?_pos, -List.all_eq_true, -List.any_eq_true, -List.length_eq_zero_iff, -List.map_take, -List.map_drop, c_law02_Small, h0, h1, h2, c0, c1])
  · (rw [eq_law02_Small]; simp (disch := first | assumption | omega | (simp; done) | (simp only [ByteArray.size_append]; omega)) [-getElem?_pos, -List.all_eq_true, -List.any_eq_true, -List.length_eq_zero_iff, -List.map_take, -List.map_drop, c_law02_Small, h0, h1, h2, c0])
theorem sp_Small (hlk : lk ≤ H.length) (ns ts : List ByteArray) (st : Int) (rs : List Rule) (hg : OkG ⟨ns, ts, st, rs⟩) (hn : ∀ s ∈ ns, s.size ≤ 140737488355328) (ht : ∀ s ∈ ts, s.size ≤ 140737488355328) (hr : ∀ r ∈ rs, r.right.length ≤ 140737488355328) : lim mach lk f_law02_Small [(.agg [.sl (ns.map V.str) .no, .sl (ts.map V.str) .no, .int .i64 st, .sl (rs.map encR) .no])] H = some (.bool (smallB ⟨ns, ts, st, rs⟩), H) := by
  by_cases hc : ns.length ≤ 60 ∧ ts.length ≤ 60 ∧ rs.length ≤ 120
  · refine sp_Small0 hlk ns ts st rs ⟨hg.1, hg.2.1, hg.2.2.1⟩ ?_
    have tw : ∀ l : List ByteArray, (∀ s ∈ l, s.size ≤ 140737488355328) → textsW l ≤ l.length * 140737488355328 := by
      intro l
      induction l with
      | nil => intro _; simp [textsW]
      | cons x l ih =>
        intro h
        have h1 := h x List.mem_cons_self
        have h2 := ih fun y hy => h y (List.mem_cons_of_mem _ hy)
        simp only [textsW, List.length_cons]; omega
    have sw : ∀ l : List Rule, (∀ r ∈ l, r.right.length ≤ 140737488355328) → sizeC l ≤ l.length * 140737488355329 := by
      intro l
      induction l with
      | nil => intro _; simp [sizeC]
      | cons x l ih =>
        intro h
        have h1 := h x List.mem_cons_self
        have h2 := ih fun y hy => h y (List.mem_cons_of_mem _ hy)
        simp only [sizeC, List.length_cons]; omega
    have a1 := tw ns hn
    have a2 := tw ts ht
    have a3 := sw rs hr
    omega
  · obtain ⟨y0, h0⟩ := small_a0 hlk _ ⟨ns, ts, st, rs, rfl⟩ rs hg.2.2.2 hg.2.2.1 rs 0 0 0 rfl rfl
    obtain ⟨y1, h1⟩ := small_a1 (lk := lk) (H := H) _ ⟨ns, ts, st, rs, rfl⟩ ns (fun s hs => by have := hn s hs; omega) hg.1 ns 0 0 y0 rfl rfl
    obtain ⟨y2, h2⟩ := small_a2 (lk := lk) (H := H) _ ⟨ns, ts, st, rs, rfl⟩ ts (fun s hs => by have := ht s hs; omega) hg.2.1 ts 0 0 y1 rfl rfl
    simp only [encG, V.cells] at h0 h1 h2
    have e : smallB ⟨ns, ts, st, rs⟩ = false := by unfold smallB; rw [decide_eq_false]; exact fun h => hc h.2
    rw [e]
    have hl0 := hg.1
    have hl1 := hg.2.1
    have hl2 := hg.2.2.1
    simp only at hl0 hl1 hl2
    by_cases c0 : y2 ≤ 600
    · by_cases c1 : ns.length ≤ 60
      · by_cases c2 : ts.length ≤ 60
        · have c3 : ¬ rs.length ≤ 120 := fun h => hc ⟨c1, c2, h⟩
          (rw [eq_law02_Small]; simp (disch := first | assumption | omega | (simp; done) | (simp only [ByteArray.size_append]; omega)) [-getElem?_pos, -List.all_eq_true, -List.any_eq_true, -List.length_eq_zero_iff, -List.map_take, -List.map_drop, c_law02_Small, h0, h1, h2, c0, c1, c2, c3])
        · (rw [eq_law02_Small]; simp (disch := first | assumption | omega | (simp; done) | (simp only [ByteArray.size_append]; omega)) [-getElem?_pos, -List.all_eq_true, -List.any_eq_true, -List.length_eq_zero_iff, -List.map_take, -List.map_drop, c_law02_Small, h0, h1, h2, c0, c1, c2])
      · (rw [eq_law02_Small]; simp (disch := first | assumption | omega | (simp; done) | (simp only [ByteArray.size_append]; omega)) [-getElem?_pos, -List.all_eq_true, -List.any_eq_true, -List.length_eq_zero_iff, -List.map_take, -List.map_drop, c_law02_Small, h0, h1, h2, c0, c1])
    · (rw [eq_law02_Small]; simp (disch := first | assumption | omega | (simp; done) | (simp only [ByteArray.size_append]; omega)) [-getElem?_pos, -List.all_eq_true, -List.any_eq_true, -List.length_eq_zero_iff, -List.map_take, -List.map_drop, c_law02_Small, h0, h1, h2, c0])
end Go.Proofs.YtlacnkjkcikodaaDoor.Am
end
section
set_option linter.unusedVariables false
set_option linter.unusedSimpArgs false
set_option maxHeartbeats 1000000
namespace Go.Proofs.YtlacnkjkcikodaaDoor.Am
open Go
variable {lk : Nat} {H : List Tab}
theorem idx_str_l0 (l : List ByteArray) (s : ByteArray) (hl : l.length ≤ 4611686018427387904) : ∀ (r : List ByteArray) (i : Nat) (j : Int), l.drop i = r → j = i → lp mach lk c_slices_Index_string_string_l0 ⟨[(0, .sl (l.map V.str) .no), (1, .str s), (7, .int .i64 l.length), (8, .int .i64 j)], [], H⟩ = some (if idxI (fun x => decide (s = x)) r j < 0 then (.exit 0, ⟨[], [], H⟩) else (.ret, ⟨[(4, .int .i64 (idxI (fun x => decide (s = x)) r j))], [], H⟩)) := by
  intro r
  induction r with
  | nil =>
    intro i j h hj; subst hj
    have := drop_nil h
    (rw [st_slices_Index_string_string_l0]; simp (disch := first | assumption | omega | (simp; done) | (simp only [ByteArray.size_append]; omega)) [-getElem?_pos, -List.all_eq_true, -List.any_eq_true, -List.length_eq_zero_iff, -List.map_take, -List.map_drop, b_slices_Index_string_string_l0, idxI])
  | cons x r ih =>
    intro i j h hj; subst hj
    obtain ⟨hx, hlt, hr⟩ := drop_cons h
    have ih := ih (i + 1) (i + 1) hr (by omega)
    by_cases e : s = x
    · subst e; (rw [st_slices_Index_string_string_l0]; simp (disch := first | assumption | omega | (simp; done) | (simp only [ByteArray.size_append]; omega)) [-getElem?_pos, -List.all_eq_true, -List.any_eq_true, -List.length_eq_zero_iff, -List.map_take, -List.map_drop, b_slices_Index_string_string_l0, idxI, hx])
    · (rw [st_slices_Index_string_string_l0]; simp (disch := first | assumption | omega | (simp; done) | (simp only [ByteArray.size_append]; omega)) [-getElem?_pos, -List.all_eq_true, -List.any_eq_true, -List.length_eq_zero_iff, -List.map_take, -List.map_drop, b_slices_Index_string_string_l0, idxI, hx, e, ih])
@[simp] theorem sp_Index_str (l : List ByteArray) (s : ByteArray) (hl : l.length ≤ 4611686018427387904) : lim mach lk f_slices_Index_string_string [.sl (l.map V.str) .no, .str s] H = some (.int .i64 (idxI (fun x => decide (s = x)) l 0), H) := by
  have h := idx_str_l0 (lk := lk) (H := H) l s hl l 0 0 rfl rfl
  by_cases e : idxI (fun x => decide (s = x)) l 0 < 0
  · rw [if_pos e] at h
    have e2 := idxI_neg (fun x => decide (s = x)) l 0 (by omega) e
    (rw [eq_slices_Index_string_string]; simp (disch := first | assumption | omega | (simp; done) | (simp only [ByteArray.size_append]; omega)) [-getElem?_pos, -List.all_eq_true, -List.any_eq_true, -List.length_eq_zero_iff, -List.map_take, -List.map_drop, c_slices_Index_string_string, h, e2])
  · rw [if_neg e] at h; (rw [eq_slices_Index_string_string]; simp (disch := first | assumption | omega | (simp; done) | (simp only [ByteArray.size_append]; omega)) [-getElem?_pos, -List.all_eq_true, -List.any_eq_true, -List.length_eq_zero_iff, -List.map_take, -List.map_drop, c_slices_Index_string_string, h])
@[simp] theorem sp_Contains_str (l : List ByteArray) (s : ByteArray) (hl : l.length ≤ 4611686018427387904) : lim mach lk f_slices_Contains_string_string [.sl (l.map V.str) .no, .str s] H = some (.bool (l.any fun x => decide (s = x)), H) := by
  have e := idxI_any (fun x => decide (s = x)) l 0 (by omega)
  (rw [eq_slices_Contains_string_string]; simp (disch := first | assumption | omega | (simp; done) | (simp only [ByteArray.size_append]; omega)) [-getElem?_pos, -List.all_eq_true, -List.any_eq_true, -List.length_eq_zero_iff, -List.map_take, -List.map_drop, c_slices_Contains_string_string, e])
@[simp] theorem sp_Itoa (n : Int) (h : -9223372036854775808 ≤ n ∧ n ≤ 9223372036854775807) : lim mach lk f_strconv_Itoa [.int .i64 n] H = some (.str (itoaB n), H) := by
  rw [eq_strconv_Itoa]; simp only [gv_Itoa, if_pos h]
@[simp] theorem sp_Quote (s : ByteArray) (h : s.size ≤ 17592186044416) : lim mach lk f_names_Quote [.str s] H = some (.str (quoteB s), H) := by
  rw [eq_names_Quote]; simp only [gv_Quote, if_pos h]
theorem itoaB_size (n : Int) (h : -9223372036854775808 ≤ n ∧ n ≤ 9223372036854775807) : (itoaB n).size ≤ 20 := by
  have := itoa_len n h.1 h.2
  have e : (itoaB n).size = (Lib.itoa n).length := by simp [itoaB, ByteArray.size]
  omega
def freshP (s : ByteArray) : ByteArray := s.extract 0 (min s.size 32) ++ ⟨#[45]⟩
def freshAt (l : List ByteArray) (p : ByteArray) : Nat → Int → Option ByteArray
  | 0, _ => none
  | k + 1, n => bif l.any (fun x => decide (p ++ itoaB n = x)) then freshAt l p k (n + 1) else some (p ++ itoaB n)
theorem fresh_l0 (l : List ByteArray) (p s : ByteArray) (hl : l.length ≤ 4611686018427387904) (hp : p.size ≤ 4611686018427387904) : ∀ (k : Nat) (n : Int), 0 ≤ n → n + k ≤ 4611686018427387904 → freshAt l p k n = some s → lp mach lk c_names_Fresh_l0 ⟨[(0, .sl (l.map V.str) .no), (1, .str p), (5, .int .i64 n)], [], H⟩ = some (.ret, ⟨[(4, .str s)], [], H⟩) := by
  intro k
  induction k with
  | zero => intro n _ _ h; cases h
  | succ k ih =>
    intro n h0 hk h
    simp only [freshAt] at h
    have hz := itoaB_size n (by omega)
    cases e : l.any (fun x => decide (p ++ itoaB n = x)) with
    | true =>
      rw [e, cond_true] at h
      have ih := ih (n + 1) (by omega) (by omega) h
      (rw [st_names_Fresh_l0]; simp (disch := first | assumption | omega | (simp; done) | (simp only [ByteArray.size_append]; omega)) [-getElem?_pos, -List.all_eq_true, -List.any_eq_true, -List.length_eq_zero_iff, -List.map_take, -List.map_drop, b_names_Fresh_l0, e, ih])
    | false =>
      rw [e, cond_false] at h
      cases h
      (rw [st_names_Fresh_l0]; simp (disch := first | assumption | omega | (simp; done) | (simp only [ByteArray.size_append]; omega)) [-getElem?_pos, -List.all_eq_true, -List.any_eq_true, -List.length_eq_zero_iff, -List.map_take, -List.map_drop, b_names_Fresh_l0, e])
theorem sp_Fresh (l : List ByteArray) (o s : ByteArray) (k : Nat) (hk : k ≤ 4611686018427387) (hl : l.length ≤ 4611686018427387904) (ho : o.size ≤ 4611686018427387904) (h : freshAt l (freshP o) k 1 = some s) : lim mach lk f_names_Fresh [.sl (l.map V.str) .no, .str o] H = some (.str s, H) := by
  have hz : (o.extract 0 (min o.size 32)).size ≤ 32 := by rw [ByteArray.size_extract]; omega
  have hp : (freshP o).size ≤ 33 := by unfold freshP; rw [ByteArray.size_append]; have : (⟨#[45]⟩ : ByteArray).size = 1 := rfl; omega
  have h1 : (⟨#[45]⟩ : ByteArray).size = 1 := rfl
  have h := fresh_l0 (lk := lk) (H := H) l (freshP o) s hl (by omega) k 1 (by omega) (by omega) h
  unfold freshP at h
  by_cases c : (32 : Int) < o.size
  · have e : min o.size 32 = 32 := by omega
    rw [e] at h hz
    (rw [eq_names_Fresh]; simp (disch := first | assumption | omega | (simp; done) | (simp only [ByteArray.size_append]; omega)) [-getElem?_pos, -List.all_eq_true, -List.any_eq_true, -List.length_eq_zero_iff, -List.map_take, -List.map_drop, c_names_Fresh, low64, h, h1])
  · have e : min o.size 32 = o.size := by omega
    have e4 : o.extract 0 o.size = o := by simp
    rw [e] at h hz
    rw [e4] at h hz
    (rw [eq_names_Fresh]; simp (disch := first | assumption | omega | (simp; done) | (simp only [ByteArray.size_append]; omega)) [-getElem?_pos, -List.all_eq_true, -List.any_eq_true, -List.length_eq_zero_iff, -List.map_take, -List.map_drop, c_names_Fresh, low64, h, h1])
def textC (ns ts : List ByteArray) (s : Int) : ByteArray := if hasI ns.length ts.length s = true then (if s < 0 then quoteB (ts.getD (-1 - s).toNat ⟨#[]⟩) else ⟨#[60]⟩ ++ ns.getD s.toNat ⟨#[]⟩ ++ ⟨#[62]⟩) else ⟨#[]⟩
theorem sp_Text (hlk : lk ≤ H.length) (ns ts : List ByteArray) (st : Int) (rs : List Rule) (s : Int) (h : -9223372036854775808 ≤ s) (hn : ∀ x ∈ ns, x.size ≤ 17592186044416) (ht : ∀ x ∈ ts, x.size ≤ 17592186044416) : lim mach lk f_gram_Grammar_Text [(.agg [.sl (ns.map V.str) .no, .sl (ts.map V.str) .no, .int .i64 st, .sl (rs.map encR) .no]), .int .i64 s] H = some (.str (textC ns ts s), H) := by
  unfold textC
  cases e : hasI ns.length ts.length s with
  | false => (rw [eq_gram_Grammar_Text]; simp (disch := first | assumption | omega | (simp; done) | (simp only [ByteArray.size_append]; omega)) [-getElem?_pos, -List.all_eq_true, -List.any_eq_true, -List.length_eq_zero_iff, -List.map_take, -List.map_drop, c_gram_Grammar_Text, e])
  | true =>
    have e' := of_decide_eq_true e
    by_cases c : s < 0
    · obtain ⟨n, rfl⟩ : ∃ n : Nat, s = -1 - n := ⟨(-1 - s).toNat, by omega⟩
      obtain ⟨x, hx⟩ : ∃ x, ts[n]? = some x := ⟨_, List.getElem?_eq_getElem (by omega)⟩
      have hx2 : ts.getD n ⟨#[]⟩ = x := by simp [List.getD_eq_getElem?_getD, hx]
      have e3 : -1 - (-1 - (n : Int)) = n := by omega
      have hq := ht x (List.mem_of_getElem? hx)
      have ep : placeI (-1 - n) = n := by unfold placeI; rw [if_pos c, e3]
      (rw [eq_gram_Grammar_Text]; simp (disch := first | assumption | omega | (simp; done) | (simp only [ByteArray.size_append]; omega)) [-getElem?_pos, -List.all_eq_true, -List.any_eq_true, -List.length_eq_zero_iff, -List.map_take, -List.map_drop, c_gram_Grammar_Text, e, ep, e3, hx, hx2])
    · obtain ⟨n, rfl⟩ : ∃ n : Nat, s = n := ⟨s.toNat, by omega⟩
      obtain ⟨x, hx⟩ : ∃ x, ns[n]? = some x := ⟨_, List.getElem?_eq_getElem (by omega)⟩
      have hx2 : ns.getD n ⟨#[]⟩ = x := by simp [List.getD_eq_getElem?_getD, hx]
      have hq := hn x (List.mem_of_getElem? hx)
      have z1 : (⟨#[60]⟩ : ByteArray).size = 1 := rfl
      have z2 : (⟨#[62]⟩ : ByteArray).size = 1 := rfl
      (rw [eq_gram_Grammar_Text]; simp (disch := first | assumption | omega | (simp; done) | (simp only [ByteArray.size_append]; omega)) [-getElem?_pos, -List.all_eq_true, -List.any_eq_true, -List.length_eq_zero_iff, -List.map_take, -List.map_drop, c_gram_Grammar_Text, e, hx, hx2, z1, z2])
def exG : Gram := ⟨[⟨#[83]⟩], [⟨#[97]⟩], 0, [⟨0, [-1, 0]⟩, ⟨0, []⟩]⟩
theorem sp_Example (hlk : lk ≤ H.length) : lim mach lk f_law02_Example [] H = some (encG exG, H) := by
  (rw [eq_law02_Example]; simp (disch := first | assumption | omega | (simp; done) | (simp only [ByteArray.size_append]; omega)) [-getElem?_pos, -List.all_eq_true, -List.any_eq_true, -List.length_eq_zero_iff, -List.map_take, -List.map_drop, c_law02_Example, exG])
theorem sp_Awake1 : lim mach lk f_law01_Awake [] H = some (.bool true, H) := by
  have e1 : quoteB ⟨#[97, 34, 98]⟩ = ⟨#[34, 97, 92, 34, 98, 34]⟩ := by kernel_rfl
  have e2 : freshAt [⟨#[83]⟩, ⟨#[83, 45, 49]⟩] (freshP ⟨#[83]⟩) 3 1 = some ⟨#[83, 45, 50]⟩ := by kernel_rfl
  have e3 : nameB ⟨#[97, 45, 49]⟩ = true := by kernel_rfl
  have e4 : nameB ⟨#[49, 97]⟩ = false := by kernel_rfl
  have z1 : (⟨#[97, 34, 98]⟩ : ByteArray).size = 3 := rfl
  have h := fun (L : Tab) => sp_Fresh (lk := H.length + 1) (H := H ++ [L]) [⟨#[83]⟩, ⟨#[83, 45, 49]⟩] ⟨#[83]⟩ _ 3 (by omega) (by simp) (by decide) e2
  simp only [List.map_cons, List.map_nil] at h
  (rw [eq_law01_Awake]; simp (disch := first | assumption | omega | (simp; done) | (simp only [ByteArray.size_append]; omega)) [-getElem?_pos, -List.all_eq_true, -List.any_eq_true, -List.length_eq_zero_iff, -List.map_take, -List.map_drop, c_law01_Awake, e1, h, e3, e4, z1])
theorem okG_ex : OkG exG := by
  refine ⟨by decide, by decide, by decide, fun r hr => ?_⟩
  simp [exG] at hr
  rcases hr with rfl | rfl <;> simp [OkR]
theorem sp_Awake2 (hlk : lk ≤ H.length) : lim mach lk f_law02_Awake [] H = some (.bool true, H) := by
  have h1 := fun (L : Tab) => sp_Check (lk := H.length + 1) (H := H ++ [L]) (by simp) exG okG_ex
  have h2 := fun (L : Tab) => sp_Size (lk := H.length + 1) (H := H ++ [L]) (by simp) exG.names exG.terms exG.start exG.rules (by decide) (by decide)
  have h3 := fun (L : Tab) (s : Int) (hs : -9223372036854775808 ≤ s) => sp_Text (lk := H.length + 1) (H := H ++ [L]) (by simp) exG.names exG.terms exG.start exG.rules s hs (by decide) (by decide)
  have h4 := fun (L : Tab) => sp_Example (lk := H.length + 1) (H := H ++ [L]) (by simp)
  have h5 := fun (L : Tab) => sp_Awake1 (lk := H.length + 1) (H := H ++ [L])
  have e1 : checkC exG = 0 := by kernel_rfl
  have e2 : sizeC exG.rules = 4 := by kernel_rfl
  have e3 : textC exG.names exG.terms (-1) = ⟨#[34, 97, 34]⟩ := by kernel_rfl
  have e4 : textC exG.names exG.terms 0 = ⟨#[60, 83, 62]⟩ := by kernel_rfl
  have h6 := fun (L : Tab) => h3 L (-1) (by omega)
  have h7 := fun (L : Tab) => h3 L 0 (by omega)
  rw [e1] at h1; rw [e2] at h2; rw [e3] at h6; rw [e4] at h7
  simp only [exG, encG, encR, List.map_cons, List.map_nil] at h1 h2 h4 h6 h7
  (rw [eq_law02_Awake]; simp (disch := first | assumption | omega | (simp; done) | (simp only [ByteArray.size_append]; omega)) [-getElem?_pos, -List.all_eq_true, -List.any_eq_true, -List.length_eq_zero_iff, -List.map_take, -List.map_drop, c_law02_Awake, h1, h2, h4, h5, h6, h7])
end Go.Proofs.YtlacnkjkcikodaaDoor.Am
end
section
set_option linter.unusedVariables false
set_option linter.unusedSimpArgs false
set_option maxHeartbeats 1000000
namespace Go.Proofs.YtlacnkjkcikodaaDoor.Am
open Go
variable {lk : Nat} {H : List Tab}
structure Met where
  a : Int
  chain : List Int
  deriving DecidableEq, Inhabited
def encMt (m : Met) : V := .agg [.int .i64 m.a, .sl (m.chain.map (V.int .i64)) .no]
theorem szOK_Mt {q : List Met} : szOK 2 (q.map encMt) = true := szOK_map fun _ => rfl
attribute [simp] encMt szOK_Mt
def toI (r : List Int) : Int := match r with
  | [s] => if s < 0 then -1 else s
  | _ => -1
def knownB (b : Int) (out : List Met) : Bool := out.any fun m => decide (m.a = b)
def wPut (rs : List Rule) (c : List Int) (k : Int) (out : List Met) : List Met := match rs[k.toNat]? with
  | some r => if 0 ≤ toI r.right ∧ knownB (toI r.right) out = false then out ++ [⟨toI r.right, c ++ [k]⟩] else out
  | none => out
def wIn (rs : List Rule) (c : List Int) : List Int → List Met → List Met
  | [], out => out
  | k :: l, out => wIn rs c l (wPut rs c k out)
def wOut (rs : List Rule) : Nat → Nat → List Met → List Met
  | 0, _, out => out
  | f + 1, i, out => match out[i]? with
    | some m => wOut rs f (i + 1) (wIn rs m.chain (ofI m.a rs 0) out)
    | none => out
theorem nodupN : ∀ (n : Nat) (L : List Nat), L.Nodup → (∀ x ∈ L, x < n) → L.length ≤ n := by
  intro n
  induction n with
  | zero =>
    intro L _ h
    cases L with
    | nil => simp
    | cons a L => exact absurd (h a (by simp)) (by omega)
  | succ n ih =>
    intro L hd h
    have h1 := ih (L.erase n) (hd.erase n) (fun x hx => by
      have := h x (List.mem_of_mem_erase hx)
      have hne : x ≠ n := fun e => by subst e; exact hd.not_mem_erase hx
      omega)
    have h2 := List.length_erase (a := n) (l := L)
    split at h2 <;> omega
theorem nodupI {n : Nat} {L : List Int} (h : L.Nodup) (hr : ∀ x ∈ L, 0 ≤ x ∧ x < n) : L.length ≤ n := by
  have := nodupN n (L.map Int.toNat) (by
    rw [List.nodup_iff_pairwise_ne, List.pairwise_map]
    refine List.Pairwise.imp_of_mem ?_ h
    intro a b ha hb hne e
    have := hr a ha; have := hr b hb
    omega) (fun x hx => by
    obtain ⟨y, hy, rfl⟩ := List.mem_map.1 hx
    have := hr y hy; omega)
  simpa using this
structure WInv (n : Nat) (out : List Met) : Prop where
  nd : (out.map Met.a).Nodup
  rg : ∀ m ∈ out, 0 ≤ m.a ∧ m.a < n
  ch : ∀ m ∈ out, m.chain.length < out.length
theorem WInv.len {n : Nat} {out : List Met} (h : WInv n out) : out.length ≤ n := by
  have := nodupI h.nd fun x hx => by
    obtain ⟨m, hm, rfl⟩ := List.mem_map.1 hx
    exact h.rg m hm
  simpa using this
def Fit (n : Nat) (rs : List Rule) : Prop := ∀ r ∈ rs, toI r.right < n
theorem wPut_inv {n : Nat} {rs : List Rule} (hf : Fit n rs) {c : List Int} {k : Int} {out : List Met} (h : WInv n out) (hc : c.length < out.length) : WInv n (wPut rs c k out) ∧ out.length ≤ (wPut rs c k out).length := by
  unfold wPut
  split
  · rename_i r hr
    split
    · rename_i hk
      refine ⟨⟨?_, fun m hm => ?_, fun m hm => ?_⟩, by simp⟩
      · rw [List.map_append, List.nodup_append]
        refine ⟨h.nd, by simp, fun x hx y hy => ?_⟩
        simp only [List.map_cons, List.map_nil, List.mem_singleton] at hy
        subst hy
        obtain ⟨m, hm, rfl⟩ := List.mem_map.1 hx
        intro e
        have := hk.2
        unfold knownB at this
        rw [List.any_eq_false] at this
        exact this m hm (by simp [e])
      · rcases List.mem_append.1 hm with hm | hm
        · exact h.rg m hm
        · obtain rfl := List.mem_singleton.1 hm
          exact ⟨hk.1, hf r (List.mem_of_getElem? hr)⟩
      · simp only [List.length_append, List.length_singleton]
        rcases List.mem_append.1 hm with hm | hm
        · have := h.ch m hm; omega
        · obtain rfl := List.mem_singleton.1 hm
          simp; omega
    · exact ⟨h, Nat.le_refl _⟩
  · exact ⟨h, Nat.le_refl _⟩
theorem wIn_inv {n : Nat} {rs : List Rule} (hf : Fit n rs) {c : List Int} : ∀ (ks : List Int) {out : List Met}, WInv n out → c.length < out.length → WInv n (wIn rs c ks out) ∧ out.length ≤ (wIn rs c ks out).length
  | [], out, h, _ => ⟨h, Nat.le_refl _⟩
  | k :: ks, out, h, hc => by
    obtain ⟨h1, h2⟩ := wPut_inv hf (k := k) h hc
    obtain ⟨h3, h4⟩ := wIn_inv hf ks h1 (Nat.lt_of_lt_of_le hc h2)
    exact ⟨h3, Nat.le_trans h2 h4⟩
theorem wOut_inv {n : Nat} {rs : List Rule} (hf : Fit n rs) : ∀ (f i : Nat) {out : List Met}, WInv n out → WInv n (wOut rs f i out)
  | 0, _, out, h => h
  | f + 1, i, out, h => by
    unfold wOut
    split
    · rename_i m hm
      exact wOut_inv hf f (i + 1) (wIn_inv hf _ h (h.ch m (List.mem_of_getElem? hm))).1
    · exact h
def rIn (all : List Met) (a : Int) (c : List Int) : List Rule → Int → List Met → List Met
  | [], _, nx => nx
  | r :: l, k, nx => rIn all a c l (k + 1) (if r.left = a ∧ 0 ≤ toI r.right ∧ knownB (toI r.right) all = false ∧ knownB (toI r.right) nx = false then nx ++ [⟨toI r.right, c ++ [k]⟩] else nx)
theorem knownB_app (b : Int) (x y : List Met) : knownB b (x ++ y) = (knownB b x || knownB b y) := by simp [knownB]
theorem rIn_w (rs : List Rule) (all : List Met) (a : Int) (c : List Int) : ∀ (l : List Rule) (i : Nat) (nx : List Met), rs.drop i = l → wIn rs c (ofI a l i) (all ++ nx) = all ++ rIn all a c l i nx
  | [], i, nx, _ => by simp [ofI, rIn, wIn]
  | r :: l, i, nx, h => by
    obtain ⟨hx, -, hr⟩ := drop_cons h
    have ih := fun nx => rIn_w rs all a c l (i + 1) nx hr
    simp only [Int.natCast_add, Int.cast_ofNat_Int] at ih
    unfold ofI rIn
    by_cases e : r.left = a
    · rw [if_pos e]
      simp only [wIn, wPut, Int.toNat_natCast, hx, knownB_app, Bool.or_eq_false_iff]
      by_cases h1 : 0 ≤ toI r.right ∧ knownB (toI r.right) all = false ∧ knownB (toI r.right) nx = false
      · rw [if_pos h1, if_pos ⟨e, h1⟩, List.append_assoc]; exact ih _
      · rw [if_neg h1, if_neg (fun h => h1 h.2)]; exact ih _
    · rw [if_neg e, if_neg (fun h => e h.1)]; exact ih _
def rLay (rs : List Rule) (all : List Met) : List Met → List Met → List Met
  | [], nx => nx
  | m :: l, nx => rLay rs all l (rIn all m.a m.chain rs 0 nx)
theorem wOut_lay (rs : List Rule) (all : List Met) : ∀ (l : List Met) (i f : Nat) (nx : List Met), all.drop i = l → wOut rs (f + l.length) i (all ++ nx) = wOut rs f (i + l.length) (all ++ rLay rs all l nx)
  | [], i, f, nx, _ => rfl
  | m :: l, i, f, nx, h => by
    obtain ⟨hx, hlt, hr⟩ := drop_cons h
    have h0 := rIn_w rs all m.a m.chain rs 0 nx rfl
    have ih := wOut_lay rs all l (i + 1) f (rIn all m.a m.chain rs 0 nx) hr
    have e : wOut rs (f + (m :: l).length) i (all ++ nx) = wOut rs (f + l.length) (i + 1) (wIn rs m.chain (ofI m.a rs 0) (all ++ nx)) := by
      rw [show f + (m :: l).length = (f + l.length) + 1 by simp; omega]
      simp only [wOut]
      rw [List.getElem?_append_left hlt, hx]
    rw [e]
    simp only [Int.natCast_zero] at h0
    rw [h0, ih]
    simp only [rLay, List.length_cons]
    rw [show i + 1 + l.length = i + (l.length + 1) by omega]
def walkC (g : Gram) (a : Int) : List Met := if 0 ≤ a ∧ a < g.names.length then wOut g.rules (g.names.length + 1) 0 [⟨a, []⟩] else []
theorem WInv.one {n : Nat} {a : Int} (h : 0 ≤ a ∧ a < n) : WInv n [⟨a, []⟩] := ⟨by simp, fun m hm => by obtain rfl := List.mem_singleton.1 hm; exact h, fun m hm => by obtain rfl := List.mem_singleton.1 hm; simp⟩
theorem rulesF_none {n m : Nat} : ∀ {rs : List Rule}, rulesF n m rs = none → ∀ r ∈ rs, ruleC n m r = 0
  | r :: l, h, x, hx => by
    simp only [rulesF] at h
    split at h
    · rename_i h0
      rcases List.mem_cons.1 hx with rfl | hx
      · exact h0
      · exact rulesF_none h x hx
    · cases h
theorem check0 {g : Gram} (h : checkC g = 0) : (∀ r ∈ g.rules, ruleC g.names.length g.terms.length r = 0) ∧ 0 ≤ g.start ∧ g.start < g.names.length ∧ g.rules.Nodup ∧ 1 ≤ g.names.length ∧ g.names.length ≤ 2048 ∧ g.terms.length ≤ 2048 ∧ g.rules.length ≤ 8192 ∧ g.names.all nameB = true ∧ g.terms.all markB = true ∧ g.names.Nodup ∧ g.terms.Nodup := by
  unfold checkC at h
  split at h
  · cases h
  · rename_i h0
    split at h
    · cases h
    · rename_i h1
      split at h
      · cases h
      · rename_i h2
        split at h
        · cases h
        · rename_i h3
          rcases textsC_cases nameB g.names with ⟨e, f⟩ | ⟨e, f, q1⟩ | ⟨e, f, q1⟩
          · exact absurd (.inl e) h1
          · rcases textsC_cases markB g.terms with ⟨e2, f2⟩ | ⟨e2, f2, q2⟩ | ⟨e2, f2, q2⟩
            · exact absurd (.inr e2) h1
            · unfold rulesC at h
              split at h
              · rename_i x hx
                exfalso
                have : ∀ (l : List Rule) (x : Int), rulesF g.names.length g.terms.length l = some x → x ≠ 0 := by
                  intro l
                  induction l with
                  | nil => intro x h; cases h
                  | cons r l ih =>
                    intro x h
                    simp only [rulesF] at h
                    split at h
                    · exact ih x h
                    · rename_i hne; cases h; exact hne
                exact this _ _ hx h
              · rename_i hn
                split at h
                · rename_i hnd
                  exact ⟨rulesF_none hn, by omega, by omega, hnd, by omega, by omega, by omega, by omega, f, f2, q1, q2⟩
                · cases h
            · exact absurd (.inr e2) h2
          · exact absurd (.inl e) h2
theorem fit_of {g : Gram} (h : checkC g = 0) : Fit g.names.length g.rules := fun r hr => by
  have hn := (check0 h).2.2.2.2.1
  have h1 := (check0 h).1 r hr
  unfold ruleC at h1
  split at h1
  · cases h1
  · rename_i hx
    simp only [not_or, Bool.not_eq_true, List.any_eq_false] at hx
    unfold toI
    split
    · rename_i s he
      have := hx.2.2 s (by rw [he]; simp)
      simp only [hasI, Bool.not_eq_false', decide_eq_true_eq] at this
      split <;> omega
    · omega
end Go.Proofs.YtlacnkjkcikodaaDoor.Am
end
section
set_option linter.unusedVariables false
set_option linter.unusedSimpArgs false
set_option maxHeartbeats 1000000
namespace Go.Proofs.YtlacnkjkcikodaaDoor.Am
open Go
variable {lk : Nat} {H : List Tab}
theorem idxl_units_met_units_met (f : FuncId) (caps : List V) (p : Met → Bool) (l : List Met) (hf : Asks f caps encMt H p l) (hl : l.length ≤ 4611686018427387904) : ∀ (r : List Met) (i : Nat) (j : Int), l.drop i = r → j = i → lp mach lk c_slices_IndexFunc_units_met_units_met_l0 ⟨[(0, .sl (l.map encMt) .no), (1, .fn f caps), (7, .int .i64 l.length), (8, .int .i64 j)], [], H⟩ = some (if idxI p r j < 0 then (.exit 0, ⟨[], [], H⟩) else (.ret, ⟨[(4, .int .i64 (idxI p r j))], [], H⟩)) := by
  intro r
  induction r with
  | nil =>
    intro i j h hj; subst hj
    have := drop_nil h
    (rw [st_slices_IndexFunc_units_met_units_met_l0]; simp (disch := first | assumption | omega | (simp; done) | (simp only [ByteArray.size_append]; omega)) [-getElem?_pos, -List.all_eq_true, -List.any_eq_true, -List.length_eq_zero_iff, -List.map_take, -List.map_drop, b_slices_IndexFunc_units_met_units_met_l0, idxI])
  | cons x r ih =>
    intro i j h hj; subst hj
    obtain ⟨hx, hlt, hr⟩ := drop_cons h
    have ih := ih (i + 1) (i + 1) hr (by omega)
    have hc := hf.2 lk [[]] x (mem_drop h)
    have hb := hf.1
    try simp at hc
    cases hp : p x with
    | true => rw [hp] at hc; (rw [st_slices_IndexFunc_units_met_units_met_l0]; simp (disch := first | assumption | omega | (simp; done) | (simp only [ByteArray.size_append]; omega)) [-getElem?_pos, -List.all_eq_true, -List.any_eq_true, -List.length_eq_zero_iff, -List.map_take, -List.map_drop, b_slices_IndexFunc_units_met_units_met_l0, idxI, hx, hb, hc, hp])
    | false => rw [hp] at hc; (rw [st_slices_IndexFunc_units_met_units_met_l0]; simp (disch := first | assumption | omega | (simp; done) | (simp only [ByteArray.size_append]; omega)) [-getElem?_pos, -List.all_eq_true, -List.any_eq_true, -List.length_eq_zero_iff, -List.map_take, -List.map_drop, b_slices_IndexFunc_units_met_units_met_l0, idxI, hx, hb, hc, hp, ih])
theorem sp_Index_units_met_units_met (f : FuncId) (caps : List V) (p : Met → Bool) (l : List Met) (hf : Asks f caps encMt H p l) (hl : l.length ≤ 4611686018427387904) : lim mach lk f_slices_IndexFunc_units_met_units_met [.sl (l.map encMt) .no, .fn f caps] H = some (.int .i64 (idxI p l 0), H) := by
  have h := idxl_units_met_units_met (lk := lk) f caps p l hf hl l 0 0 rfl rfl
  by_cases e : idxI p l 0 < 0
  · rw [if_pos e] at h
    have e2 : idxI p l 0 = -1 := idxI_neg p l 0 (by omega) e
    (rw [eq_slices_IndexFunc_units_met_units_met]; simp (disch := first | assumption | omega | (simp; done) | (simp only [ByteArray.size_append]; omega)) [-getElem?_pos, -List.all_eq_true, -List.any_eq_true, -List.length_eq_zero_iff, -List.map_take, -List.map_drop, c_slices_IndexFunc_units_met_units_met, h, e2])
  · rw [if_neg e] at h; (rw [eq_slices_IndexFunc_units_met_units_met]; simp (disch := first | assumption | omega | (simp; done) | (simp only [ByteArray.size_append]; omega)) [-getElem?_pos, -List.all_eq_true, -List.any_eq_true, -List.length_eq_zero_iff, -List.map_take, -List.map_drop, c_slices_IndexFunc_units_met_units_met, h])
theorem sp_Contains_units_met_units_met (f : FuncId) (caps : List V) (p : Met → Bool) (l : List Met) (hf : Asks f caps encMt H p l) (hl : l.length ≤ 4611686018427387904) : lim mach lk f_slices_ContainsFunc_units_met_units_met [.sl (l.map encMt) .no, .fn f caps] H = some (.bool (l.any p), H) := by
  have h := sp_Index_units_met_units_met (lk := H.length + 1) f caps p l (hf.more [[]]) hl
  have e := idxI_any p l 0 (by omega)
  (rw [eq_slices_ContainsFunc_units_met_units_met]; simp (disch := first | assumption | omega | (simp; done) | (simp only [ByteArray.size_append]; omega)) [-getElem?_pos, -List.all_eq_true, -List.any_eq_true, -List.length_eq_zero_iff, -List.map_take, -List.map_drop, c_slices_ContainsFunc_units_met_units_met, h, e])
theorem sp_toU (a : Int) (r : List Int) (h : ∀ s ∈ r, -9223372036854775808 ≤ s) : lim mach lk f_units_to [(.agg [.int .i64 a, .sl ( r.map (V.int .i64)) .no])] H = some (.int .i64 (toI r), H) := by
  match r, h with
  | [], h => (rw [eq_units_to]; simp (disch := first | assumption | omega | (simp; done) | (simp only [ByteArray.size_append]; omega)) [-getElem?_pos, -List.all_eq_true, -List.any_eq_true, -List.length_eq_zero_iff, -List.map_take, -List.map_drop, c_units_to, toI])
  | [s], h =>
    have h := h s (by simp)
    by_cases hs : s < 0 <;> (rw [eq_units_to]; simp (disch := first | assumption | omega | (simp; done) | (simp only [ByteArray.size_append]; omega)) [-getElem?_pos, -List.all_eq_true, -List.any_eq_true, -List.length_eq_zero_iff, -List.map_take, -List.map_drop, c_units_to, toI, placeI, hs])
  | a :: b :: r, h => (rw [eq_units_to]; simp (disch := first | assumption | omega | (simp; done) | (simp only [ByteArray.size_append]; omega)) [-getElem?_pos, -List.all_eq_true, -List.any_eq_true, -List.length_eq_zero_iff, -List.map_take, -List.map_drop, c_units_to, toI])
theorem asks_walk (b : Int) (k : Nat) (tab : Tab) (hk : H[k]? = some tab) (hb : tab.get 2 = some (.cells [.int .i64 b])) (l : List Met) : Asks f_units_walk_1_1 [.ptr k 2 0] encMt H (fun m => decide (m.a = b)) l := by
  refine ⟨rfl, fun lk E x hx => ?_⟩
  obtain ⟨a, c⟩ := x
  have hlt := (List.getElem?_eq_some_iff.1 hk).1
  (rw [eq_units_walk_1_1]; simp (disch := first | assumption | omega | (simp; done) | (simp only [ByteArray.size_append]; omega)) [-getElem?_pos, -List.all_eq_true, -List.any_eq_true, -List.length_eq_zero_iff, -List.map_take, -List.map_drop, c_units_walk_1_1, hk, hb])
theorem sp_known (b : Int) (k : Nat) (tab : Tab) (out : List Met) (t : Tag) (hk : H[k]? = some tab) (hb : tab.get 5 = some (.cells [.sl (out.map encMt) t])) (hl : out.length ≤ 4611686018427387904) : lim mach lk f_units_walk_1 [.int .i64 b, .ptr k 5 0] H = some (.bool (knownB b out), H) := by
  have hlt := (List.getElem?_eq_some_iff.1 hk).1
  have h := fun (L : Tab) (h2 : L.get 2 = some (.cells [.int .i64 b])) => sp_Contains_units_met_units_met (lk := H.length + 1) (H := H ++ [L]) f_units_walk_1_1 [.ptr H.length 2 0] _ out (asks_walk (H := H ++ [L]) b H.length L (by simp) h2 out) hl
  unfold knownB
  cases t <;> (rw [eq_units_walk_1]; simp (disch := first | assumption | omega | (simp; done) | (simp only [ByteArray.size_append]; omega)) [-getElem?_pos, -List.all_eq_true, -List.any_eq_true, -List.length_eq_zero_iff, -List.map_take, -List.map_drop, c_units_walk_1, hk, hb, h])
theorem walk_l0 (hlk : lk ≤ H.length) (ns ts : List ByteArray) (st : Int) (rs : List Rule) (hok : ∀ r ∈ rs, ∀ s ∈ r.right, -9223372036854775808 ≤ s) (i : Nat) (m0 : Met) (ks : List Int) (hks : ks.length ≤ 1000000) (hkr : ∀ k ∈ ks, 0 ≤ k ∧ k < rs.length) (n : Nat) (hn : n ≤ 1000000) (hf : Fit n rs) : ∀ (r : List Int) (q : Nat) (j : Int) (out : List Met), ks.drop q = r → j = q → WInv n out → out[i]? = some m0 → lp mach lk c_units_walk_l0 ⟨[(2, .ptr H.length 2 0), (5, .ptr H.length 5 0), (6, .fn f_units_walk_1 [.ptr H.length 5 0]), (7, .int .i64 i), (8, .int .i64 m0.chain.length), (48, .sl (ks.map (V.int .i64)) .no), (49, .int .i64 ks.length), (50, .int .i64 j)], [(2, .cells (encG ⟨ns, ts, st, rs⟩).cells), (5, .cells [.sl (out.map encMt) .held])], H⟩ = some (.exit 2, ⟨[(2, .ptr H.length 2 0), (5, .ptr H.length 5 0), (6, .fn f_units_walk_1 [.ptr H.length 5 0]), (7, .int .i64 i)], [(2, .cells (encG ⟨ns, ts, st, rs⟩).cells), (5, .cells [.sl ((wIn rs m0.chain r out).map encMt) .held])], H⟩) := by
  simp only [encG, V.cells]
  intro r
  induction r with
  | nil =>
    intro q j out h hj hw hi; subst hj
    have := drop_nil h
    (rw [st_units_walk_l0]; simp (disch := first | assumption | omega | (simp; done) | (simp only [ByteArray.size_append]; omega)) [-getElem?_pos, -List.all_eq_true, -List.any_eq_true, -List.length_eq_zero_iff, -List.map_take, -List.map_drop, b_units_walk_l0, wIn])
  | cons k r ih =>
    intro q j out h hj hw hi; subst hj
    obtain ⟨hx, hlt, hr⟩ := drop_cons h
    obtain ⟨hk0, hk1⟩ := hkr k (mem_drop h)
    obtain ⟨k, rfl⟩ := Int.eq_ofNat_of_zero_le hk0
    obtain ⟨r0, hr0⟩ : ∃ r0, rs[k]? = some r0 := ⟨_, List.getElem?_eq_getElem (by omega)⟩
    have hokr := hok r0 (List.mem_of_getElem? hr0)
    have hlen := hw.len
    have hch := hw.ch m0 (List.mem_of_getElem? hi)
    obtain ⟨hw2, hle⟩ := wPut_inv hf (k := k) hw hch
    have hkn := fun (L : Tab) (hL : L.get 5 = some (.cells [.sl (out.map encMt) .held])) => sp_known (lk := lk) (H := H ++ [L]) (toI r0.right) H.length L out .held (by simp) hL (by omega)
    have hto := fun (L : Tab) => sp_toU (lk := H.length + 1) (H := H ++ [L]) r0.left r0.right hokr
    obtain ⟨a0, l0⟩ := r0
    obtain ⟨ma, mc⟩ := m0
    simp only at hkn hto hch ih ⊢
    have hil := (List.getElem?_eq_some_iff.1 hi).1
    by_cases h1 : 0 ≤ toI l0
    · cases h2 : knownB (toI l0) out with
      | true =>
        have e : wPut rs mc k out = out := by unfold wPut; simp [hr0, h1, h2]
        have ih := ih (q + 1) (q + 1) out hr (by omega) hw hi
        rw [h2] at hkn
        (rw [st_units_walk_l0]; simp (disch := first | assumption | omega | (simp; done) | (simp only [ByteArray.size_append]; omega)) [-getElem?_pos, -List.all_eq_true, -List.any_eq_true, -List.length_eq_zero_iff, -List.map_take, -List.map_drop, b_units_walk_l0, wIn, hx, hr0, hto, hkn, e, ih])
      | false =>
        have e : wPut rs mc k out = out ++ [⟨toI l0, mc ++ [(k : Int)]⟩] := by unfold wPut; simp [hr0, h1, h2]
        rw [e] at hw2
        have ih := ih (q + 1) (q + 1) _ hr (by omega) hw2 (by rw [List.getElem?_append_left hil]; exact hi)
        rw [h2] at hkn
        simp only [List.map_append, List.map_cons, List.map_nil, encMt] at ih
        (rw [st_units_walk_l0]; simp (disch := first | assumption | omega | (simp; done) | (simp only [ByteArray.size_append]; omega)) [-getElem?_pos, -List.all_eq_true, -List.any_eq_true, -List.length_eq_zero_iff, -List.map_take, -List.map_drop, b_units_walk_l0, wIn, hx, hr0, hto, hkn, e, hi, appMost, ih])
    · have e : wPut rs mc k out = out := by unfold wPut; simp [hr0, h1]
      have ih := ih (q + 1) (q + 1) out hr (by omega) hw hi
      (rw [st_units_walk_l0]; simp (disch := first | assumption | omega | (simp; done) | (simp only [ByteArray.size_append]; omega)) [-getElem?_pos, -List.all_eq_true, -List.any_eq_true, -List.length_eq_zero_iff, -List.map_take, -List.map_drop, b_units_walk_l0, wIn, hx, hr0, hto, e, ih])
theorem ofI_mem (a : Int) : ∀ (rs : List Rule) (i : Nat) (k : Int), k ∈ ofI a rs i → (i : Int) ≤ k ∧ k < i + rs.length
  | [], i, k, h => by simp [ofI] at h
  | r :: l, i, k, h => by
    have ih := ofI_mem a l (i + 1) k
    simp only [Int.natCast_add, Int.cast_ofNat_Int] at ih
    simp only [ofI] at h
    simp only [List.length_cons]
    split at h
    · rcases List.mem_cons.1 h with rfl | h
      · omega
      · have := ih h; omega
    · have := ih h; omega
theorem ofI_len (a : Int) : ∀ (rs : List Rule) (i : Int), (ofI a rs i).length ≤ rs.length
  | [], i => by simp [ofI]
  | r :: l, i => by
    have ih := ofI_len a l (i + 1)
    simp only [ofI]
    split <;> simp <;> omega
theorem walk_l1 (hlk : lk ≤ H.length) (ns ts : List ByteArray) (st : Int) (rs : List Rule) (hrs : rs.length ≤ 1000000) (hok : ∀ r ∈ rs, ∀ s ∈ r.right, -9223372036854775808 ≤ s) (n : Nat) (hn : n ≤ 1000000) (hf : Fit n rs) : ∀ (f i : Nat) (j : Int) (out : List Met), j = i → i + f = n + 1 → WInv n out → lp mach lk c_units_walk_l1 ⟨[(2, .ptr H.length 2 0), (5, .ptr H.length 5 0), (6, .fn f_units_walk_1 [.ptr H.length 5 0]), (7, .int .i64 j)], [(2, .cells (encG ⟨ns, ts, st, rs⟩).cells), (5, .cells [.sl (out.map encMt) .held])], H⟩ = some (.exit 0, ⟨[(5, .ptr H.length 5 0)], [(5, .cells [.sl ((wOut rs f i out).map encMt) .held])], H⟩) := by
  intro f
  induction f with
  | zero =>
    intro i j out hj hi hw; subst hj
    have := hw.len
    (rw [st_units_walk_l1]; simp (disch := first | assumption | omega | (simp; done) | (simp only [ByteArray.size_append]; omega)) [-getElem?_pos, -List.all_eq_true, -List.any_eq_true, -List.length_eq_zero_iff, -List.map_take, -List.map_drop, b_units_walk_l1, wOut])
  | succ f ih =>
    intro i j out hj hi hw; subst hj
    have hlen := hw.len
    cases hm : out[i]? with
    | none =>
      have := List.getElem?_eq_none_iff.1 hm
      (rw [st_units_walk_l1]; simp (disch := first | assumption | omega | (simp; done) | (simp only [ByteArray.size_append]; omega)) [-getElem?_pos, -List.all_eq_true, -List.any_eq_true, -List.length_eq_zero_iff, -List.map_take, -List.map_drop, b_units_walk_l1, wOut, hm])
    | some m =>
      have hlt := (List.getElem?_eq_some_iff.1 hm).1
      have hof := fun (L : Tab) => sp_Of (lk := H.length + 1) (H := H ++ [L]) m.a ns ts st rs (by omega)
      have hkl := ofI_len m.a rs 0
      have h0 := walk_l0 hlk ns ts st rs hok i m (ofI m.a rs 0) (by omega) (fun k hk => by have := ofI_mem m.a rs 0 k hk; omega) n hn hf (ofI m.a rs 0) 0 0 out rfl rfl hw hm
      obtain ⟨hw2, -⟩ := wIn_inv hf (ofI m.a rs 0) hw (hw.ch m (List.mem_of_getElem? hm))
      have ih := ih (i + 1) (i + 1) _ (by omega) (by omega) hw2
      obtain ⟨a, c⟩ := m
      simp only [encG, V.cells] at h0 ih hof ⊢
      (rw [st_units_walk_l1]; simp (disch := first | assumption | omega | (simp; done) | (simp only [ByteArray.size_append]; omega)) [-getElem?_pos, -List.all_eq_true, -List.any_eq_true, -List.length_eq_zero_iff, -List.map_take, -List.map_drop, b_units_walk_l1, wOut, hm, hof, h0, ih])
theorem sp_walk (hlk : lk ≤ H.length) (ns ts : List ByteArray) (st : Int) (rs : List Rule) (a : Int) (hg : OkG ⟨ns, ts, st, rs⟩) : lim mach lk f_units_walk [(.agg [.sl (ns.map V.str) .no, .sl (ts.map V.str) .no, .int .i64 st, .sl (rs.map encR) .no]), .int .i64 a] H = some (.sl ((if checkC ⟨ns, ts, st, rs⟩ = 0 then walkC ⟨ns, ts, st, rs⟩ a else []).map encMt) .no, H) := by
  have hc := fun (L : Tab) => sp_Check (lk := H.length + 1) (H := H ++ [L]) (by simp) ⟨ns, ts, st, rs⟩ hg
  simp only [encG] at hc
  by_cases h0 : checkC ⟨ns, ts, st, rs⟩ = 0
  · rw [if_pos h0]; unfold walkC; simp only
    rw [h0] at hc
    by_cases h1 : a < 0
    · (rw [eq_units_walk]; simp (disch := first | assumption | omega | (simp; done) | (simp only [ByteArray.size_append]; omega)) [-getElem?_pos, -List.all_eq_true, -List.any_eq_true, -List.length_eq_zero_iff, -List.map_take, -List.map_drop, c_units_walk, hc, h1])
    by_cases h2 : (ns.length : Int) ≤ a
    · (rw [eq_units_walk]; simp (disch := first | assumption | omega | (simp; done) | (simp only [ByteArray.size_append]; omega)) [-getElem?_pos, -List.all_eq_true, -List.any_eq_true, -List.length_eq_zero_iff, -List.map_take, -List.map_drop, c_units_walk, hc, h1, h2])
    rw [if_pos (by omega)]
    have q := check0 h0
    simp only at q
    have h := walk_l1 hlk ns ts st rs (by omega) (fun r hr s hs => (hg.2.2.2 r hr).2 s hs) ns.length (by omega) (fit_of h0) (ns.length + 1) 0 0 [⟨a, []⟩] rfl (by omega) (WInv.one (by omega))
    simp only [encG, V.cells, List.map_cons, List.map_nil, encMt] at h
    (rw [eq_units_walk]; simp (disch := first | assumption | omega | (simp; done) | (simp only [ByteArray.size_append]; omega)) [-getElem?_pos, -List.all_eq_true, -List.any_eq_true, -List.length_eq_zero_iff, -List.map_take, -List.map_drop, c_units_walk, hc, h1, h2, h])
  · rw [if_neg h0]
    (rw [eq_units_walk]; simp (disch := first | assumption | omega | (simp; done) | (simp only [ByteArray.size_append]; omega)) [-getElem?_pos, -List.all_eq_true, -List.any_eq_true, -List.length_eq_zero_iff, -List.map_take, -List.map_drop, c_units_walk, hc, h0])
theorem sp_Clone_int (hlk : H.length ≤ lk) (l : List Int) (hl : l.length ≤ 500000000) : lim mach lk f_slices_Clone_int_int [(.sl (l.map (V.int .i64)) .no)] H = some ((.sl (l.map (V.int .i64)) .no), H) := by
  rw [eq_slices_Clone_int_int]
  cases l with
  | nil => simp [leaveS, leave, leaveG_eq, noRow, n_slices_Clone_int_int, c_slices_Clone_int_int, joinN, hlk, appMost]
  | cons x r =>
    simp at hl
    simp (disch := omega) [leaveS, leave, leaveG_eq, noRow, n_slices_Clone_int_int, c_slices_Clone_int_int, appMost]
def chainU (b : Int) : List Met → List Int × Bool
  | [] => ([], false)
  | m :: l => if m.a = b then (m.chain, true) else chainU b l
theorem chain_l0 (hlk : lk ≤ H.length) (b : Int) (out : List Met) (hl : out.length ≤ 1000000) (hc : ∀ m ∈ out, m.chain.length ≤ 1000000) : ∀ (r : List Met) (i : Nat) (j : Int), out.drop i = r → j = i → lp mach lk c_units_Chain_l0 ⟨[(2, .int .i64 b), (12, .sl (out.map encMt) .no), (13, .int .i64 out.length), (14, .int .i64 j)], [], H⟩ = some (if (chainU b r).2 = true then (.ret, ⟨[(6, .sl ((chainU b r).1.map (V.int .i64)) .no), (7, .bool true)], [], H⟩) else (.exit 0, ⟨[], [], H⟩)) := by
  intro r
  induction r with
  | nil =>
    intro i j h hj; subst hj
    have := drop_nil h
    (rw [st_units_Chain_l0]; simp (disch := first | assumption | omega | (simp; done) | (simp only [ByteArray.size_append]; omega)) [-getElem?_pos, -List.all_eq_true, -List.any_eq_true, -List.length_eq_zero_iff, -List.map_take, -List.map_drop, b_units_Chain_l0, chainU])
  | cons m r ih =>
    intro i j h hj; subst hj
    obtain ⟨hx, hlt, hr⟩ := drop_cons h
    have hcm := hc m (mem_drop h)
    have ih := ih (i + 1) (i + 1) hr (by omega)
    obtain ⟨a, c⟩ := m
    simp only at hcm
    have hcl := fun (L : Tab) => sp_Clone_int (lk := H.length + 1) (H := H ++ [L]) (by simp) c (by omega)
    by_cases e : a = b
    · (rw [st_units_Chain_l0]; simp (disch := first | assumption | omega | (simp; done) | (simp only [ByteArray.size_append]; omega)) [-getElem?_pos, -List.all_eq_true, -List.any_eq_true, -List.length_eq_zero_iff, -List.map_take, -List.map_drop, b_units_Chain_l0, chainU, hx, e, hcl])
    · (rw [st_units_Chain_l0]; simp (disch := first | assumption | omega | (simp; done) | (simp only [ByteArray.size_append]; omega)) [-getElem?_pos, -List.all_eq_true, -List.any_eq_true, -List.length_eq_zero_iff, -List.map_take, -List.map_drop, b_units_Chain_l0, chainU, hx, e, ih])
theorem sp_Chain (hlk : lk ≤ H.length) (ns ts : List ByteArray) (st : Int) (rs : List Rule) (a b : Int) (hg : OkG ⟨ns, ts, st, rs⟩) (out : List Met) (ho : (if checkC ⟨ns, ts, st, rs⟩ = 0 then walkC ⟨ns, ts, st, rs⟩ a else []) = out) (hl : out.length ≤ 1000000) (hc : ∀ m ∈ out, m.chain.length ≤ 1000000) : lim mach lk f_units_Chain [(.agg [.sl (ns.map V.str) .no, .sl (ts.map V.str) .no, .int .i64 st, .sl (rs.map encR) .no]), .int .i64 a, .int .i64 b] H = some (.tup [.sl ((chainU b out).1.map (V.int .i64)) .no, .bool (chainU b out).2], H) := by
  have hw := fun (L : Tab) => sp_walk (lk := H.length + 1) (H := H ++ [L]) (by simp) ns ts st rs a hg
  rw [ho] at hw
  have h := chain_l0 hlk b out hl hc out 0 0 rfl rfl
  cases e : (chainU b out).2 with
  | true => rw [e, if_pos rfl] at h; (rw [eq_units_Chain]; simp (disch := first | assumption | omega | (simp; done) | (simp only [ByteArray.size_append]; omega)) [-getElem?_pos, -List.all_eq_true, -List.any_eq_true, -List.length_eq_zero_iff, -List.map_take, -List.map_drop, c_units_Chain, hw, h, e])
  | false =>
    have e1 : (chainU b out).1 = [] := by
      revert e; clear h hw ho hl hc
      induction out with
      | nil => intro _; rfl
      | cons m l ih => intro e; simp only [chainU] at e ⊢; split at e <;> simp_all
    rw [e, if_neg (by simp)] at h; (rw [eq_units_Chain]; simp (disch := first | assumption | omega | (simp; done) | (simp only [ByteArray.size_append]; omega)) [-getElem?_pos, -List.all_eq_true, -List.any_eq_true, -List.length_eq_zero_iff, -List.map_take, -List.map_drop, c_units_Chain, hw, h, e, e1])
theorem from_l0 (hlk : lk ≤ H.length) (out : List Met) (hl : out.length ≤ 1000000) : ∀ (r : List Met) (i : Nat) (j : Int), out.drop i = r → j = i → lp mach lk c_units_From_l0 ⟨[(5, .sl (((out.take i).map Met.a).map (V.int .i64)) (.own 20)), (10, .sl (out.map encMt) .no), (11, .int .i64 out.length), (12, .int .i64 j)], [], H⟩ = some (.exit 0, ⟨[(5, .sl ((out.map Met.a).map (V.int .i64)) .no)], [], H⟩) := by
  intro r
  induction r with
  | nil =>
    intro i j h hj; subst hj
    have := drop_nil h
    rw [List.take_of_length_le this]
    (rw [st_units_From_l0]; simp (disch := first | assumption | omega | (simp; done) | (simp only [ByteArray.size_append]; omega)) [-getElem?_pos, -List.all_eq_true, -List.any_eq_true, -List.length_eq_zero_iff, -List.map_take, -List.map_drop, b_units_From_l0, -List.map_map])
  | cons m r ih =>
    intro i j h hj; subst hj
    obtain ⟨hx, hlt, hr⟩ := drop_cons h
    have ih := ih (i + 1) (i + 1) hr (by omega)
    rw [List.take_add_one, hx] at ih
    obtain ⟨a, c⟩ := m
    simp only [Option.toList_some, List.map_append, List.map_cons, List.map_nil] at ih
    have hm : (out.take i).length ≤ i := List.length_take_le ..
    (rw [st_units_From_l0]; simp (disch := first | assumption | omega | (simp; done) | (simp only [ByteArray.size_append]; omega)) [-getElem?_pos, -List.all_eq_true, -List.any_eq_true, -List.length_eq_zero_iff, -List.map_take, -List.map_drop, b_units_From_l0, hx, appMost, ih, -List.map_map])
theorem sp_From (hlk : lk ≤ H.length) (ns ts : List ByteArray) (st : Int) (rs : List Rule) (a : Int) (hg : OkG ⟨ns, ts, st, rs⟩) (out : List Met) (ho : (if checkC ⟨ns, ts, st, rs⟩ = 0 then walkC ⟨ns, ts, st, rs⟩ a else []) = out) (hl : out.length ≤ 1000000) : lim mach lk f_units_From [(.agg [.sl (ns.map V.str) .no, .sl (ts.map V.str) .no, .int .i64 st, .sl (rs.map encR) .no]), .int .i64 a] H = some (.sl ((out.map Met.a).map (V.int .i64)) .no, H) := by
  have hw := fun (L : Tab) => sp_walk (lk := H.length + 1) (H := H ++ [L]) (by simp) ns ts st rs a hg
  rw [ho] at hw
  have h := from_l0 hlk out hl out 0 0 rfl rfl
  simp only [List.take_zero, List.map_nil] at h
  (rw [eq_units_From]; simp (disch := first | assumption | omega | (simp; done) | (simp only [ByteArray.size_append]; omega)) [-getElem?_pos, -List.all_eq_true, -List.any_eq_true, -List.length_eq_zero_iff, -List.map_take, -List.map_drop, c_units_From, hw, h, -List.map_map])
theorem has_l0 (l : List Met) (b : Int) (hl : l.length ≤ 4611686018427387904) : ∀ (r : List Met) (i : Nat) (j : Int), l.drop i = r → j = i → lp mach lk c_ref10_has_l0 ⟨[(0, .sl (l.map encMt) .no), (1, .int .i64 b), (5, .int .i64 j)], [], H⟩ = some (if knownB b r = true then (.ret, ⟨[(4, .bool true)], [], H⟩) else (.exit 0, ⟨[], [], H⟩)) := by
  intro r
  induction r with
  | nil =>
    intro i j h hj; subst hj
    have := drop_nil h
    (rw [st_ref10_has_l0]; simp (disch := first | assumption | omega | (simp; done) | (simp only [ByteArray.size_append]; omega)) [-getElem?_pos, -List.all_eq_true, -List.any_eq_true, -List.length_eq_zero_iff, -List.map_take, -List.map_drop, b_ref10_has_l0, knownB])
  | cons m r ih =>
    intro i j h hj; subst hj
    obtain ⟨hx, hlt, hr⟩ := drop_cons h
    have ih := ih (i + 1) (i + 1) hr (by omega)
    obtain ⟨a, c⟩ := m
    have e2 : knownB b (⟨a, c⟩ :: r) = (decide (a = b) || knownB b r) := rfl
    rw [e2]
    by_cases e : a = b
    · (rw [st_ref10_has_l0]; simp (disch := first | assumption | omega | (simp; done) | (simp only [ByteArray.size_append]; omega)) [-getElem?_pos, -List.all_eq_true, -List.any_eq_true, -List.length_eq_zero_iff, -List.map_take, -List.map_drop, b_ref10_has_l0, hx, e])
    · (rw [st_ref10_has_l0]; simp (disch := first | assumption | omega | (simp; done) | (simp only [ByteArray.size_append]; omega)) [-getElem?_pos, -List.all_eq_true, -List.any_eq_true, -List.length_eq_zero_iff, -List.map_take, -List.map_drop, b_ref10_has_l0, hx, e, ih])
@[simp] theorem sp_rhas (l : List Met) (b : Int) (hl : l.length ≤ 4611686018427387904) : lim mach lk f_ref10_has [.sl (l.map encMt) .no, .int .i64 b] H = some (.bool (knownB b l), H) := by
  have h := has_l0 (lk := lk) (H := H) l b hl l 0 0 rfl rfl
  cases e : knownB b l with
  | true => rw [e, if_pos rfl] at h; (rw [eq_ref10_has]; simp (disch := first | assumption | omega | (simp; done) | (simp only [ByteArray.size_append]; omega)) [-getElem?_pos, -List.all_eq_true, -List.any_eq_true, -List.length_eq_zero_iff, -List.map_take, -List.map_drop, c_ref10_has, h])
  | false => rw [e, if_neg (by simp)] at h; (rw [eq_ref10_has]; simp (disch := first | assumption | omega | (simp; done) | (simp only [ByteArray.size_append]; omega)) [-getElem?_pos, -List.all_eq_true, -List.any_eq_true, -List.length_eq_zero_iff, -List.map_take, -List.map_drop, c_ref10_has, h])
theorem rw_l0 (hlk : lk ≤ H.length) (ns ts : List ByteArray) (st : Int) (rs : List Rule) (hrs : rs.length ≤ 1000000) (all last : List Met) (ha : all.length ≤ 1000000) (i : Nat) (m0 : Met) (hm0 : last[i]? = some m0) (hmc : m0.chain.length ≤ 1000000) : ∀ (r : List Rule) (k : Nat) (j : Int) (nx : List Met), rs.drop k = r → j = k → nx.length ≤ 1000000 → (∀ q, nx.length ≤ q → (rIn all m0.a m0.chain r k nx).length ≤ 1000000) → lp mach lk c_ref10_Walk_l0 ⟨[(2, .ptr H.length 2 0), (5, .sl (all.map encMt) (.own 104)), (6, .sl (last.map encMt) .no), (7, .sl (nx.map encMt) (.own 101)), (8, .int .i64 i), (9, .int .i64 j)], [(2, .cells (encG ⟨ns, ts, st, rs⟩).cells)], H⟩ = some (.exit 4, ⟨[(2, .ptr H.length 2 0), (5, .sl (all.map encMt) (.own 104)), (6, .sl (last.map encMt) .no), (7, .sl ((rIn all m0.a m0.chain r k nx).map encMt) (.own 101)), (8, .int .i64 i)], [(2, .cells (encG ⟨ns, ts, st, rs⟩).cells)], H⟩) := by
  simp only [encG, V.cells]
  obtain ⟨ma, mc⟩ := m0
  simp only at hmc ⊢
  intro r
  induction r with
  | nil =>
    intro k j nx h hj hn hq; subst hj
    have := drop_nil h
    (rw [st_ref10_Walk_l0]; simp (disch := first | assumption | omega | (simp; done) | (simp only [ByteArray.size_append]; omega)) [-getElem?_pos, -List.all_eq_true, -List.any_eq_true, -List.length_eq_zero_iff, -List.map_take, -List.map_drop, b_ref10_Walk_l0, rIn])
  | cons x r ih =>
    intro k j nx h hj hn hq; subst hj
    obtain ⟨hx, hlt, hr⟩ := drop_cons h
    obtain ⟨b, l⟩ := x
    have ih := fun nx h1 h2 => ih (k + 1) (k + 1) nx hr (by omega) h1 h2
    by_cases h1 : b = ma
    · subst h1
      match l, hx, h, hq with
      | [], hx, h, hq =>
        have e : rIn all b mc (⟨b, []⟩ :: r) k nx = rIn all b mc r (k + 1) nx := by simp [rIn, toI]
        rw [e] at hq ⊢
        have ih := ih nx hn hq
        (rw [st_ref10_Walk_l0]; simp (disch := first | assumption | omega | (simp; done) | (simp only [ByteArray.size_append]; omega)) [-getElem?_pos, -List.all_eq_true, -List.any_eq_true, -List.length_eq_zero_iff, -List.map_take, -List.map_drop, b_ref10_Walk_l0, hx, hm0, ih])
      | s :: s2 :: l, hx, h, hq =>
        have e : rIn all b mc (⟨b, s :: s2 :: l⟩ :: r) k nx = rIn all b mc r (k + 1) nx := by simp [rIn, toI]
        rw [e] at hq ⊢
        have ih := ih nx hn hq
        (rw [st_ref10_Walk_l0]; simp (disch := first | assumption | omega | (simp; done) | (simp only [ByteArray.size_append]; omega)) [-getElem?_pos, -List.all_eq_true, -List.any_eq_true, -List.length_eq_zero_iff, -List.map_take, -List.map_drop, b_ref10_Walk_l0, hx, hm0, ih])
      | [s], hx, h, hq =>
        by_cases h2 : s < 0
        · have e : rIn all b mc (⟨b, [s]⟩ :: r) k nx = rIn all b mc r (k + 1) nx := by simp [rIn, toI, h2]
          rw [e] at hq ⊢
          have ih := ih nx hn hq
          (rw [st_ref10_Walk_l0]; simp (disch := first | assumption | omega | (simp; done) | (simp only [ByteArray.size_append]; omega)) [-getElem?_pos, -List.all_eq_true, -List.any_eq_true, -List.length_eq_zero_iff, -List.map_take, -List.map_drop, b_ref10_Walk_l0, hx, hm0, ih])
        have ht : toI [s] = s := by simp [toI, h2]
        cases h3 : knownB s all with
        | true =>
          have e : rIn all b mc (⟨b, [s]⟩ :: r) k nx = rIn all b mc r (k + 1) nx := by simp [rIn, ht, h3]
          rw [e] at hq ⊢
          have ih := ih nx hn hq
          (rw [st_ref10_Walk_l0]; simp (disch := first | assumption | omega | (simp; done) | (simp only [ByteArray.size_append]; omega)) [-getElem?_pos, -List.all_eq_true, -List.any_eq_true, -List.length_eq_zero_iff, -List.map_take, -List.map_drop, b_ref10_Walk_l0, hx, hm0, h3, ih])
        | false =>
          cases h4 : knownB s nx with
          | true =>
            have e : rIn all b mc (⟨b, [s]⟩ :: r) k nx = rIn all b mc r (k + 1) nx := by simp [rIn, ht, h4]
            rw [e] at hq ⊢
            have ih := ih nx hn hq
            (rw [st_ref10_Walk_l0]; simp (disch := first | assumption | omega | (simp; done) | (simp only [ByteArray.size_append]; omega)) [-getElem?_pos, -List.all_eq_true, -List.any_eq_true, -List.length_eq_zero_iff, -List.map_take, -List.map_drop, b_ref10_Walk_l0, hx, hm0, h3, h4, ih])
          | false =>
            have e : rIn all b mc (⟨b, [s]⟩ :: r) k nx = rIn all b mc r (k + 1) (nx ++ [⟨s, mc ++ [(k : Int)]⟩]) := by
              show rIn all b mc r (k + 1) (if b = b ∧ 0 ≤ toI [s] ∧ knownB (toI [s]) all = false ∧ knownB (toI [s]) nx = false then _ else _) = _
              rw [if_pos ⟨rfl, by rw [ht]; omega, by rw [ht]; exact h3, by rw [ht]; exact h4⟩, ht]
            rw [e] at hq ⊢
            have hle : ∀ (r : List Rule) (k : Int) (nx : List Met), nx.length ≤ (rIn all b mc r k nx).length := by
              intro r
              induction r with
              | nil => intro k nx; exact Nat.le_refl _
              | cons x r ih => intro k nx; unfold rIn; refine Nat.le_trans ?_ (ih _ _); split <;> simp
            have hq0 := hq nx.length (Nat.le_refl _)
            have hle2 := hle r (k + 1) (nx ++ [⟨s, mc ++ [(k : Int)]⟩])
            have ih := ih (nx ++ [⟨s, mc ++ [(k : Int)]⟩]) (by simp at hle2 ⊢; omega) (fun q _ => by simpa using hq0)
            simp only [List.map_append, List.map_cons, List.map_nil, encMt] at ih
            (rw [st_ref10_Walk_l0]; simp (disch := first | assumption | omega | (simp; done) | (simp only [ByteArray.size_append]; omega)) [-getElem?_pos, -List.all_eq_true, -List.any_eq_true, -List.length_eq_zero_iff, -List.map_take, -List.map_drop, b_ref10_Walk_l0, hx, hm0, h3, h4, appMost, ih])
    · have e : rIn all ma mc (⟨b, l⟩ :: r) k nx = rIn all ma mc r (k + 1) nx := by simp [rIn, h1]
      rw [e] at hq ⊢
      have ih := ih nx hn hq
      (rw [st_ref10_Walk_l0]; simp (disch := first | assumption | omega | (simp; done) | (simp only [ByteArray.size_append]; omega)) [-getElem?_pos, -List.all_eq_true, -List.any_eq_true, -List.length_eq_zero_iff, -List.map_take, -List.map_drop, b_ref10_Walk_l0, hx, hm0, h1, ih])
theorem rIn_pre (all : List Met) (a : Int) (c : List Int) : ∀ (r : List Rule) (k : Int) (nx : List Met), nx.length ≤ (rIn all a c r k nx).length
  | [], k, nx => Nat.le_refl _
  | x :: r, k, nx => by
    unfold rIn
    refine Nat.le_trans ?_ (rIn_pre all a c r _ _)
    split <;> simp
theorem rLay_pre (rs : List Rule) (all : List Met) : ∀ (l nx : List Met), nx.length ≤ (rLay rs all l nx).length
  | [], nx => Nat.le_refl _
  | m :: l, nx => Nat.le_trans (rIn_pre all m.a m.chain rs 0 nx) (rLay_pre rs all l _)
theorem rw_l1 (hlk : lk ≤ H.length) (ns ts : List ByteArray) (st : Int) (rs : List Rule) (hrs : rs.length ≤ 1000000) (all last : List Met) (ha : all.length ≤ 1000000) (hl : last.length ≤ 1000000) (hc : ∀ m ∈ last, m.chain.length ≤ 1000000) : ∀ (r : List Met) (i : Nat) (j : Int) (nx : List Met), last.drop i = r → j = i → nx.length ≤ 1000000 → (rLay rs all r nx).length ≤ 1000000 → lp mach lk c_ref10_Walk_l1 ⟨[(2, .ptr H.length 2 0), (5, .sl (all.map encMt) (.own 104)), (6, .sl (last.map encMt) .no), (7, .sl (nx.map encMt) (.own 101)), (8, .int .i64 j)], [(2, .cells (encG ⟨ns, ts, st, rs⟩).cells)], H⟩ = some (.exit 2, ⟨[(2, .ptr H.length 2 0), (5, .sl (all.map encMt) (.own 104)), (7, .sl ((rLay rs all r nx).map encMt) .no)], [(2, .cells (encG ⟨ns, ts, st, rs⟩).cells)], H⟩) := by
  intro r
  induction r with
  | nil =>
    intro i j nx h hj hn hq; subst hj
    have := drop_nil h
    (rw [st_ref10_Walk_l1]; simp (disch := first | assumption | omega | (simp; done) | (simp only [ByteArray.size_append]; omega)) [-getElem?_pos, -List.all_eq_true, -List.any_eq_true, -List.length_eq_zero_iff, -List.map_take, -List.map_drop, b_ref10_Walk_l1, rLay])
  | cons m r ih =>
    intro i j nx h hj hn hq; subst hj
    obtain ⟨hx, hlt, hr⟩ := drop_cons h
    have hcm := hc m (mem_drop h)
    have hp := rLay_pre rs all r (rIn all m.a m.chain rs 0 nx)
    simp only [rLay] at hq
    have h0 := rw_l0 hlk ns ts st rs hrs all last ha i m hx hcm rs 0 0 nx rfl rfl hn (fun _ _ => by simp; omega)
    have ih := ih (i + 1) (i + 1) _ hr (by omega) (by omega) hq
    obtain ⟨a, c⟩ := m
    simp only [encG, V.cells, Int.natCast_zero] at h0 ih ⊢
    (rw [st_ref10_Walk_l1]; simp (disch := first | assumption | omega | (simp; done) | (simp only [ByteArray.size_append]; omega)) [-getElem?_pos, -List.all_eq_true, -List.any_eq_true, -List.length_eq_zero_iff, -List.map_take, -List.map_drop, b_ref10_Walk_l1, rLay, h0, ih])
theorem rw_l2 (hlk : lk ≤ H.length) (ns ts : List ByteArray) (st : Int) (rs : List Rule) (hrs : rs.length ≤ 1000000) (n : Nat) (hn : n ≤ 1000000) (hf : Fit n rs) : ∀ (f i : Nat) (all last : List Met), all.drop i = last → i + f = n + 1 → WInv n all → lp mach lk c_ref10_Walk_l2 ⟨[(2, .ptr H.length 2 0), (5, .sl (all.map encMt) (.own 104)), (6, .sl (last.map encMt) .no)], [(2, .cells (encG ⟨ns, ts, st, rs⟩).cells)], H⟩ = some (.exit 0, ⟨[(5, .sl ((wOut rs f i all).map encMt) .no)], [], H⟩) := by
  intro f
  induction f using Nat.strongRecOn with
  | ind f ih =>
  intro i all last hd hi hw
  have hlen := hw.len
  cases last with
  | nil =>
    have h1 := drop_nil hd
    have e : wOut rs f i all = all := by
      cases f with
      | zero => rfl
      | succ f => unfold wOut; rw [List.getElem?_eq_none h1]
    rw [e]
    simp only [encG, V.cells]
    (rw [st_ref10_Walk_l2]; simp (disch := first | assumption | omega | (simp; done) | (simp only [ByteArray.size_append]; omega)) [-getElem?_pos, -List.all_eq_true, -List.any_eq_true, -List.length_eq_zero_iff, -List.map_take, -List.map_drop, b_ref10_Walk_l2])
  | cons m0 l0 =>
    have hll : i + (m0 :: l0).length = all.length := by
      have := congrArg List.length hd
      rw [List.length_drop] at this
      have := (drop_cons hd).2.1
      omega
    have hpos : 0 < (m0 :: l0).length := by simp
    obtain ⟨f', rfl⟩ : ∃ f', f = f' + (m0 :: l0).length := ⟨f - (m0 :: l0).length, by omega⟩
    have hlay := wOut_lay rs all (m0 :: l0) i f' [] hd
    rw [List.append_nil] at hlay
    rw [hlay]
    have hw2 : WInv n (all ++ rLay rs all (m0 :: l0) []) := by
      have := wOut_inv hf (m0 :: l0).length i hw
      have e := wOut_lay rs all (m0 :: l0) i 0 [] hd
      rw [List.append_nil, Nat.zero_add] at e
      rw [e] at this
      simpa [wOut] using this
    have hlen2 := hw2.len
    rw [List.length_append] at hlen2
    have h1 := rw_l1 hlk ns ts st rs hrs all (m0 :: l0) (by omega) (by omega) (fun m hm => by
      have := hw.ch m (List.mem_of_mem_drop (hd ▸ hm)); omega) (m0 :: l0) 0 0 [] rfl rfl (by simp) (by omega)
    have ih := ih f' (by omega) (i + (m0 :: l0).length) (all ++ rLay rs all (m0 :: l0) []) (rLay rs all (m0 :: l0) []) (by rw [hll, List.drop_left]) (by omega) hw2
    generalize rLay rs all (m0 :: l0) [] = nx at *
    generalize m0 :: l0 = last at *
    simp only [encG, V.cells, List.map_nil, List.map_append] at h1 ih ⊢
    (rw [st_ref10_Walk_l2]; simp (disch := first | assumption | omega | (simp; done) | (simp only [ByteArray.size_append]; omega)) [-getElem?_pos, -List.all_eq_true, -List.any_eq_true, -List.length_eq_zero_iff, -List.map_take, -List.map_drop, b_ref10_Walk_l2, h1, ih, appMost])
theorem sp_rWalk (hlk : lk ≤ H.length) (ns ts : List ByteArray) (st : Int) (rs : List Rule) (a : Int) (hc : checkC ⟨ns, ts, st, rs⟩ = 0) : lim mach lk f_ref10_Walk [(.agg [.sl (ns.map V.str) .no, .sl (ts.map V.str) .no, .int .i64 st, .sl (rs.map encR) .no]), .int .i64 a] H = some (.sl ((walkC ⟨ns, ts, st, rs⟩ a).map encMt) .no, H) := by
  have q := check0 hc
  simp only at q
  unfold walkC; simp only
  by_cases h1 : a < 0
  · rw [if_neg (by omega)]; (rw [eq_ref10_Walk]; simp (disch := first | assumption | omega | (simp; done) | (simp only [ByteArray.size_append]; omega)) [-getElem?_pos, -List.all_eq_true, -List.any_eq_true, -List.length_eq_zero_iff, -List.map_take, -List.map_drop, c_ref10_Walk, h1])
  by_cases h2 : (ns.length : Int) ≤ a
  · rw [if_neg (by omega)]; (rw [eq_ref10_Walk]; simp (disch := first | assumption | omega | (simp; done) | (simp only [ByteArray.size_append]; omega)) [-getElem?_pos, -List.all_eq_true, -List.any_eq_true, -List.length_eq_zero_iff, -List.map_take, -List.map_drop, c_ref10_Walk, h1, h2])
  rw [if_pos (by omega)]
  have h := rw_l2 hlk ns ts st rs (by omega) ns.length (by omega) (fit_of hc) (ns.length + 1) 0 [⟨a, []⟩] [⟨a, []⟩] rfl (by omega) (WInv.one (by omega))
  simp only [encG, V.cells, List.map_cons, List.map_nil, encMt] at h
  (rw [eq_ref10_Walk]; simp (disch := first | assumption | omega | (simp; done) | (simp only [ByteArray.size_append]; omega)) [-getElem?_pos, -List.all_eq_true, -List.any_eq_true, -List.length_eq_zero_iff, -List.map_take, -List.map_drop, c_ref10_Walk, h1, h2, h])
end Go.Proofs.YtlacnkjkcikodaaDoor.Am
end
section
set_option linter.unusedVariables false
set_option linter.unusedSimpArgs false
set_option maxHeartbeats 1000000
namespace Go.Proofs.YtlacnkjkcikodaaDoor.Am
open Go
variable {lk : Nat} {H : List Tab}
theorem uints_l0 (a b : List Int) (h : a.length = b.length) (hb : a.length ≤ 1000000000) : ∀ (r : List Int) (i : Nat) (j : Int), a.drop i = r → j = i → lp mach lk c_law10_ints_l0 ⟨[(0, (.sl (a.map (V.int .i64)) .no)), (1, (.sl (b.map (V.int .i64)) .no)), (12, .int .i64 a.length), (13, .int .i64 j)], [], H⟩ = some (if r = b.drop i then (.exit 0, ⟨[], [], H⟩) else (.ret, ⟨[(4, .bool false)], [], H⟩)) := by
  intro r
  induction r with
  | nil =>
    intro i j hd hj; subst hj
    have := drop_nil hd
    have e : b.drop i = [] := List.drop_eq_nil_of_le (by omega)
    (rw [st_law10_ints_l0]; simp (disch := first | assumption | omega | (simp; done) | (simp only [ByteArray.size_append]; omega)) [-getElem?_pos, -List.all_eq_true, -List.any_eq_true, -List.length_eq_zero_iff, -List.map_take, -List.map_drop, b_law10_ints_l0, e])
  | cons x r ih =>
    intro i j hd hj; subst hj
    obtain ⟨hx, hlt, hr⟩ := drop_cons hd
    obtain ⟨y, hy⟩ : ∃ y, b[i]? = some y := ⟨_, List.getElem?_eq_getElem (by omega)⟩
    have hd2 : b.drop i = y :: b.drop (i + 1) := by
      have := List.getElem?_eq_some_iff.1 hy
      rw [← this.2]; exact List.drop_eq_getElem_cons this.1
    have ih := ih (i + 1) (i + 1) hr (by omega)
    by_cases e : x = y
    · (rw [st_law10_ints_l0]; simp (disch := first | assumption | omega | (simp; done) | (simp only [ByteArray.size_append]; omega)) [-getElem?_pos, -List.all_eq_true, -List.any_eq_true, -List.length_eq_zero_iff, -List.map_take, -List.map_drop, b_law10_ints_l0, hx, hy, hd2, e, ih])
    · (rw [st_law10_ints_l0]; simp (disch := first | assumption | omega | (simp; done) | (simp only [ByteArray.size_append]; omega)) [-getElem?_pos, -List.all_eq_true, -List.any_eq_true, -List.length_eq_zero_iff, -List.map_take, -List.map_drop, b_law10_ints_l0, hx, hy, hd2, e])
theorem sp_uints (a b : List Int) (ha : a.length ≤ 1000000000) : lim mach lk f_law10_ints [(.sl (a.map (V.int .i64)) .no), (.sl (b.map (V.int .i64)) .no)] H = some (.bool (decide (a = b)), H) := by
  by_cases h : a.length = b.length
  · have hl := uints_l0 (lk := lk) (H := H) a b h ha a 0 0 rfl rfl
    rw [List.drop_zero] at hl
    by_cases e : a = b
    · rw [if_pos e] at hl; subst e; (rw [eq_law10_ints]; simp (disch := first | assumption | omega | (simp; done) | (simp only [ByteArray.size_append]; omega)) [-getElem?_pos, -List.all_eq_true, -List.any_eq_true, -List.length_eq_zero_iff, -List.map_take, -List.map_drop, c_law10_ints, hl])
    · rw [if_neg e] at hl; (rw [eq_law10_ints]; simp (disch := first | assumption | omega | (simp; done) | (simp only [ByteArray.size_append]; omega)) [-getElem?_pos, -List.all_eq_true, -List.any_eq_true, -List.length_eq_zero_iff, -List.map_take, -List.map_drop, c_law10_ints, hl, e])
  · have e : a ≠ b := fun e => h (by rw [e])
    (rw [eq_law10_ints]; simp (disch := first | assumption | omega | (simp; done) | (simp only [ByteArray.size_append]; omega)) [-getElem?_pos, -List.all_eq_true, -List.any_eq_true, -List.length_eq_zero_iff, -List.map_take, -List.map_drop, c_law10_ints, e])
def exU : Gram := ⟨[⟨#[83]⟩, ⟨#[65]⟩, ⟨#[66]⟩], [], 0, [⟨0, [1]⟩, ⟨1, [2]⟩, ⟨0, [2]⟩]⟩
theorem okG_exU : OkG exU := by
  refine ⟨by decide, by decide, by decide, fun r hr => ?_⟩
  simp [exU] at hr
  rcases hr with rfl | rfl | rfl <;> simp [OkR]
theorem sp_Awake10 (hlk : lk ≤ H.length) : lim mach lk f_law10_Awake [] H = some (.bool true, H) := by
  have e0 : (if checkC exU = 0 then walkC exU 0 else []) = [⟨0, []⟩, ⟨1, [0]⟩, ⟨2, [2]⟩] := by kernel_rfl
  have h1 := fun (L : Tab) => sp_Chain (lk := H.length + 1) (H := H ++ [L]) (by simp) exU.names exU.terms exU.start exU.rules 0 2 okG_exU _ e0 (by decide) (by decide)
  have h2 := fun (L : Tab) => sp_From (lk := H.length + 1) (H := H ++ [L]) (by simp) exU.names exU.terms exU.start exU.rules 0 okG_exU _ e0 (by decide)
  have h3 := fun (L : Tab) => sp_uints (lk := H.length + 1) (H := H ++ [L]) [0, 1, 2] [0, 1, 2] (by decide)
  have h4 := fun (L : Tab) => sp_Awake2 (lk := H.length + 1) (H := H ++ [L]) (by simp)
  have e1 : chainU 2 [⟨0, []⟩, ⟨1, [0]⟩, ⟨2, [2]⟩] = ([2], true) := by kernel_rfl
  rw [e1] at h1
  simp only [exU, encR, List.map_cons, List.map_nil] at h1 h2 h3
  (rw [eq_law10_Awake]; simp (disch := first | assumption | omega | (simp; done) | (simp only [ByteArray.size_append]; omega)) [-getElem?_pos, -List.all_eq_true, -List.any_eq_true, -List.length_eq_zero_iff, -List.map_take, -List.map_drop, c_law10_Awake, h1, h2, h3, h4])
def lastU (b : Int) : List Met → List Int × Bool → List Int × Bool
  | [], q => q
  | m :: l, q => lastU b l (if m.a = b then (m.chain, true) else q)
theorem lastU_none (b : Int) : ∀ (l : List Met) (q : List Int × Bool), (∀ m ∈ l, m.a ≠ b) → lastU b l q = q
  | [], q, _ => rfl
  | m :: l, q, h => by
    simp only [lastU, if_neg (h m List.mem_cons_self)]
    exact lastU_none b l q fun m hm => h m (List.mem_cons_of_mem _ hm)
theorem lastU_chain (b : Int) : ∀ (l : List Met), (l.map Met.a).Nodup → lastU b l ([], false) = chainU b l
  | [], _ => rfl
  | m :: l, h => by
    simp only [List.map_cons, List.nodup_cons] at h
    simp only [lastU, chainU]
    by_cases e : m.a = b
    · rw [if_pos e, if_pos e]
      exact lastU_none b l _ fun m' hm' e' => h.1 (by rw [e, ← e']; exact List.mem_map_of_mem hm')
    · rw [if_neg e, if_neg e]; exact lastU_chain b l h.2
theorem tell_l0 (hlk : lk ≤ H.length) (a b : Int) (G : Gram) (L1 : List Int) (ok : Bool) (ms : List Met) (hms : ms.length ≤ 1000000) : ∀ (r : List Met) (i : Nat) (j : Int) (c : List Int) (is : Bool), ms.drop i = r → j = i → lp mach lk c_law10_UnitsTell_l0 ⟨[(1, .int .i64 a), (2, .int .i64 b), (3, .ptr H.length 3 0), (7, (.sl (L1.map (V.int .i64)) .no)), (8, .bool ok), (9, .sl (((ms.take i).map Met.a).map (V.int .i64)) (.own 58)), (10, (.sl (c.map (V.int .i64)) .no)), (11, .bool is), (48, .sl (ms.map encMt) .no), (49, .int .i64 ms.length), (50, .int .i64 j)], [(3, .cells (encG G).cells)], H⟩ = some (.exit 0, ⟨[(1, .int .i64 a), (3, .ptr H.length 3 0), (7, (.sl (L1.map (V.int .i64)) .no)), (8, .bool ok), (9, .sl ((ms.map Met.a).map (V.int .i64)) .no), (10, .sl ((lastU b r (c, is)).1.map (V.int .i64)) .no), (11, .bool (lastU b r (c, is)).2)], [(3, .cells (encG G).cells)], H⟩) := by
  obtain ⟨ns, ts, st, rs⟩ := G
  simp only [encG, V.cells]
  intro r
  induction r with
  | nil =>
    intro i j c is h hj; subst hj
    have := drop_nil h
    rw [List.take_of_length_le this]
    (rw [st_law10_UnitsTell_l0]; simp (disch := first | assumption | omega | (simp; done) | (simp only [ByteArray.size_append]; omega)) [-getElem?_pos, -List.all_eq_true, -List.any_eq_true, -List.length_eq_zero_iff, -List.map_take, -List.map_drop, b_law10_UnitsTell_l0, lastU, -List.map_map])
  | cons m r ih =>
    intro i j c is h hj; subst hj
    obtain ⟨hx, hlt, hr⟩ := drop_cons h
    have hm : (ms.take i).length ≤ i := List.length_take_le ..
    have ih := fun c is => ih (i + 1) (i + 1) c is hr (by omega)
    rw [List.take_add_one, hx] at ih
    obtain ⟨ma, mc⟩ := m
    simp only [Option.toList_some, List.map_append, List.map_cons, List.map_nil] at ih
    by_cases e : ma = b
    · subst e; (rw [st_law10_UnitsTell_l0]; simp (disch := first | assumption | omega | (simp; done) | (simp only [ByteArray.size_append]; omega)) [-getElem?_pos, -List.all_eq_true, -List.any_eq_true, -List.length_eq_zero_iff, -List.map_take, -List.map_drop, b_law10_UnitsTell_l0, lastU, hx, appMost, ih, -List.map_map])
    · (rw [st_law10_UnitsTell_l0]; simp (disch := first | assumption | omega | (simp; done) | (simp only [ByteArray.size_append]; omega)) [-getElem?_pos, -List.all_eq_true, -List.any_eq_true, -List.length_eq_zero_iff, -List.map_take, -List.map_drop, b_law10_UnitsTell_l0, lastU, hx, e, appMost, ih, -List.map_map])
theorem small_spec2 {g : Gram} (h : smallB g = true) : g.rules.length ≤ 120 ∧ g.names.length ≤ 60 ∧ g.terms.length ≤ 60 ∧ sizeC g.rules ≤ 600 ∧ ∀ r ∈ g.rules, r.right.length ≤ 600 := by
  have h := of_decide_eq_true h
  have p1 := textsW_0 g.names
  have p2 := textsW_0 g.terms
  refine ⟨h.2.2.2, h.2.1, h.2.2.1, by omega, fun r hr => ?_⟩
  have : ∀ (l : List Rule), r ∈ l → (r.right.length : Int) ≤ sizeC l := by
    intro l
    induction l with
    | nil => intro h; cases h
    | cons x l ih =>
      intro h
      have := sizeC_0 l
      simp only [sizeC]
      rcases List.mem_cons.1 h with rfl | h
      · omega
      · have := ih h; omega
  have := this g.rules hr
  omega
theorem sp_UnitsTell (hlk : lk ≤ H.length) (ns ts : List ByteArray) (st : Int) (rs : List Rule) (a b : Int) (hg : OkG ⟨ns, ts, st, rs⟩) (hn : ∀ s ∈ ns, s.size ≤ 140737488355328) (ht : ∀ s ∈ ts, s.size ≤ 140737488355328) (hr : ∀ r ∈ rs, r.right.length ≤ 140737488355328) : lim mach lk f_law10_UnitsTell [(.agg [.sl (ns.map V.str) .no, .sl (ts.map V.str) .no, .int .i64 st, .sl (rs.map encR) .no]), .int .i64 a, .int .i64 b] H = some (.bool true, H) := by
  have q1 := fun (L : Tab) => sp_Small (lk := H.length + 1) (H := H ++ [L]) (by simp) ns ts st rs hg hn ht hr
  have qA := fun (L : Tab) => sp_Awake10 (lk := H.length + 1) (H := H ++ [L]) (by simp)
  cases hsm : smallB ⟨ns, ts, st, rs⟩ with
  | false => rw [hsm] at q1; (rw [eq_law10_UnitsTell]; simp (disch := first | assumption | omega | (simp; done) | (simp only [ByteArray.size_append]; omega)) [-getElem?_pos, -List.all_eq_true, -List.any_eq_true, -List.length_eq_zero_iff, -List.map_take, -List.map_drop, c_law10_UnitsTell, q1, qA])
  | true =>
    rw [hsm] at q1
    obtain ⟨z1, z2, z3, z4, z5⟩ := small_spec2 hsm
    simp only at z1 z2 z3 z4 z5
    have hb2 : ∀ r ∈ rs, r.right.length ≤ 500000000 := fun r hr => by have := z5 r hr; omega
    have q2 := fun (L : Tab) => sp_May (lk := H.length + 1) (H := H ++ [L]) (by simp) ns ts st rs (by omega) hb2 hg
    have q3 := fun (L : Tab) => sp_Of2 (lk := H.length + 1) (H := H ++ [L]) (by simp) ns ts st rs (by omega) hb2
    by_cases hc : checkC ⟨ns, ts, st, rs⟩ = 0
    · have hw : WInv ns.length (walkC ⟨ns, ts, st, rs⟩ a) := by
        unfold walkC; simp only
        split
        · exact wOut_inv (fit_of hc) _ _ (WInv.one (by omega))
        · exact ⟨by simp, fun m hm => (by cases hm), fun m hm => (by cases hm)⟩
      have hlen := hw.len
      have e0 : (if checkC ⟨ns, ts, st, rs⟩ = 0 then walkC ⟨ns, ts, st, rs⟩ a else []) = walkC ⟨ns, ts, st, rs⟩ a := if_pos hc
      have hch : ∀ m ∈ walkC ⟨ns, ts, st, rs⟩ a, m.chain.length ≤ 1000000 := fun m hm => by have := hw.ch m hm; omega
      have q4 := fun (L : Tab) => sp_Chain (lk := H.length + 1) (H := H ++ [L]) (by simp) ns ts st rs a b hg _ e0 (by omega) hch
      have q5 := fun (L : Tab) => sp_From (lk := H.length + 1) (H := H ++ [L]) (by simp) ns ts st rs a hg _ e0 (by omega)
      have q6 := fun (L : Tab) => sp_rWalk (lk := H.length + 1) (H := H ++ [L]) (by simp) ns ts st rs a hc
      have h0 := tell_l0 hlk a b ⟨ns, ts, st, rs⟩ (chainU b (walkC ⟨ns, ts, st, rs⟩ a)).1 (chainU b (walkC ⟨ns, ts, st, rs⟩ a)).2 (walkC ⟨ns, ts, st, rs⟩ a) (by omega) (walkC ⟨ns, ts, st, rs⟩ a) 0 0 [] false rfl rfl
      rw [lastU_chain b _ hw.nd] at h0
      have hcl : (chainU b (walkC ⟨ns, ts, st, rs⟩ a)).1.length ≤ 1000000 := by
        have : ∀ (l : List Met), (∀ m ∈ l, m.chain.length ≤ 1000000) → (chainU b l).1.length ≤ 1000000 := by
          intro l
          induction l with
          | nil => intro _; simp [chainU]
          | cons m l ih =>
            intro h
            simp only [chainU]
            split
            · exact h m List.mem_cons_self
            · exact ih fun m hm => h m (List.mem_cons_of_mem _ hm)
        exact this _ hch
      rw [hc] at q2
      generalize walkC ⟨ns, ts, st, rs⟩ a = ms at *
      generalize chainU b ms = ch at *
      have q7 := fun (L : Tab) => sp_uints (lk := H.length + 1) (H := H ++ [L]) ch.1 ch.1 (by omega)
      have q8 := fun (L : Tab) => sp_uints (lk := H.length + 1) (H := H ++ [L]) (ms.map Met.a) (ms.map Met.a) (by simp; omega)
      simp only [encG, V.cells, List.take_zero, List.map_nil] at h0
      (rw [eq_law10_UnitsTell]; simp (disch := first | assumption | omega | (simp; done) | (simp only [ByteArray.size_append]; omega)) [-getElem?_pos, -List.all_eq_true, -List.any_eq_true, -List.length_eq_zero_iff, -List.map_take, -List.map_drop, c_law10_UnitsTell, q1, q2, q3, q4, q5, q6, q7, q8, qA, h0, -List.map_map])
    · have e0 : (if checkC ⟨ns, ts, st, rs⟩ = 0 then walkC ⟨ns, ts, st, rs⟩ a else []) = [] := if_neg hc
      have q4 := fun (L : Tab) => sp_Chain (lk := H.length + 1) (H := H ++ [L]) (by simp) ns ts st rs a b hg _ e0 (by simp) (by simp)
      have q5 := fun (L : Tab) => sp_From (lk := H.length + 1) (H := H ++ [L]) (by simp) ns ts st rs a hg _ e0 (by simp)
      simp only [chainU, List.map_nil] at q4 q5
      (rw [eq_law10_UnitsTell]; simp (disch := first | assumption | omega | (simp; done) | (simp only [ByteArray.size_append]; omega)) [-getElem?_pos, -List.all_eq_true, -List.any_eq_true, -List.length_eq_zero_iff, -List.map_take, -List.map_drop, c_law10_UnitsTell, q1, q2, q4, q5, qA, hc])
end Go.Proofs.YtlacnkjkcikodaaDoor.Am
end
section
set_option linter.unusedVariables false
set_option linter.unusedSimpArgs false
namespace Go.Proofs.YtlacnkjkcikodaaDoor.Am
open Go Go.RowKit
theorem unitsTell_calls (w : World) (hL : Laid w) {v : Value} {g : Gram} (hv : VR w (topG w hL) (encG g) v) (hg : GArg g) (a : Int) (_ : (Lit.int .i64 a).wf = true) (b : Int) (_ : (Lit.int .i64 b).wf = true) :
    Calls Tryd.prog 3 #[v, .int .i64 a, .int .i64 b] w fun e w' => e = .returned (.bool true) ∧ Below w.heap.size w w' := by
  have h := sp_UnitsTell (lk := 0) (H := []) (Nat.le_refl _) g.names g.terms g.start g.rules a b hg.ok hg.s0 hg.s1 (fun r hr => (hg.r3 r hr).2.1)
  obtain ⟨k, hk⟩ := lim_iff.1 h
  exact top_true mach_ok Tryd.func3 rfl (by kernel_rfl) ⟨k, hk⟩ hL (vals := [v, .int .i64 a, .int .i64 b]) (.cons hv (.cons (CR.int .i64 a) (.cons (CR.int .i64 b) .nil)))
    (fun x hx => by
      simp only [List.mem_cons, List.not_mem_nil, or_false] at hx
      rcases hx with rfl | rfl | rfl
      · exact gram_out g
      · exact ⟨rfl, rfl⟩
      · exact ⟨rfl, rfl⟩)
end Go.Proofs.YtlacnkjkcikodaaDoor.Am
end
namespace Go.Proofs.YtlacnkjkcikodaaDoor.unitsTell
open Go Go.ChangeShapes Go.WideShapes Go.ChangeAt Go.RowKit
open Go.ChangeMaps (open_string shut_string)
set_option linter.unusedVariables false
theorem own : ownKnob Tryd.prog.godebug = none := by kernel_rfl
theorem laidOut : laidOutB Tryd.prog = true := by kernel_rfl
def laid : List (String × DataW Unit) := [("math/bits.deBruijn32tab", Rows.laid_math_bits_deBruijn32tab), ("math/bits.deBruijn64tab", Rows.laid_math_bits_deBruijn64tab), ("internal/strconv.uint64pow10", Rows.laid_internal_strconv_uint64pow10)]
theorem laid_in : (("internal/strconv.uint64pow10", Lib.tabData .u64 Lib.pow10Tab) : String × DataW Unit) ∈ laid := by
  rw [show (Lib.tabData .u64 Lib.pow10Tab : DataW Unit) = Rows.laid_internal_strconv_uint64pow10 by kernel_rfl]
  exact List.Mem.tail _ (List.Mem.tail _ (List.Mem.head _))
theorem laid_met (os : Os) (args : Array Value) : laidMetH Tryd.prog laid ((World.laidAll Tryd.prog os laid).forCall (fun _ _ => 0) ⟨#[], args, []⟩).memory := by
  rw [Go.MakeChecks.laidMetH_plain _ _ _ (by kernel_rfl)]
  exact laidMet_laidAll args (by kernel_rfl) (by kernel_rfl)
set_option maxRecDepth 100000 in
theorem lifted (os : Os) (started : os.Started) (H : Type) (enc : TypeId × Value → H) :
    ReturnsInHanded {} Tryd.checked os 3 .any (fun w args => (Rows.unitsTellSpec.pre enc Tryd.prog Tryd.f3 [] false w args ∧ laidMetH Tryd.prog laid w) ∧ sizedMet enc Tryd.prog Tryd.f3 (OpenSpec.ofChange Rows.unitsTellSpec) false w args) (Rows.unitsTellSpec.post enc Tryd.prog Tryd.f3 false true false false) := by
  refine returnsInHanded_of_change_and (C := Tryd.checked) (X := fun w _ => laidMetH Tryd.prog laid w) (fun _ _ _ hh h => h.of_heap hh) own started (by kernel_rfl) Tryd.func3
    (ChangeSpec.witness_at (enc := enc) (C := Tryd.checked) (os := os) (X := fun w _ => laidMetH Tryd.prog laid w) false (World.laidAll Tryd.prog os laid) #[.agg #[.slice none 0 0, .slice none 0 0, .int .i64 0, .slice none 0 0], .int .i64 0, .int .i64 0] 8 (World.laidAll_os _ _ _) (by kernel_rfl) (by kernel_rfl) (by kernel_rfl) (by kernel_rfl) (by kernel_rfl) (laid_met os _)) ?_
  intro W base args ds gs before hval0 hW hcnd hsz0 hL _
  have hsz : (DataW.weightsEach Tryd.prog (Tryd.f3.params.toList ++ Rows.unitsTellSpec.plain.varTypes Tryd.prog) (ds ++ gs)).all (· ≤ reachBytes) = true := hsz0
  have hval : ∀ (j : Nat) t v, Tryd.f3.params[j]? = some t → args[j]? = some v → Value.okWide Tryd.prog W .any base t v := hval0
  have hW' := hW
  obtain ⟨p, q, hA0, hV, rfl, hfz, hnd⟩ := hW
  have hA : DataW.TrodAll enc Tryd.prog W 0 (fun _ => true) true Tryd.f3.params.toList args.toList ds p := hA0
  rw [Tryd.params3] at hA hval hsz
  obtain ⟨v0, vs0, d0, ds0, p0, q0, hargs, rfl, rfl, h0, r0⟩ := trodAll_cons hA
  obtain ⟨v1, vs1, d1, ds1, p1, q1, rfl, rfl, rfl, h1, r1⟩ := trodAll_cons r0
  obtain ⟨v2, vs2, d2, ds2, p2, q2, rfl, rfl, rfl, h2, r2⟩ := trodAll_cons r1
  obtain ⟨rfl, rfl, rfl⟩ := trodAll_nil r2
  obtain rfl : args = #[v0, v1, v2] := by cases args; simp_all
  obtain ⟨rfl, rfl⟩ := trodVars_none hV
  have k0 := h0
  have lt0 : ∀ x ∈ p0, x.block < W.heap.size := by obtain ⟨m, hm⟩ := k0; exact DataW.trod_lt m _ _ _ hm
  obtain ⟨g0, vr0, ga0⟩ := Am.open_gramA (hL := laid_of (by kernel_rfl) laid_in hL) (hval 0 25 v0 rfl rfl) h0 (Am.weigh hsz (j := 0) rfl rfl)
  obtain ⟨a1, rfl, rfl, rfl, w1⟩ := open_int Tryd.underlying3 (hval 1 3 v1 rfl rfl) h1
  obtain ⟨a2, rfl, rfl, rfl, w2⟩ := open_int Tryd.underlying3 (hval 2 3 v2 rfl rfl) h2
  clear hA0 hval0 hsz0 hsz
  refine (Go.Proofs.YtlacnkjkcikodaaDoor.Am.unitsTell_calls W (laid_of (by kernel_rfl) laid_in hL) vr0 ga0 a1 w1 a2 w2).mono fun e W' hpost => ?_
  obtain ⟨he, bel⟩ : e = .returned (.bool true) ∧ Below W.heap.size W W' := hpost
  subst he
  exact ⟨_, rfl, _, _, _, [], _, [], hW', trodAll_mk1 (shut_bool Tryd.underlying4 _), (trodAll_cons_mk (Below.trod laidOut (by kernel_rfl) (of_decide_eq_true (by kernel_rfl)) k0 bel lt0) (trodAll_cons_mk (shut_int Tryd.underlying3 w1) (trodAll_cons_mk (shut_int Tryd.underlying3 w2) trodAll_mk0))), rfl, bel.frame _, fun h => by cases h⟩
theorem over : Rows.UnitsTellSaid :=
  OpenClaim.holds_of_wide 3 Tryd.f3 rfl rfl rfl rfl rfl rfl rfl ⟨rfl, rfl, rfl, rfl, rfl⟩ rfl rfl rfl rfl rfl (by kernel_rfl) Tryd.func3 (by kernel_rfl)
    (of_decide_eq_true (by kernel_rfl)) (by unfold Func.isWrapper; first | (rw [if_pos (by decide +kernel)]; kernel_rfl) | (rw [if_neg (by decide +kernel)]; exact ⟨rfl, rfl⟩))
    (fun os started H enc _ => lifted os started H enc)
theorem carded : Rows.UnitsTellCardSaid :=
  Claim7.holds_tied_plain_at .later [] [.data, .data, .data] true (true, "89abc19328727d928b1072c3e57a07c25fd2f401f2357e5a3c2f8e765eb4ff5b") true
    over (fun _ h => by cases h) (by kernel_rfl) (fun _ h => by cases h) unitsTell_row_tie rfl ⟨rfl, rfl⟩ (by kernel_rfl) rfl
    (fun f fn hf hfn => by
      obtain rfl : f = 3 := Option.some.inj ((show Tryd.prog.funcNamed Rows.unitsTellRow.func = some 3 by kernel_rfl).symm.trans hf) |>.symm
      obtain rfl : fn = Tryd.f3 := (Option.some.inj (Tryd.func3.symm.trans hfn)).symm
      exact ⟨by kernel_rfl, fun j t ht => by
        rw [Tryd.params3] at ht
        rcases j with _ | j
        · obtain rfl : t = 25 := by simpa using ht.symm
          exact (show Tryd.prog.wantsStandIn 25 = false by kernel_rfl)
        rcases j with _ | j
        · obtain rfl : t = 3 := by simpa using ht.symm
          exact (show Tryd.prog.wantsStandIn 3 = false by kernel_rfl)
        rcases j with _ | j
        · obtain rfl : t = 3 := by simpa using ht.symm
          exact (show Tryd.prog.wantsStandIn 3 = false by kernel_rfl)
        simp at ht⟩)
    (by kernel_rfl)
#print axioms carded
end Go.Proofs.YtlacnkjkcikodaaDoor.unitsTell
namespace Go.Proofs.YtlacnkjkcikodaaDoor
theorem unitsTell_holds : Rows.UnitsTellCardSaid := unitsTell.carded
end Go.Proofs.YtlacnkjkcikodaaDoor
