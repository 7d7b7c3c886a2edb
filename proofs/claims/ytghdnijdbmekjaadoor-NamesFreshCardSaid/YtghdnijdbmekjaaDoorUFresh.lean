/- What the two texts of 'Fresh' answer, of at most 60 names. -/
import Derived.Test.YtghdnijdbmekjaaDoorUNames0
import Derived.Test.YtghdnijdbmekjaaDoorGx8
import Derived.Test.YtghdnijdbmekjaaDoorGx12
import Derived.Test.YtghdnijdbmekjaaDoorGx4
import Derived.Lib.SmallJoins
set_option linter.unusedVariables false
set_option linter.unusedSimpArgs false
namespace Go.Proofs.YtghdnijdbmekjaaDoor.Pure
open Go.RowKit Go.Proofs.YtghdnijdbmekjaaDoorW.PrintWords Go.Proofs.YtghdnijdbmekjaaDoor.G

theorem dec_lt10 {n : Nat} (h : n < 10) : Lib.decDigits n = [UInt8.ofNat (48 + n)] := by rw [Lib.decDigits, dif_pos h]
theorem dec_lt100 {n : Nat} (h : 10 ≤ n) (h2 : n < 100) : Lib.decDigits n = [UInt8.ofNat (48 + n / 10), UInt8.ofNat (48 + n % 10)] := by
  rw [Lib.decDigits, dif_neg (by omega), dec_lt10 (by omega)]; rfl
theorem ofNat_inj {a b : Nat} (ha : a < 256) (hb : b < 256) (h : UInt8.ofNat a = UInt8.ofNat b) : a = b := by
  have := congrArg UInt8.toNat h
  rw [UInt8.toNat_ofNat_of_lt' ha, UInt8.toNat_ofNat_of_lt' hb] at this
  exact this
theorem dec_inj {m n : Nat} (hm : m < 100) (hn : n < 100) (h : Lib.decDigits m = Lib.decDigits n) : m = n := by
  by_cases h1 : m < 10 <;> by_cases h2 : n < 10
  · rw [dec_lt10 h1, dec_lt10 h2] at h
    injection h with h _
    have := ofNat_inj (by omega) (by omega) h; omega
  · rw [dec_lt10 h1, dec_lt100 (by omega) hn] at h; simp at h
  · rw [dec_lt100 (by omega) hm, dec_lt10 h2] at h; simp at h
  · rw [dec_lt100 (by omega) hm, dec_lt100 (by omega) hn] at h
    injection h with h h'
    injection h' with h' _
    have a := ofNat_inj (by omega) (by omega) h
    have b := ofNat_inj (by omega) (by omega) h'
    omega
theorem dec_len {n : Nat} (hn : n < 100) : (Lib.decDigits n).length ≤ 2 := by
  by_cases h1 : n < 10
  · rw [dec_lt10 h1]; simp
  · rw [dec_lt100 (by omega) hn]; simp
theorem dec_nameB {n : Nat} (hn : n < 100) : (Lib.decDigits n).all nameB = true := by
  have key : ∀ d : Nat, d < 10 → nameB (UInt8.ofNat (48 + d)) = true := by
    intro d hd
    unfold nameB nameI
    rw [UInt8.toNat_ofNat_of_lt' (by show _ < 256; omega)]
    simp; omega
  by_cases h1 : n < 10
  · rw [dec_lt10 h1, List.all_cons, key n h1]; rfl
  · rw [dec_lt100 (by omega) hn, List.all_cons, key (n / 10) (by omega), List.all_cons, key (n % 10) (by omega)]; rfl
theorem nodup_le {α : Type} [DecidableEq α] : ∀ (l1 l2 : List α), l1.Nodup → (∀ x ∈ l1, x ∈ l2) → l1.length ≤ l2.length := by
  intro l1
  induction l1 with
  | nil => intro l2 _ _; simp
  | cons a t ih =>
    intro l2 hn hs
    have ha : a ∈ l2 := hs a (by simp)
    rw [List.nodup_cons] at hn
    have := ih (l2.erase a) hn.2 (fun x hx => by
      have hxa : x ≠ a := fun e => hn.1 (e ▸ hx)
      exact (List.mem_erase_of_ne hxa).2 (hs x (by simp [hx])))
    rw [List.length_erase_of_mem ha] at this
    have := List.length_pos_of_mem ha
    simp only [List.length_cons]; omega

/-- The n-th name to be tried. -/
def tryN (b : ByteArray) (n : Nat) : ByteArray := b ++ (⟨(Lib.decDigits n).toArray⟩ : ByteArray)
theorem tryN_list (b : ByteArray) (n : Nat) : (tryN b n).data.toList = b.data.toList ++ Lib.decDigits n := Joins.data_append _ _
theorem tryN_inj (b : ByteArray) {m n : Nat} (hm : m < 100) (hn : n < 100) (h : tryN b m = tryN b n) : m = n := by
  have := congrArg (fun x : ByteArray => x.data.toList) h
  simp only [tryN_list] at this
  exact dec_inj hm hn (List.append_cancel_left this)
theorem free_name (b : ByteArray) (l : List ByteArray) (hl : l.length ≤ 60) : ∃ n, 1 ≤ n ∧ n ≤ l.length + 1 ∧ tryN b n ∉ l := by
  by_cases h : ∃ n, 1 ≤ n ∧ n ≤ l.length + 1 ∧ tryN b n ∉ l
  · exact h
  exfalso
  have hall : ∀ n, 1 ≤ n → n ≤ l.length + 1 → tryN b n ∈ l := fun n h1 h2 => by
    by_cases hm : tryN b n ∈ l
    · exact hm
    · exact absurd ⟨n, h1, h2, hm⟩ h
  have := nodup_le ((List.range (l.length + 1)).map fun i => tryN b (i + 1)) l (by
    rw [List.nodup_iff_pairwise_ne, List.pairwise_map]
    refine List.Pairwise.imp_of_mem ?_ (List.nodup_iff_pairwise_ne.1 List.nodup_range)
    intro i j hi hj hij e
    rw [List.mem_range] at hi hj
    have := tryN_inj b (by omega) (by omega) e
    omega) (by
    intro x hx
    obtain ⟨i, hi, rfl⟩ := List.mem_map.1 hx
    rw [List.mem_range] at hi
    exact hall (i + 1) (by omega) (by omega))
  simp at this
  omega
theorem least (P : Nat → Prop) [DecidablePred P] (N : Nat) (h : ∃ n, 1 ≤ n ∧ n ≤ N ∧ P n) : ∃ n, 1 ≤ n ∧ n ≤ N ∧ P n ∧ ∀ m, 1 ≤ m → m < n → ¬ P m := by
  obtain ⟨n, h1, h2, h3⟩ := h
  induction n using Nat.strongRecOn with
  | _ n ih =>
    by_cases hm : ∃ m, 1 ≤ m ∧ m < n ∧ P m
    · obtain ⟨m, a, b, c⟩ := hm
      exact ih m b a (by omega) c
    · exact ⟨n, h1, h2, h3, fun m a b c => hm ⟨m, a, b, c⟩⟩

theorem index_l0 (l : List ByteArray) (hl : l.length ≤ 1000000) (x : ByteArray) : ∀ (d i : Nat), i + d = l.length → ∃ r : Int, Ev (fun k => slices_Index_string_string.l0 k l x (l.length : Int) (i : Int)) r ∧ (r ≥ 0 ↔ x ∈ l.drop i) := by
  intro d
  induction d with
  | zero =>
    intro i hi
    refine ⟨-1, ev_nowS fun k => by rw [slices_Index_string_string.l0, if_neg (by omega)], ?_⟩
    rw [List.drop_eq_nil_of_le (by omega)]; simp
  | succ d ih =>
    intro i hi
    have hlt : i < l.length := by omega
    have hr : rdOf ByteArray.empty l (i : Int) = l[i] := by
      unfold rdOf; rw [Int.toNat_natCast, List.getD_eq_getElem?_getD, List.getElem?_eq_getElem hlt]; rfl
    rw [List.drop_eq_getElem_cons hlt]
    by_cases he : x = l[i]
    · refine ⟨(i : Int), ev_nowS fun k => by rw [slices_Index_string_string.l0, if_pos (by omega), if_pos (by omega), if_pos (by omega), hr, if_pos ((ba_list _ _).2 he)], fun _ => List.mem_cons.2 (Or.inl he), fun _ => by omega⟩
    · obtain ⟨r, h1, h2⟩ := ih (i + 1) (by omega)
      refine ⟨r, Ev.step (fun k => ?_) h1, ?_⟩
      · rw [slices_Index_string_string.l0, if_pos (by omega), if_pos (by omega), if_pos (by omega), hr, if_neg (fun h => he ((ba_list _ _).1 h)), w64 (by omega) (by omega)]; rfl
      · rw [h2, List.mem_cons]; exact ⟨Or.inr, fun h => h.resolve_left he⟩
theorem contains_yes (l : List ByteArray) (hl : l.length ≤ 1000000) (x : ByteArray) (h : x ∈ l) : Ev (fun k => slices_Contains_string_string.f k l x) true := by
  obtain ⟨r, h1, h2⟩ := index_l0 l hl x l.length 0 (by omega)
  rw [List.drop_zero] at h2
  unfold slices_Contains_string_string.f slices_Index_string_string.f
  exact Ev.bind h1 (ev_now fun k => by rw [decide_eq_true (h2.2 h)])
theorem contains_no (l : List ByteArray) (hl : l.length ≤ 1000000) (x : ByteArray) (h : ¬ x ∈ l) : Ev (fun k => slices_Contains_string_string.f k l x) false := by
  obtain ⟨r, h1, h2⟩ := index_l0 l hl x l.length 0 (by omega)
  rw [List.drop_zero] at h2
  unfold slices_Contains_string_string.f slices_Index_string_string.f
  exact Ev.bind h1 (ev_now fun k => by rw [decide_eq_false (fun e => h (h2.1 e))])
theorem tryN_size (b : ByteArray) {n : Nat} (hn : n < 100) : (tryN b n).size ≤ b.size + 2 := by
  rw [← data_length, tryN_list, List.length_append, data_length]
  have := dec_len hn
  omega
theorem fresh_l0 (l : List ByteArray) (hl : l.length ≤ 60) (b : ByteArray) (hb : b.size ≤ 1000000) (N : Nat) (hN : N ≤ 61) (hfree : tryN b N ∉ l) : ∀ (d n : Nat), n + d = N → 1 ≤ n → (∀ m, n ≤ m → m < N → tryN b m ∈ l) → Ev (fun k => names_Fresh.l0 k l b (n : Int)) (tryN b N) := by
  intro d
  induction d with
  | zero =>
    intro n hn h1 hall
    obtain rfl : n = N := by omega
    refine Ev.step (f := fun k => (slices_Contains_string_string.f k l (tryN b n)).bind fun t105 => if t105 = true then names_Fresh.l0 k l b (wrap64 ((n : Int) + 1)) else some (tryN b n)) (fun k => ?_) (Ev.bind (contains_no l (by omega) _ hfree) (Ev.neg (by simp) (Ev.now _)))
    rw [names_Fresh.l0]
    have : strconv_Itoa.f (n : Int) = some ⟨(Lib.decDigits n).toArray⟩ := by unfold strconv_Itoa.f; rw [if_pos (by omega), Int.toNat_natCast]
    rw [this, Option.bind_some, if_pos]
    · rfl
    · have := dec_len (n := n) (by omega)
      rw [← data_length (⟨(Lib.decDigits n).toArray⟩)]; show b.size + (Lib.decDigits n).length ≤ _; omega
  | succ d ih =>
    intro n hn h1 hall
    refine Ev.step (f := fun k => (slices_Contains_string_string.f k l (tryN b n)).bind fun t105 => if t105 = true then names_Fresh.l0 k l b (wrap64 ((n : Int) + 1)) else some (tryN b n)) (fun k => ?_) (Ev.bind (contains_yes l (by omega) _ (hall n (by omega) (by omega))) (Ev.pos rfl ?_))
    · rw [names_Fresh.l0]
      have : strconv_Itoa.f (n : Int) = some ⟨(Lib.decDigits n).toArray⟩ := by unfold strconv_Itoa.f; rw [if_pos (by omega), Int.toNat_natCast]
      rw [this, Option.bind_some, if_pos]
      · rfl
      · have := dec_len (n := n) (by omega)
        rw [← data_length (⟨(Lib.decDigits n).toArray⟩)]; show b.size + (Lib.decDigits n).length ≤ _; omega
    · rw [w64 (by omega) (by omega), show (n : Int) + 1 = ((n + 1 : Nat) : Int) by omega]
      exact ih (n + 1) (by omega) (by omega) (fun m a c => hall m (by omega) c)
end Go.Proofs.YtghdnijdbmekjaaDoor.Pure
