/- The pure statement of NamesFresh: a fresh name is the document's, none of the names, and a name, if its base is one. -/
import Derived.Test.YtghdnijdbmekjaaDoorUFresh
import Derived.Test.YtghdnijdbmekjaaDoorUNames0
import Derived.Test.YtghdnijdbmekjaaDoorGx15
set_option linter.unusedVariables false
set_option linter.unusedSimpArgs false
namespace Go.Proofs.YtghdnijdbmekjaaDoor.Pure
open Go.RowKit Go.Proofs.YtghdnijdbmekjaaDoorW.PrintWords Go.Proofs.YtghdnijdbmekjaaDoor.G

def fbase (b : ByteArray) : ByteArray := (b.extract 0 (min b.size 32)) ++ (⟨#[45]⟩ : ByteArray)
theorem fbase_list (b : ByteArray) : (fbase b).data.toList = b.data.toList.take 32 ++ [45] := by
  have h1 : (b.extract 0 (min b.size 32)).data.toList = b.data.toList.take 32 := by
    rw [ByteArray.data_extract, Array.toList_extract]
    show (b.data.toList.drop 0).take (min b.size 32 - 0) = _
    rw [List.drop_zero, Nat.sub_zero, ← data_length]
    by_cases h : b.data.toList.length ≤ 32
    · rw [Nat.min_eq_left h, List.take_length, List.take_of_length_le h]
    · rw [Nat.min_eq_right (by omega)]
  rw [fbase, Joins.data_append, h1]
theorem fbase_size (b : ByteArray) : (fbase b).size ≤ 33 := by
  rw [← data_length, fbase_list, List.length_append, List.length_take]
  simp only [List.length_cons, List.length_nil]; omega
theorem ex_size (b : ByteArray) (m : Nat) : (b.extract 0 m).size ≤ m := by
  rw [← data_length, ByteArray.data_extract, Array.toList_extract]
  show ((b.data.toList.drop 0).take (m - 0)).length ≤ m
  rw [List.length_take]; omega
theorem fresh_f (l : List ByteArray) (hl : l.length ≤ 60) (b : ByteArray) (hb : b.size ≤ 1000000) (N : Nat) (h1 : 1 ≤ N) (hN : N ≤ 61) (hfree : tryN (fbase b) N ∉ l) (hall : ∀ m, 1 ≤ m → m < N → tryN (fbase b) m ∈ l) :
    Ev (fun k => names_Fresh.f k l b) (tryN (fbase b) N) := by
  unfold names_Fresh.f
  have hmn : mn (b.size : Int) 32 = ((min b.size 32 : Nat) : Int) := by unfold mn; split <;> omega
  rw [hmn]
  have hes := ex_size b (min b.size 32)
  refine Ev.pos (by omega) (Ev.pos (by omega) (Ev.pos (by rw [Int.toNat_natCast]; omega) ?_))
  rw [Int.toNat_natCast]
  exact fresh_l0 l hl (fbase b) (by have := fbase_size b; omega) N hN hfree (N - 1) 1 (by omega) (by omega) hall

theorem digits_f (n : Nat) (h1 : 1 ≤ n) (h2 : n < 100) : Ev (fun k => wickerref01_Digits.f k (n : Int)) ⟨(Lib.decDigits n).toArray⟩ := by
  unfold wickerref01_Digits.f
  have one : ∀ (d : Nat), d < 10 → strOfNums [(wrap64 (48 + (d : Int))) % 256] = ⟨[UInt8.ofNat (48 + d)].toArray⟩ := by
    intro d hd
    rw [w64 (by omega) (by omega)]
    apply ba_ext
    rw [strOfNums_data]
    show [UInt8.ofNat ((48 + (d : Int)) % 256).toNat] = [UInt8.ofNat (48 + d)]
    rw [show ((48 + (d : Int)) % 256).toNat = 48 + d by omega]
  have szone : ∀ d : Nat, (⟨[UInt8.ofNat d].toArray⟩ : ByteArray).size = 1 := fun d => rfl
  have app : ∀ (x y : List UInt8), (⟨x.toArray⟩ : ByteArray) ++ (⟨y.toArray⟩ : ByteArray) = ⟨(x ++ y).toArray⟩ := fun x y => ba_ext (by rw [Joins.data_append])
  have stop : ∀ (c : UInt8) (r : List UInt8) (k : Nat), wickerref01_Digits.l0 (k + 1) 0 ⟨(c :: r).toArray⟩ = some ⟨(c :: r).toArray⟩ := by
    intro c r k
    rw [wickerref01_Digits.l0, if_neg (by decide), if_neg]
    rw [toList_data]; simp
  have step : ∀ (m : Nat) (r : List UInt8) (k : Nat), 1 ≤ m → m < 100 → r.length ≤ 10 → wickerref01_Digits.l0 (k + 1) (m : Int) ⟨r.toArray⟩ = wickerref01_Digits.l0 k ((m / 10 : Nat) : Int) ⟨(UInt8.ofNat (48 + m % 10) :: r).toArray⟩ := by
    intro m r k hm hm2 hr
    rw [wickerref01_Digits.l0, if_pos (by omega), Option.bind_some, Int.tmod_eq_emod_of_nonneg (by omega), Int.tdiv_eq_ediv_of_nonneg (by omega), show (m : Int) % 10 = ((m % 10 : Nat) : Int) by omega, one _ (by omega), szone, if_pos, show (m : Int) / 10 = ((m / 10 : Nat) : Int) by omega, w64 (by omega) (by omega), app]
    · rfl
    · rw [← data_length (⟨r.toArray⟩)]; show 1 + r.length ≤ _; omega
  by_cases h10 : n < 10
  · rw [dec_lt10 h10]
    refine Ev.step (f := fun k => wickerref01_Digits.l0 k ((n / 10 : Nat) : Int) ⟨(UInt8.ofNat (48 + n % 10) :: []).toArray⟩) (fun k => step n [] k h1 h2 (by simp)) ?_
    rw [show n / 10 = 0 by omega, show n % 10 = n by omega]
    exact ev_nowS fun k => stop _ _ k
  · rw [dec_lt100 (by omega) h2]
    refine Ev.step (f := fun k => wickerref01_Digits.l0 k ((n / 10 : Nat) : Int) ⟨(UInt8.ofNat (48 + n % 10) :: []).toArray⟩) (fun k => step n [] k h1 h2 (by simp)) ?_
    refine Ev.step (f := fun k => wickerref01_Digits.l0 k ((n / 10 / 10 : Nat) : Int) ⟨(UInt8.ofNat (48 + n / 10 % 10) :: [UInt8.ofNat (48 + n % 10)]).toArray⟩) (fun k => step (n / 10) [UInt8.ofNat (48 + n % 10)] k (by omega) (by omega) (by simp)) ?_
    rw [show n / 10 / 10 = 0 by omega, show n / 10 % 10 = n / 10 by omega]
    exact ev_nowS fun k => stop _ _ k

theorem met_l1 (l : List ByteArray) (hl : l.length ≤ 60) (b x : ByteArray) (n : Int) (R : ByteArray) : ∀ (d i : Nat) (met : Bool), i + d = l.length →
    (met = true ∨ x ∈ l.drop i → Ev (fun k => wickerref01_Fresh.l0 k l b (wrap64 (n + 1))) R) → (¬ (met = true ∨ x ∈ l.drop i) → R = x) → Ev (fun k => wickerref01_Fresh.l1 k l b n x met (i : Int)) R := by
  intro d
  induction d with
  | zero =>
    intro i met hi h1 h2
    have hd : l.drop i = [] := List.drop_eq_nil_of_le (by omega)
    rw [hd] at h1 h2
    by_cases hm : met = true
    · refine Ev.step (fun k => ?_) (h1 (Or.inl hm))
      rw [wickerref01_Fresh.l1, if_neg (by omega), if_pos hm]
    · rw [h2 (by simpa using hm)]
      exact ev_nowS fun k => by rw [wickerref01_Fresh.l1, if_neg (by omega), if_neg hm]
  | succ d ih =>
    intro i met hi h1 h2
    have hlt : i < l.length := by omega
    have hr : rdOf ByteArray.empty l (i : Int) = l[i] := by
      unfold rdOf; rw [Int.toNat_natCast, List.getD_eq_getElem?_getD, List.getElem?_eq_getElem hlt]; rfl
    rw [List.drop_eq_getElem_cons hlt] at h1 h2
    by_cases hm : met = true
    · refine Ev.step (fun k => ?_) (ih (i + 1) true (by omega) (fun _ => h1 (Or.inl hm)) (fun h => absurd (Or.inl rfl) h))
      rw [wickerref01_Fresh.l1, if_pos (by omega), if_pos hm, w64 (by omega) (by omega)]; rfl
    · refine Ev.step (f := fun k => wickerref01_Fresh.l1 k l b n x (decide (l[i] = x)) ((i + 1 : Nat) : Int)) (fun k => ?_) (ih (i + 1) (decide (l[i] = x)) (by omega) (fun h => h1 (Or.inr ?_)) (fun h => h2 ?_))
      · rw [wickerref01_Fresh.l1, if_pos (by omega), if_neg hm, if_pos (by omega), hr, ba_beq, w64 (by omega) (by omega)]; rfl
      · rcases h with h | h
        · exact List.mem_cons.2 (Or.inl (of_decide_eq_true h).symm)
        · exact List.mem_cons.2 (Or.inr h)
      · intro hh
        rcases hh with hh | hh
        · exact hm hh
        · rcases List.mem_cons.1 hh with e | e
          · exact h (Or.inl (decide_eq_true e.symm))
          · exact h (Or.inr e)
theorem ref_fresh_l0 (l : List ByteArray) (hl : l.length ≤ 60) (b : ByteArray) (hb : b.size ≤ 32) (N : Nat) (hN : N ≤ l.length + 1) (F : Nat → ByteArray) (hF : ∀ n, F n = tryN (b ++ (⟨#[45]⟩ : ByteArray)) n) (hfree : F N ∉ l) : ∀ (d n : Nat), n + d = N → 1 ≤ n → (∀ m, n ≤ m → m < N → F m ∈ l) → Ev (fun k => wickerref01_Fresh.l0 k l b (n : Int)) (F N) := by
  have hb1 : (b ++ (⟨#[45]⟩ : ByteArray)).size = b.size + 1 := by
    rw [← data_length, Joins.data_append, List.length_append, data_length]; rfl
  have enter : ∀ n : Nat, 1 ≤ n → n ≤ l.length + 1 → ∀ R, Ev (fun k => wickerref01_Fresh.l1 k l b (n : Int) (F n) false 0) R → Ev (fun k => wickerref01_Fresh.l0 k l b (n : Int)) R := by
    intro n h1 h2 R hR
    have hd := dec_len (n := n) (by omega)
    refine Ev.step (f := fun k => (wickerref01_Digits.f k (n : Int)).bind fun t => if (b ++ (⟨#[45]⟩ : ByteArray)).size + t.size ≤ 9223372036854775807 then (wickerref01_Fresh.l1 k l b (n : Int) ((b ++ (⟨#[45]⟩ : ByteArray)) ++ t) false 0) else none) (fun k => ?_) (Ev.bind (digits_f n h1 (by omega)) (Ev.pos ?_ ?_))
    · rw [wickerref01_Fresh.l0, w64 (by omega) (by omega), if_pos (by omega), if_pos (by omega)]
    · rw [hb1, ← data_length (⟨(Lib.decDigits n).toArray⟩)]; show b.size + 1 + (Lib.decDigits n).length ≤ _; omega
    · have := hF n
      unfold tryN at this
      rw [← this]; exact hR
  intro d
  induction d with
  | zero =>
    intro n hn h1 hall
    obtain rfl : n = N := by omega
    exact enter n h1 hN _ (met_l1 l hl b (F n) n (F n) l.length 0 false (by omega) (fun h => absurd (by simpa using h) hfree) (fun _ => rfl))
  | succ d ih =>
    intro n hn h1 hall
    refine enter n h1 (by omega) _ (met_l1 l hl b (F n) n (F N) l.length 0 false (by omega) (fun _ => ?_) (fun h => absurd (Or.inr (by simpa using hall n (by omega) (by omega))) h))
    rw [w64 (by omega) (by omega), show (n : Int) + 1 = ((n + 1 : Nat) : Int) by omega]
    exact ih (n + 1) (by omega) (by omega) (fun m a c => hall m (by omega) c)
theorem ref_fresh_f (l : List ByteArray) (hl : l.length ≤ 60) (b : ByteArray) (N : Nat) (h1 : 1 ≤ N) (hN : N ≤ l.length + 1) (hfree : tryN (fbase b) N ∉ l) (hall : ∀ m, 1 ≤ m → m < N → tryN (fbase b) m ∈ l) :
    Ev (fun k => wickerref01_Fresh.f k l b) (tryN (fbase b) N) := by
  unfold wickerref01_Fresh.f
  have go : ∀ c : ByteArray, c.size ≤ 32 → c ++ (⟨#[45]⟩ : ByteArray) = fbase b → Ev (fun k => wickerref01_Fresh.j0 k l c) (tryN (fbase b) N) := by
    intro c hc he
    refine Ev.step (f := fun k => wickerref01_Fresh.l0 k l c ((1 : Nat) : Int)) (fun k => by rw [wickerref01_Fresh.j0]; rfl) ?_
    exact ref_fresh_l0 l hl c hc N hN (fun n => tryN (fbase b) n) (fun n => by rw [he]) hfree (N - 1) 1 (by omega) (by omega) hall
  by_cases h : (b.size : Int) > 32
  · refine Ev.pos h (Ev.pos (by omega) (Ev.pos (by omega) (go _ (ex_size b 32) ?_)))
    unfold fbase
    rw [Nat.min_eq_right (by omega)]
  · refine Ev.neg h (go b (by omega) ?_)
    apply ba_ext
    rw [fbase_list, Joins.data_append, List.take_of_length_le (by rw [data_length]; omega)]
theorem fresh_name (b : ByteArray) (N : Nat) (hN : N < 100) (h : nameL b.data.toList = true) : nameL (tryN (fbase b) N).data.toList = true := by
  rw [tryN_list, fbase_list]
  cases hb : b.data.toList with
  | nil => rw [hb] at h; simp [nameL] at h
  | cons c t =>
    rw [hb] at h
    simp only [nameL, Bool.and_eq_true, decide_eq_true_eq] at h
    have hd := dec_len hN
    simp only [List.take_succ_cons, List.cons_append, nameL, Bool.and_eq_true, decide_eq_true_eq]
    refine ⟨⟨?_, h.1.2⟩, ?_⟩
    · simp only [List.length_append, List.length_take, List.length_cons, List.length_nil]; omega
    · rw [List.all_append, List.all_append, dec_nameB hN]
      have : (t.take 31).all nameB = true := List.all_eq_true.2 fun x hx => List.all_eq_true.1 h.2 x (List.mem_of_mem_take hx)
      rw [this]; rfl

theorem NamesFresh (l : List ByteArray) (b : ByteArray) : ∃ k, wickerlaw01_NamesFresh.f k l b = some true := by
  apply Ev.rounds
  have aw : Ev (fun k => wickerlaw01_NamesFresh.j0 k l b true) true := Ev.step (f := fun k => (wickerlaw01_Awake.f k).bind fun t => some t) (fun k => by rw [wickerlaw01_NamesFresh.j0, if_pos rfl]) (Ev.bind awake1 (Ev.now _))
  unfold wickerlaw01_NamesFresh.f
  by_cases h : (l.length : Int) > 60
  · exact Ev.pos h aw
  refine Ev.neg h ?_
  by_cases h2 : (b.size : Int) > 200
  · rw [decide_eq_true h2]; exact aw
  rw [decide_eq_false h2]
  have hl : l.length ≤ 60 := by omega
  obtain ⟨N, n1, n2, n3, n4⟩ : ∃ n, 1 ≤ n ∧ n ≤ l.length + 1 ∧ tryN (fbase b) n ∉ l ∧ ∀ m, 1 ≤ m → m < n → tryN (fbase b) m ∈ l := by
    obtain ⟨n, a, c⟩ := free_name (fbase b) l hl
    induction n using Nat.strongRecOn with
    | _ n ih =>
      by_cases hm : ∃ m, 1 ≤ m ∧ m < n ∧ tryN (fbase b) m ∉ l
      · obtain ⟨m, x, y, z⟩ := hm
        exact ih m y x ⟨by omega, z⟩
      · refine ⟨n, a, c.1, c.2, fun m x y => ?_⟩
        by_cases z : tryN (fbase b) m ∈ l
        · exact z
        · exact absurd ⟨m, x, y, z⟩ hm
  have hf := fresh_f l hl b (by omega) N n1 (by omega) n3 n4
  have hrf := ref_fresh_f l hl b N n1 n2 n3 n4
  refine Ev.step (f := fun k => (names_Fresh.f k l b).bind fun t => wickerlaw01_NamesFresh.l0 k l b t l (l.length : Int) 0) (fun k => by rw [wickerlaw01_NamesFresh.j0, if_neg (by simp)]) (Ev.bind hf ?_)
  generalize hfv : tryN (fbase b) N = f at hf hrf n3
  have hfs : f.size ≤ 1000000000000 := by rw [← hfv]; have := tryN_size (fbase b) (n := N) (by omega); have := fbase_size b; omega
  have loop : ∀ (d i : Nat), i + d = l.length → Ev (fun k => wickerlaw01_NamesFresh.l0 k l b f l (l.length : Int) (i : Int)) true := by
    intro d
    induction d with
    | zero =>
      intro i hi
      refine Ev.step (f := fun k => (wickerlaw01_Awake.f k).bind fun t => if t = true then ((names_Name.f k b).bind fun t224 => if t224 = true then ((wickerref01_Fresh.f k l b).bind fun t225 => if f.toList = t225.toList then ((names_Name.f k f).bind fun t226 => some t226) else some false) else some true) else some false) (fun k => by rw [wickerlaw01_NamesFresh.l0, if_neg (by omega)]) (Ev.bind awake1 (Ev.pos rfl (Ev.bind (name_f b (by omega)) ?_)))
      by_cases hn : nameL b.data.toList = true
      · refine Ev.pos hn (Ev.bind hrf (Ev.pos rfl (Ev.bind (name_f f hfs) ?_)))
        refine ev_now fun k => ?_
        rw [← hfv, fresh_name b N (by omega) hn]
      · exact Ev.neg hn (Ev.now _)
    | succ d ih =>
      intro i hi
      have hlt : i < l.length := by omega
      have hr : rdOf ByteArray.empty l (i : Int) = l[i] := by
        unfold rdOf; rw [Int.toNat_natCast, List.getD_eq_getElem?_getD, List.getElem?_eq_getElem hlt]; rfl
      refine Ev.step (fun k => ?_) (ih (i + 1) (by omega))
      rw [wickerlaw01_NamesFresh.l0, if_pos (by omega), if_pos (by omega), if_pos (by omega), hr, if_neg, w64 (by omega) (by omega)]
      · rfl
      · intro e
        exact n3 (by rw [← (ba_list _ _).1 e]; exact List.getElem_mem hlt)
  exact loop l.length 0 (by omega)
end Go.Proofs.YtghdnijdbmekjaaDoor.Pure
