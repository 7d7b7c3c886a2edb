/- the template of any rule as itself is the document's; the table of a grammar as itself is sound, if the grammar may be; its sorts are the nonterminals themselves: part 3 of 6 of its proof, packed by a program of this session out of the texts AmK, AmL, AmP, AmT, AmW, Am1, Am2, Am3, Am4, Am5, Am6, Am7, Am8, Am9, AmPl, AmTop, AmSim. -/
import Derived.Test.YtlacnkjkcikodaaDoorZTP1
import Derived.OrdersHeld
import Derived.Deep.RegionHeld
import Derived.LoopN
import Derived.Scope
import Derived.Below
import Derived.Lib.ItoaNum
import Derived.Lib.SmallJoins
import Derived.SizedLaws
import Derived.OpenShut
import Derived.ShutString
import Derived.ChangeOld
import Derived.Deep.Draws
section
set_option linter.unusedVariables false
set_option linter.unusedSimpArgs false
set_option linter.constructorNameAsVariable false
namespace Go.Proofs.YtlacnkjkcikodaaDoor.Am
open Go
def World.putMap (w : World) (b : Nat) (o : Obj) : World := { w with heap := w.heap.setIfInBounds b o }
theorem putMap_at {w : World} {b : Nat} {o : Obj} (hb : b < w.heap.size) (x : Nat) : (World.putMap w b o).heap[x]? = if x = b then some o else w.heap[x]? := by
  unfold World.putMap
  by_cases h : x = b
  · subst h; rw [if_pos rfl]; exact Array.getElem?_setIfInBounds_self_of_lt hb
  · rw [if_neg h]; exact Array.getElem?_setIfInBounds_ne (Ne.symm h)
theorem run_setObj {P : Program} {w : World} {b : Nat} {es : Array MapEntry} {ck : Nat} (hb : w.heap[b]? = some (.map es ck)) (o : Obj) : (setObj b o).run P w = .ok () (World.putMap w b o) := by
  simp [setObj, Sem.run, hb, World.putMap]
theorem run_getObj {P : Program} {w : World} {b : Nat} {es : Array MapEntry} {ck : Nat} (hb : w.heap[b]? = some (.map es ck)) : (getObj b).run P w = .ok (.map es ck) w := by
  simp [getObj, Sem.run, hb]
theorem map_SR {P : Program} {lk : Nat} {st : St} {g : Gh} {N : Nat} {a : Act} {w : World} (h : SR st g N a w) {o : Go.Oper} (hdN : ∀ d, o.dst = some d → d < N) {lv s : Nat} {es : List (V × V × Nat)} {ck : Nat} (hob : objAt (st.H ++ [st.L]) lv s = some (.map es ck)) (hlk : lk ≤ lv) {b : Nat} (hmu : g.mu lv s = some b) {es2 : List (V × V × Nat)} {ck2 : Nat} {es' : Array MapEntry} {x : V} {v : Value} (hun : Ob.under (lv + 1) (.map es2 ck2) = true) (hes : F2 (EntR w g) es2 es'.toList) (hx : VR w g x v) (hxu : x.under (st.H.length + 1) = true) (hxf : x.free = true) {nx : Next}
    (hrun : (execOp a.eval o).run P w = .ok nx (World.putMap w b (.map es' ck2))) (hnx : (∃ v', nx = .value v' ∧ v' = v) ∨ nx = .skip ∧ v = undef) :
    StepOK P lk st (({ st with T := putD st.T o.dst x } : St).setObj lv s (.map es2 ck2)) g N a w o := by
  have hb := h.gok.lt _ _ _ hmu
  have hlv := objAt_lt hob
  obtain ⟨hun0, b2, hmu2, hfix, es0, hb0, hF0⟩ := h.hr.ob lv s _ hob
  rw [hmu] at hmu2; cases hmu2
  have hsz : (World.putMap w b (.map es' ck2)).heap.size = w.heap.size := by simp [World.putMap]
  have hoth : ∀ x, x ≠ b → (World.putMap w b (.map es' ck2)).heap[x]? = w.heap[x]? := fun x hx => by rw [putMap_at hb, if_neg hx]
  have hkk : ∀ q, Keeps q w g (World.putMap w b (.map es' ck2)) g := fun q => ⟨fun _ _ => Nat.le_refl _, fun x o' _ ho' => cell_of_heap (hoth x fun e => by subst e; rw [hfix] at ho'; omega) o', fun _ _ _ _ h => h⟩
  have hgok : GOK (World.putMap w b (.map es' ck2)) g := ⟨h.gok.inj, fun a1 a2 a3 a4 => by rw [hsz]; exact h.gok.lt _ _ _ a4, fun a1 a2 a3 => by rw [hsz]; exact h.gok.ow _ _ a3, fun a1 a2 a3 => by
    obtain ⟨p1, p2, p3⟩ := h.gok.pin a1 a2 a3
    exact ⟨(hoth a1 fun e => by subst e; exact p3 _ _ hmu).trans p1, p2, p3⟩⟩
  have hown : ∀ k l v, OwnOK w g k l v → OwnOK (World.putMap w b (.map es' ck2)) g k l v := fun k l v hh => hh.keep fun x hx => ⟨hoth x fun e => by subst e; exact (h.gok.ow _ _ hx).2 _ _ hmu, rfl, rfl⟩
  have hat := setObj_at (st := ({ st with T := putD st.T o.dst x } : St)) (lv := lv) (s := s) (o := .map es2 ck2) (by simpa using hlv)
  have hput : ∀ i, (a.put o.dst v).tmps.getD i undef = if o.dst = some i then v else a.tmps.getD i undef := by
    intro i
    cases hd : o.dst with
    | none => simp [Act.put]
    | some d =>
      rw [getD_put a d v (by rw [h.n]; exact hdN d hd)]
      by_cases e : i = d
      · subst e; simp
      · rw [if_neg e, if_neg (by simpa using Ne.symm e)]
  have hT : ∀ i, (putD st.T o.dst x).get i = if o.dst = some i then x else st.T.get i := by
    intro i
    cases hd : o.dst with
    | none => simp [putD]
    | some d =>
      simp only [putD]
      rw [Tm.get_set_if]
      by_cases e : i = d
      · subst e; simp
      · rw [if_neg e, if_neg (by simpa using Ne.symm e)]
  refine ⟨nx, _, g, a.put o.dst v, hrun, ?_, ⟨hgok, HR_chg (m := st.H.length + 1) h.hr hat (hkk _) (by simp) (fun lv' s' o' b' hne _ hm' => ⟨hoth b' fun e => by subst e; exact hne (h.gok.inj _ _ _ _ _ hm' hmu), rfl⟩) (fun lv' s' c l v _ => hown _ l v) ⟨hun, b, hmu, hfix, es', by rw [putMap_at hb, if_pos rfl], ?_⟩ (fun cs c l e => by cases e), ⟨fun i => ?_, fun i => ?_, fun i l s2 hi => ?_, fun i l lv' s' c hi => ?_⟩, ?_, ?_⟩, ⟨by rw [hsz]; exact Nat.le_refl _, hkk _, fun x hx ht => ⟨hoth x fun e => ht (.inl ⟨lv, s, hlk, by rw [e]; exact hmu⟩), rfl, rfl⟩, fun _ _ _ hm => .inl hm, fun _ _ _ => rfl, fun _ _ _ _ ho => ho, hgok, rfl, rfl, rfl⟩, setObj_len⟩
  · rcases hnx with ⟨v', rfl, rfl⟩ | ⟨rfl, rfl⟩
    · exact .inl ⟨v', rfl, rfl⟩
    · exact .inr ⟨rfl, rfl⟩
  · refine F2.imp hes fun e e' he hr => ?_
    have hu2 := List.all_eq_true.1 hun e he
    rw [Bool.and_eq_true] at hu2
    exact ⟨hr.1.keep (hkk _) hu2.1, hr.2.1.keep (hkk _) hu2.2, hr.2.2⟩
  · rw [setObj_T, hput]; show VR _ _ ((putD st.T o.dst x).get i) _; rw [hT]
    split
    · exact hx.keep (hkk _) hxu
    · exact (h.tr.v i).keep (hkk _) (h.tr.un i)
  · rw [setObj_T, setObj_len]; show ((putD st.T o.dst x).get i).under _ = true; rw [hT]
    split
    · exact hxu
    · exact h.tr.un i
  · rw [setObj_T] at hi
    have hi : (putD st.T o.dst x).get i = _ := hi
    rw [hT] at hi
    rw [hput, setObj_len]
    split at hi
    · subst hi; cases hxf
    · rename_i e; rw [if_neg e]; exact hown _ _ _ (h.tr.own i l s2 hi)
  · rw [setObj_T] at hi
    have hi : (putD st.T o.dst x).get i = _ := hi
    rw [hT] at hi
    rw [hput]
    split at hi
    · subst hi; cases hxf
    · rename_i e; rw [if_neg e]
      obtain ⟨cs2, b2, ccs2, e3, q1, q2, q3, q4, q5⟩ := h.tr.cell i l lv' s' c hi
      have hne : ¬ (lv' = lv ∧ s' = s) := by rintro ⟨rfl, rfl⟩; rw [hob] at q1; cases q1
      refine ⟨cs2, b2, ccs2, e3, by rw [hat, if_neg hne]; exact q1, q2, q3, (hoth b2 fun e => ?_).trans q4, q5⟩
      subst e; exact hne (h.gok.inj _ _ _ _ _ q3 hmu)
  · rw [← h.n]; cases o.dst <;> simp [Act.put]
  · have := h.df; cases o.dst <;> exact this
section
variable {P : Program} {lk : Nat} {st st' : St} {g : Gh} {N : Nat} {a : Act} {w : World} {o : Go.Oper}
theorem data1_under {x y : V} (b : Nat) (h : x.data1 = some y) : y.under1 b = true ∧ (∀ l, y ≠ .tup l) ∧ (∀ l, y ≠ .agg l) := by
  unfold V.data1 at h
  split at h <;> cases h <;> simp [V.under1]
theorem datas_under (b : Nat) : ∀ {l m : List V}, datas l = some m → m.all (V.under1 b) = true
  | [], m, h => by cases h; rfl
  | v :: l, m, h => by
    simp only [datas] at h
    split at h
    · rename_i v' l' h1 h2
      cases h
      simp only [List.all_cons, Bool.and_eq_true]
      exact ⟨(data1_under b h1).1, datas_under b h2⟩
    · cases h
theorem data_under {x y : V} (b : Nat) (h : x.data = some y) : y.under0 b = true ∧ (∀ l, y ≠ .tup l) := by
  unfold V.data at h
  split at h
  · obtain ⟨m, h1, rfl⟩ := Option.map_eq_some_iff.1 h
    exact ⟨datas_under b h1, by simp⟩
  · have h1 := data1_under b h
    refine ⟨?_, h1.2.1⟩
    unfold V.under0
    split
    · exact absurd rfl (h1.2.2 _)
    · exact h1.1
theorem bare_tup {x : V} (hs : x.solid = true) (l : List V) : x.bare ≠ .tup l := by
  cases x <;> first | (intro e; cases e; done) | cases hs
theorem F2.modify {α β : Type} {R : α → β → Prop} {l : List α} {m : List β} (h : F2 R l m) (i : Nat) (f : α → α) (f' : β → β) (hf : ∀ a b, l[i]? = some a → m[i]? = some b → R a b → R (f a) (f' b)) : F2 R (l.modify i f) (m.modify i f') := by
  induction h generalizing i with
  | nil => cases i <;> exact .nil
  | cons h t ih =>
    cases i with
    | zero => simp only [List.modify_zero_cons]; exact .cons (hf _ _ rfl rfl h) t
    | succ i => simp only [List.modify_succ_cons]; exact .cons h (ih i fun a b ha hb => hf a b (by simpa using ha) (by simpa using hb))
theorem set_modify {α : Type} (l : List α) (i : Nat) (x : α) : l.set i x = l.modify i fun _ => x := by
  induction l generalizing i with
  | nil => cases i <;> rfl
  | cons a l ih => cases i with
    | zero => rfl
    | succ i => simp [ih]
theorem F2.erase {α β : Type} {R : α → β → Prop} {l : List α} {m : List β} (h : F2 R l m) (i : Nat) : F2 R (l.eraseIdx i) (m.eraseIdx i) := by
  induction h generalizing i with
  | nil => exact .nil
  | cons h t ih =>
    cases i with
    | zero => exact t
    | succ i => exact .cons h (ih i)
theorem find_alike {c : EK} {x : V} : ∀ {es : List (V × V × Nat)} {i : Nat} {p : Nat × V × Nat}, findV c x es i = some (some p) → ∃ y, V.alike c x y = some true
  | [], i, p, h => by cases h
  | e :: es, i, p, h => by
    simp only [findV] at h
    split at h
    · exact ⟨_, ‹_›⟩
    · exact find_alike h
    · cases h
theorem key_bits {kt : TypeId} {c : EK} (h : keyOf? P kt = some c) {x y : V} {u : Value} {b : Bool} (hx : VR w g x u) (ha : V.alike c x y = some b) (m : Nat) : Instr.sameBits (m + 1) u u = true := by
  unfold V.alike at ha
  rcases keyOf_spec h with ⟨rfl, k, hk⟩ | ⟨rfl, hk⟩
  · split at ha <;> (try contradiction)
    rw [hx.int]; simp [Instr.sameBits]
  · split at ha <;> (try contradiction)
    rw [hx.str]; simp [Instr.sameBits, ba_beq]
theorem es_under {es : List (V × V × Nat)} {ck b : Nat} (h : Ob.under b (.map es ck) = true) (e : V × V × Nat) (he : e ∈ es) : e.1.under0 b = true ∧ e.2.1.under0 b = true := by
  have := List.all_eq_true.1 h e he
  simpa [Bool.and_eq_true] using this
theorem under_es {es : List (V × V × Nat)} {ck b : Nat} (h : ∀ e ∈ es, e.1.under0 b = true ∧ e.2.1.under0 b = true) : Ob.under b (.map es ck) = true := by
  simp only [Ob.under, List.all_eq_true, Bool.and_eq_true]
  exact h
theorem mem_modify' {α : Type} {f : α → α} {x : α} : ∀ {l : List α} {i : Nat}, x ∈ l.modify i f → x ∈ l ∨ ∃ y ∈ l, x = f y
  | [], i, h => by cases i <;> simp at h
  | a :: l, 0, h => by
    rcases List.mem_cons.1 h with rfl | h
    · exact .inr ⟨a, by simp, rfl⟩
    · exact .inl (by simp [h])
  | a :: l, i + 1, h => by
    rcases List.mem_cons.1 h with rfl | h
    · exact .inl (by simp)
    · rcases mem_modify' h with h | ⟨y, hy, rfl⟩
      · exact .inl (by simp [h])
      · exact .inr ⟨y, by simp [hy], rfl⟩
theorem map_at (h : SR st g N a w) {x : Operand} {X : Am.X} (hx : opd x = some X) {lv s : Nat} (hX : X.ev st.T = .map lv s) {es : List (V × V × Nat)} {ck : Nat} (hob : st.obj lv s = some (.map es ck)) : objAt (st.H ++ [st.L]) lv s = some (.map es ck) ∧ ∃ b es', g.mu lv s = some b ∧ a.eval x = .map (some b) ∧ w.heap[b]? = some (.map es' ck) ∧ F2 (EntR w g) es es'.toList ∧ Ob.under (lv + 1) (.map es ck) = true := by
  have hxo := opd_sound (fun i => h.tr.ok i) hx
  rw [hX] at hxo
  rw [St.obj_eq] at hob
  obtain ⟨hun, b, hmu, hfix, es', hb, hF⟩ := h.hr.ob lv s _ hob
  refine ⟨hob, b, es', hmu, ?_, hb, hF, hun⟩
  have hc : CR w g (.map lv s) (a.eval x) := hxo.vr
  generalize a.eval x = v at hc
  cases hc with
  | map _ _ b' hm => rw [hmu] at hm; cases hm; rfl
theorem undef_vr : VR w g .undef undef := CR.undef
theorem mset_sound (h : SR st g N a w) (hdN : ∀ d, o.dst = some d → d < N) {t kt et : TypeId} {m k v : Operand} (ho : o.op = .mapUpdate t m k v) (ht : P.underlying t = some (.map kt et)) {c : EK} (hk : keyOf? P kt = some c) {M K X : Am.X} (h3 : opd m = some M) (h4 : opd k = some K) (h5 : opd v = some X) {call : ACall} (hv : sop call lk st o.dst (.mset c M K X) = some st') : StepOK P lk st st' g N a w o := by
  have hkey := opd_sound (fun i => h.tr.ok i) h4
  have hval := opd_sound (fun i => h.tr.ok i) h5
  obtain ⟨d, hd⟩ : ∃ d, P.underlying kt = some d := by rcases keyOf_spec hk with ⟨-, k, h⟩ | ⟨-, h⟩ <;> exact ⟨_, h⟩
  simp only [sop] at hv
  split at hv
  case h_2 => cases hv
  rename_i lv s kd hM hK
  split at hv
  case h_2 => cases hv
  rename_i es ck hob
  split at hv
  case isFalse => cases hv
  rename_i hc
  obtain ⟨hlk, hu, hsol⟩ := hc
  have hsol' : (X.ev st.T).solid = true := by cases hq : X.ev st.T <;> rw [hq] at hsol <;> first | rfl | cases hsol
  obtain ⟨hob, b, es', hmu, hma, hb, hF, hun⟩ := map_at h h3 hM hob
  have hkd := (data_sound hK hkey.vr).2.2
  have hku := data_under (lv + 1) hK
  have hkv := hkd.vr hku.2
  have hvb : VR0 w g (X.ev st.T).bare (a.eval v) := hval.vr.bare.vr0 (bare_tup hsol')
  have hrun0 : ∀ r : Option (Nat × Value), Instr.findNow d (a.eval k) es'.toList 0 = some r → (execOp a.eval o).run P w = (((match r with
    | some (i, _) => do
      let key ← Instr.keyThatStays (((es'[i]?).map (fun e : MapEntry => e.key)).getD (a.eval k)) (a.eval k)
      setObj b (.map (es'.modify i fun e => { e with key := key, val := a.eval v }) ck)
    | none => setObj b (.map (es'.push { key := a.eval k, val := a.eval v, born := ck }) (ck + 1))) : Sem Unit).run P w).andThen fun _ w => .ok .skip w := by
    intro r hr
    simp only [execOp, ho, Instr.mapUpdate, run_underlying ht, hma, Sem.run_bind, Sem.run_pure, Result.andThen_ok, run_getObj hb, run_checkKey hk, run_findKey hd hr]
    cases r <;> rfl
  split at hv
  · rename_i i v0 bn hfv
    cases hv
    obtain ⟨e', e, -, g2, g3, g4, g5, g6, g7, g8, g9⟩ := findV_sound hk hd hkv 0 hF hfv
    simp only [Nat.sub_zero] at g3 g4
    obtain ⟨y, hy⟩ := find_alike hfv
    have hes : es'[i]? = some e' := by simpa using g3
    have hrun := hrun0 _ g2
    simp only [hes, Option.map_some, Option.getD_some, g7, Instr.keyThatStays, Sem.run_bind] at hrun
    rw [if_pos (key_bits hk hkv hy 9999)] at hrun
    simp only [Sem.run_pure, Result.andThen_ok, run_setObj hb] at hrun
    refine map_SR (x := .undef) (v := undef) h hdN hob hlk hmu (under_es fun f hf => ?_) ?_ undef_vr rfl rfl hrun (.inr ⟨rfl, rfl⟩)
    · rcases List.mem_or_eq_of_mem_set hf with h1 | rfl
      · exact es_under hun f h1
      · exact ⟨hku.1, hu⟩
    · rw [Array.toList_modify, set_modify]
      refine hF.modify i _ _ fun f f' hf hf' hr => ?_
      rw [g4] at hf; cases hf
      rw [g3] at hf'; cases hf'
      exact ⟨hkd, hvb, by rw [g9]⟩
  · rename_i hfv
    cases hv
    have hrun := hrun0 _ (findV_sound hk hd hkv 0 hF hfv)
    simp only [run_setObj hb, Result.andThen_ok] at hrun
    refine map_SR (x := .undef) (v := undef) h hdN hob hlk hmu (under_es fun f hf => ?_) ?_ undef_vr rfl rfl hrun (.inr ⟨rfl, rfl⟩)
    · rcases List.mem_append.1 hf with h1 | h1
      · exact es_under hun f h1
      · obtain rfl := List.mem_singleton.1 h1; exact ⟨hku.1, hu⟩
    · rw [Array.toList_push]
      exact F2.append hF (.cons ⟨hkd, hvb, rfl⟩ .nil)
  · cases hv
theorem ment_sound (h : SR st g N a w) (hdN : ∀ d, o.dst = some d → d < N) {t kt et : TypeId} {m k : Operand} (ho : o.op = .mapEntry t m k) (ht : P.underlying t = some (.map kt et)) {c : EK} (hk : keyOf? P kt = some c) {z : V} (hz : zeroV P et = some z) {M K : Am.X} (h3 : opd m = some M) (h4 : opd k = some K) {call : ACall} (hv : sop call lk st o.dst (.ment c z M K) = some st') : StepOK P lk st st' g N a w o := by
  have hkey := opd_sound (fun i => h.tr.ok i) h4
  obtain ⟨zval, hzi, hzv⟩ := Option.bind_eq_some_iff.1 hz
  obtain ⟨inf, hi, hzz⟩ := Option.bind_eq_some_iff.1 hzi
  have hzs := fun n => toV_sound (w := w) (g := g) hzv n
  have hzero : ∀ w : World, (zeroValue et).run P w = .ok zval w := by intro w; simp [zeroValue, typeInfo, hi, hzz]
  obtain ⟨d, hd⟩ : ∃ d, P.underlying kt = some d := by rcases keyOf_spec hk with ⟨-, k, h⟩ | ⟨-, h⟩ <;> exact ⟨_, h⟩
  simp only [sop] at hv
  split at hv
  case h_2 => cases hv
  rename_i lv s kd hM hK
  split at hv
  case h_2 => cases hv
  rename_i es ck hob
  split at hv
  case isFalse => cases hv
  rename_i hlk
  obtain ⟨hob, b, es', hmu, hma, hb, hF, hun⟩ := map_at h h3 hM hob
  have hlv := objAt_lt hob
  simp only [List.length_append, List.length_singleton] at hlv
  have hkd := (data_sound hK hkey.vr).2.2
  have hku := data_under (lv + 1) hK
  have hkv := hkd.vr hku.2
  have hrun0 : ∀ r : Option (Nat × Value), Instr.findNow d (a.eval k) es'.toList 0 = some r → (execOp a.eval o).run P w = (((match r with
    | some (i, v) => do
      let key ← Instr.keyThatStays (((es'[i]?).map (fun e : MapEntry => e.key)).getD (a.eval k)) (a.eval k)
      setObj b (.map (es'.modify i fun e => { e with key := key }) ck)
      pure (.tuple #[v, goInt (((es'[i]?).map (fun e : MapEntry => (e.born : Int))).getD 0)])
    | none => do
      let zero ← zeroValue et
      setObj b (.map (es'.push { key := a.eval k, val := zero, born := ck }) (ck + 1))
      pure (.tuple #[zero, goInt ck])) : Sem Value).run P w).andThen fun v w => .ok (.value v) w := by
    intro r hr
    simp only [execOp, ho, Instr.mapEntry, run_underlying ht, hma, Sem.run_bind, Sem.run_pure, Result.andThen_ok, run_getObj hb, run_checkKey hk, run_findKey hd hr]
    cases r <;> rfl
  split at hv
  · rename_i i v0 bn hfv
    cases hv
    obtain ⟨e', e, -, g2, g3, g4, g5, g6, g7, g8, g9⟩ := findV_sound hk hd hkv 0 hF hfv
    simp only [Nat.sub_zero] at g3 g4
    obtain ⟨y, hy⟩ := find_alike hfv
    have hes : es'[i]? = some e' := by simpa using g3
    have hrun := hrun0 _ g2
    simp only [hes, Option.map_some, Option.getD_some, g7, Instr.keyThatStays, Sem.run_bind] at hrun
    rw [if_pos (key_bits hk hkv hy 9999)] at hrun
    simp only [Sem.run_pure, Result.andThen_ok, run_setObj hb] at hrun
    have hvu := (es_under hun e (List.mem_of_getElem? g4)).2
    rw [g5] at hvu
    refine map_SR (x := .tup [v0, .int .i64 bn]) h hdN hob hlk hmu (under_es fun f hf => ?_) ?_ ⟨[e'.val, .int .i64 bn], rfl, .cons g8 (.cons (CR.int _ _) .nil)⟩ ?_ rfl hrun (.inl ⟨_, rfl, ?_⟩)
    · rcases List.mem_or_eq_of_mem_set hf with h1 | rfl
      · exact es_under hun f h1
      · exact ⟨hku.1, hvu⟩
    · rw [Array.toList_modify, set_modify]
      refine hF.modify i _ _ fun f f' hf hf' hr => ?_
      rw [g4] at hf; cases hf
      rw [g3] at hf'; cases hf'
      exact ⟨hkd, g8, g9⟩
    · show (v0.under0 _ && (_ && true)) = true
      rw [V.under0_mono (by omega) hvu]; rfl
    · rw [g9]; rfl
  · rename_i hfv
    cases hv
    have hrun := hrun0 _ (findV_sound hk hd hkv 0 hF hfv)
    simp only [hzero, Sem.run_bind, Sem.run_pure, run_setObj hb, Result.andThen_ok] at hrun
    refine map_SR (x := .tup [z, .int .i64 ck]) h hdN hob hlk hmu (under_es fun f hf => ?_) ?_ ⟨[zval, .int .i64 ck], rfl, .cons (hzs 0).1 (.cons (CR.int _ _) .nil)⟩ ?_ rfl hrun (.inl ⟨_, rfl, rfl⟩)
    · rcases List.mem_append.1 hf with h1 | h1
      · exact es_under hun f h1
      · obtain rfl := List.mem_singleton.1 h1; exact ⟨hku.1, (hzs _).2.1⟩
    · rw [Array.toList_push]
      exact F2.append hF (.cons ⟨hkd, (hzs 0).1, rfl⟩ .nil)
    · show (z.under0 _ && (_ && true)) = true
      rw [(hzs _).2.1]; rfl
  · cases hv
theorem findIdx_es {es : List (V × V × Nat)} {es' : List MapEntry} (hF : F2 (EntR w g) es es') (b : Int) : es'.findIdx? (fun e => (e.born : Int) == b) = es.findIdx? (fun e => (e.2.2 : Int) == b) := by
  induction hF with
  | nil => rfl
  | cons h t ih => rw [List.findIdx?_cons, List.findIdx?_cons, ih, h.2.2]
theorem mput_sound (h : SR st g N a w) (hdN : ∀ d, o.dst = some d → d < N) {t : TypeId} {m s0 v : Operand} (ho : o.op = .entryStore t m s0 v) {M S X : Am.X} (h3 : opd m = some M) (h4 : opd s0 = some S) (h5 : opd v = some X) {call : ACall} (hv : sop call lk st o.dst (.mput M S X) = some st') : StepOK P lk st st' g N a w o := by
  have hst := opd_sound (fun i => h.tr.ok i) h4
  have hval := opd_sound (fun i => h.tr.ok i) h5
  simp only [sop] at hv
  split at hv
  case h_2 => cases hv
  rename_i lv s bn hM hS
  split at hv
  case h_2 => cases hv
  rename_i es ck hob
  split at hv
  case isFalse => cases hv
  rename_i hc
  obtain ⟨hlk, hu, hsol⟩ := hc
  have hsol' : (X.ev st.T).solid = true := by cases hq : X.ev st.T <;> rw [hq] at hsol <;> first | rfl | cases hsol
  obtain ⟨hob, b, es', hmu, hma, hb, hF, hun⟩ := map_at h h3 hM hob
  have hvb : VR0 w g (X.ev st.T).bare (a.eval v) := hval.vr.bare.vr0 (bare_tup hsol')
  have hsv : a.eval s0 = .int .i64 bn := by have := hst.vr; rw [hS] at this; exact this.int
  split at hv
  case h_2 => cases hv
  rename_i i hfi
  cases hv
  have hfi' : es'.findIdx? (fun e => (e.born : Int) == bn) = some i := by
    rw [show es'.findIdx? (fun e => (e.born : Int) == bn) = es'.toList.findIdx? (fun e => (e.born : Int) == bn) by rw [← Array.toArray_toList (xs := es'), List.findIdx?_toArray], findIdx_es hF]; exact hfi
  have hrun : (execOp a.eval o).run P w = .ok .skip (World.putMap w b (.map (es'.modify i fun e => { e with val := a.eval v }) ck)) := by
    simp only [execOp, ho, Instr.entryStore, hma, Sem.run_bind, Sem.run_pure, Result.andThen_ok, run_getObj hb, hsv, asInt, asIntOf, hfi', run_setObj hb]
  refine map_SR (x := .undef) (v := undef) h hdN hob hlk hmu (under_es fun f hf => ?_) ?_ undef_vr rfl rfl hrun (.inr ⟨rfl, rfl⟩)
  · rcases mem_modify' hf with h1 | ⟨f, h1, rfl⟩
    · exact es_under hun f h1
    · exact ⟨(es_under hun f h1).1, hu⟩
  · rw [Array.toList_modify]
    refine hF.modify i _ _ fun f f' hf hf' hr => ?_
    exact ⟨hr.1, hvb, hr.2.2⟩
theorem mdel_sound (h : SR st g N a w) (hdN : ∀ d, o.dst = some d → d < N) {t t2 kt et : TypeId} {m k : Operand} (ho : o.op = .call { callee := .builtin .delete, args := #[m, k], argTypes := #[t, t2] }) (ht : P.underlying t = some (.map kt et)) {c : EK} (hk : keyOf? P kt = some c) {M K : Am.X} (h3 : opd m = some M) (h4 : opd k = some K) {call : ACall} (hv : sop call lk st o.dst (.mdel c M K) = some st') : StepOK P lk st st' g N a w o := by
  have hkey := opd_sound (fun i => h.tr.ok i) h4
  obtain ⟨d, hd⟩ : ∃ d, P.underlying kt = some d := by rcases keyOf_spec hk with ⟨-, k, h⟩ | ⟨-, h⟩ <;> exact ⟨_, h⟩
  simp only [sop] at hv
  split at hv
  case h_2 => cases hv
  rename_i lv s kd hM hK
  split at hv
  case h_2 => cases hv
  rename_i es ck hob
  split at hv
  case isFalse => cases hv
  rename_i hlk
  obtain ⟨hob, b, es', hmu, hma, hb, hF, hun⟩ := map_at h h3 hM hob
  have hkd := (data_sound hK hkey.vr).2.2
  have hku := data_under (lv + 1) hK
  have hkv := hkd.vr hku.2
  have hrun0 : ∀ r : Option (Nat × Value), Instr.findNow d (a.eval k) es'.toList 0 = some r → (execOp a.eval o).run P w = (((match r with
    | some (i, _) => do { setObj b (.map (es'.eraseIdxIfInBounds i) ck); pure (.tuple #[]) }
    | none => do { setObj b (.map es' ck); pure (.tuple #[]) }) : Sem Value).run P w).andThen fun v w => .ok (.value v) w := by
    intro r hr
    simp only [execOp, ho, resolve, invoke, builtin, Sem.run_bind, Sem.run_pure, Result.andThen_ok, List.map_toArray, List.map_cons, List.map_nil, Builtin.delete_, List.getElem?_toArray, List.getElem?_cons_zero, List.getElem?_cons_succ, run_underlying ht, hma, run_getObj hb, run_checkKey hk, run_findKey hd hr]
    cases r <;> rfl
  split at hv
  · rename_i i v0 bn hfv
    cases hv
    obtain ⟨e', e, -, g2, g3, g4, g5, g6, g7, g8, g9⟩ := findV_sound hk hd hkv 0 hF hfv
    have hrun := hrun0 _ g2
    simp only [Sem.run_bind, Sem.run_pure, Result.andThen_ok, run_setObj hb] at hrun
    refine map_SR (x := .tup []) h hdN hob hlk hmu (under_es fun f hf => ?_) ?_ ⟨[], rfl, .nil⟩ rfl rfl hrun (.inl ⟨_, rfl, rfl⟩)
    · exact es_under hun f (List.mem_of_mem_eraseIdx hf)
    · have : (es'.eraseIdxIfInBounds i).toList = es'.toList.eraseIdx i := by
        unfold Array.eraseIdxIfInBounds
        split
        · simp
        · rename_i hlt; rw [List.eraseIdx_of_length_le (by simpa using hlt)]
      rw [this]; exact hF.erase i
  · rename_i hfv
    cases hv
    have hrun := hrun0 _ (findV_sound hk hd hkv 0 hF hfv)
    simp only [Sem.run_bind, Sem.run_pure, run_setObj hb, Result.andThen_ok] at hrun
    exact map_SR (x := .tup []) h hdN hob hlk hmu hun hF ⟨[], rfl, .nil⟩ rfl rfl hrun (.inl ⟨_, rfl, rfl⟩)
  · cases hv
end
end Go.Proofs.YtlacnkjkcikodaaDoor.Am
end
section
set_option linter.unusedVariables false
set_option linter.unusedSimpArgs false
set_option linter.constructorNameAsVariable false
namespace Go.Proofs.YtlacnkjkcikodaaDoor.Am
open Go
def Enters (P : Program) (f : FuncId) (vals : Array Value) (w : World) (R : Value → World → Prop) : Prop :=
  (∃ m args, (callFunc f vals).run P w = .ok (.enter m args) w ∧ Calls P m args w (fun e w' => ∃ v, e = .returned v ∧ R v w')) ∨ ∃ v w', (callFunc f vals).run P w = .ok (.value v) w' ∧ R v w'
structure CallRes (n : Nat) (w : World) (g : Gh) (lk : Nat) (H' : List Tab) (r : V) (v : Value) (w' : World) (g' : Gh) : Prop where
  fr : Fr lk n w g w' g'
  hr : HR w' g' H'
  vr : VR w' g' r v
  un : r.under n = true
  own : ∀ l s, r = .sl l (.own s) → OwnOK w' g' (.tmp n s) l v
  cell : ∀ l lv s c, r ≠ .sl l (.cell lv s c)
def CallSound (P : Program) (call : ACall) : Prop := ∀ lk f args H r H', call lk f args H = some (r, H') → lk ≤ H.length →
  H'.length = H.length ∧ (∀ i, i < lk → H'[i]? = H[i]?) ∧
  ∀ g w vals, GOK w g → HR w g H → F2 (VR w g) args vals → (∀ x ∈ args, x.under H.length = true ∧ x.free = true) → Enters P f vals.toArray w fun v w' => ∃ g', CallRes H.length w g lk H' r v w' g'
def OpOK (P : Program) (lk : Nat) (st st' : St) (g : Gh) (N : Nat) (a : Act) (w : World) (o : Go.Oper) : Prop :=
  ∀ (next : Act → World → Prop) (Q : Exit → Act → World → Prop), (∀ g' a' w' v, a' = a.put o.dst v → SR st' g' N a' w' → Fr lk st.H.length w g w' g' → next a' w') → o.wp P a w next Q
section
variable {P : Program} {lk : Nat} {st st' : St} {g : Gh} {N : Nat} {a : Act} {w : World} {o : Go.Oper}
theorem StepOK.op (h : StepOK P lk st st' g N a w o) : OpOK P lk st st' g N a w o := by
  obtain ⟨nx, w', g', a', hr, hn, hs, hf, hl⟩ := h
  intro next Q hk
  unfold Oper.wp
  rw [hr]
  rcases hn with ⟨v, rfl, rfl⟩ | ⟨rfl, rfl⟩
  · rw [Oper.upon_value]; exact hk g' _ w' v rfl hs hf
  · rw [Oper.upon_skip]; exact hk g' _ w' _ rfl hs hf
theorem run_call {c : Call} (ho : o.op = .call c) {f : Operand} (hc : c.callee = .value f) {m : FuncId} {cs : List Value} (hf : a.eval f = .func (.func m) #[] cs.toArray) : (execOp a.eval o).run P w = (callFunc m (c.args.toList.map a.eval ++ cs).toArray).run P w := by
  have e : (#[] ++ c.args.map a.eval ++ cs.toArray : Array Value) = (c.args.toList.map a.eval ++ cs).toArray := by
    apply Array.ext'; simp
  simp only [execOp, ho, resolve, hc, Deferred.ofValue, hf, Sem.run_bind, Sem.run_pure, Result.andThen_ok, invoke]
  rw [e]
theorem dropLast_last {H : List Tab} {n : Nat} (h : H.length = n + 1) : H.dropLast ++ [H.getLastD []] = H ∧ H.dropLast.length = n := by
  refine ⟨?_, by simp [h]⟩
  rcases List.eq_nil_or_concat H with rfl | ⟨L, b, rfl⟩
  · cases h
  · simp [List.getLastD_eq_getLast?]
theorem TR.strip {n : Nat} {Hs : List Tab} {T : Tm} {tmps : Array Value} (h : TR w g n Hs T tmps) (p : Tag → Bool) : TR w g n Hs (T.mapV (V.strip p)) tmps := by
  have hT : ∀ i, (T.mapV (V.strip p)).get i = (T.get i).strip p := fun i => Tm.get_mapV _ rfl T i
  refine ⟨fun i => ?_, fun i => ?_, fun i l s hi => ?_, fun i l lv s c hi => ?_⟩
  · rw [hT]; exact (h.v i).strip p
  · rw [hT]; exact strip_under (h.un i)
  · rw [hT] at hi; exact h.own i l s (strip_own hi).1
  · rw [hT] at hi; exact h.cell i l lv s c (strip_cell hi).1
theorem TR.hs {n : Nat} {Hs Hs' : List Tab} {T : Tm} {tmps : Array Value} (h : TR w g n Hs T tmps) (hc : ∀ i l lv s c, T.get i ≠ .sl l (.cell lv s c)) : TR w g n Hs' T tmps :=
  ⟨h.v, h.un, h.own, fun i l lv s c e => absurd e (hc i l lv s c)⟩
theorem give_keeps (q : Nat) (k k' : Option Key) : Keeps q w g w (g.give k k') := ⟨fun _ _ => Nat.le_refl _, fun _ _ _ _ => rfl, fun _ _ _ _ h => h⟩
theorem OwnOK.give {k k1 k2 : Key} {l : List V} {v : Value} (h : OwnOK w g k l v) (hk : k ≠ k1) : OwnOK w (g.give (some k1) (some k2)) k l v :=
  h.keep fun b hb => ⟨rfl, rfl, by
    show (if g.owner b = some k1 ∧ some k1 ≠ none then _ else g.owner b) = _
    rw [if_neg]; rw [hb]; rintro ⟨e, -⟩; exact hk (Option.some.inj e)⟩
theorem OwnOK.given {k1 k2 : Key} {l : List V} {v : Value} (h : OwnOK w g k1 l v) : OwnOK w (g.give (some k1) (some k2)) k2 l v := by
  obtain ⟨A, c, e, h⟩ := h
  refine ⟨A, c, e, h.imp id ?_⟩
  rintro ⟨a, sz, e1, e2, e3, e4, e5, e6, e7, h⟩
  refine ⟨a, sz, e1, e2, e3, e4, e5, e6, ?_, h⟩
  show (if g.owner a.block = some k1 ∧ some k1 ≠ none then some k2 else g.owner a.block) = _
  rw [if_pos ⟨e7, by simp⟩]
theorem HR.give {Hs : List Tab} (h : HR w g Hs) (n s d m : Nat) : HR w (g.give (some (.tmp n s)) (some (.tmp m d))) Hs := by
  refine ⟨fun lv s' o ho => ?_, fun lv s' cs c l ho hc => ?_⟩
  · obtain ⟨hu, b, e1, e2, e3⟩ := h.ob lv s' o ho
    exact ⟨hu, b, e1, e2, e3.keep (give_keeps (lv + 1) _ _) rfl hu⟩
  · obtain ⟨b, ccs, e, v, e1, e2, e3, e4⟩ := h.own lv s' cs c l ho hc
    exact ⟨b, ccs, e, v, e1, e2, e3, e4.give (by simp)⟩
theorem TR.give {n : Nat} {Hs : List Tab} {T : Tm} {tmps : Array Value} (h : TR w g n Hs T tmps) (s d : Nat) : TR w (g.give (some (.tmp (n + 1) s)) (some (.tmp n d))) n Hs T tmps :=
  ⟨fun i => (h.v i).keep (give_keeps _ _ _) (h.un i), h.un, fun i l s' e => (h.own i l s' e).give (by intro e; simp only [Key.tmp.injEq] at e; omega), fun i l lv s' c e => h.cell i l lv s' c e⟩
theorem give_fr (hg : GOK w g) (lk : Nat) {n m : Nat} (hn : n ≤ m) (s : Nat) (k : Key) (hk : ∀ lv s, k = .tmp lv s → n ≤ lv) : Fr lk n w g w (g.give (some (.tmp m s)) (some k)) := by
  refine ⟨Nat.le_refl _, give_keeps _ _ _, fun b hb ht => ⟨rfl, rfl, ?_⟩, fun _ _ _ h => .inl h, fun _ _ _ => rfl, fun b lv s' hlv ho => ?_, hg.give _ _, rfl, rfl, rfl⟩
  rotate_left
  · simp only [Gh.give] at ho
    split at ho
    · have := hk lv s' (Option.some.inj ho); omega
    · exact ho
  show (if g.owner b = some (.tmp m s) ∧ some (Key.tmp m s) ≠ none then _ else g.owner b) = _
  rw [if_neg]
  rintro ⟨e, -⟩
  exact ht (.inr (.inr ⟨m, s, hn, e⟩))
theorem ret_not {d : Option Nat} {r : V} (h : ∀ l s, r ≠ .sl l (.own s)) : ret d r = r := by
  unfold ret
  split
  · exact absurd rfl (h _ _)
  · rfl
theorem took {n : Nat} {H' : List Tab} {r : V} {v : Value} {w' : World} {g1 : Gh} {lk' : Nat} (hr : CallRes (n + 1) w g lk' H' r v w' g1) (hlk : lk ≤ lk') {T : Tm} {tmps : Array Value} (hT : TR w' g1 n H' T tmps) (d : Option Nat) :
    ∃ g2, Fr lk n w g w' g2 ∧ HR w' g2 H' ∧ TR w' g2 n H' T tmps ∧ VR w' g2 (ret d r) v ∧ (ret d r).under (n + 1) = true ∧ (∀ l s, ret d r = .sl l (.own s) → OwnOK w' g2 (.tmp n s) l v) ∧ ∀ l lv s c, ret d r ≠ .sl l (.cell lv s c) := by
  have hf := hr.fr.mono hlk (Nat.le_succ n)
  by_cases ho : ∃ l s, r = .sl l (.own s)
  · obtain ⟨l, s, rfl⟩ := ho
    cases d with
    | none =>
      refine ⟨g1, hf, hr.hr, hT, ?_, rfl, (by intro l s e; cases e), (by intro l lv s c e; cases e)⟩
      exact CR.notag hr.vr
    | some d =>
      refine ⟨g1.give (some (.tmp (n + 1) s)) (some (.tmp n d)), hf.trans (give_fr hr.fr.gok lk (Nat.le_succ n) s _ (fun lv s e => by cases e; exact Nat.le_refl _)), hr.hr.give _ _ _ _, hT.give s d, ?_, rfl, ?_, (by intro l lv s c e; cases e)⟩
      · exact VR.keep (give_keeps (n + 1) _ _) (x := .sl l (.own d)) (CR.retag hr.vr fun _ _ _ _ => trivial) rfl
      · intro l' s' e
        cases e
        exact (hr.own l s rfl).given
  · have ho : ∀ l s, r ≠ .sl l (.own s) := fun l s e => ho ⟨l, s, e⟩
    rw [ret_not ho]
    exact ⟨g1, hf, hr.hr, hT, hr.vr, hr.un, fun l s e => absurd e (ho l s), hr.cell⟩
theorem args_sound (h : SR st g N a w) {args : List Operand} {As : List Am.X} (h3 : opds args = some As) {m : FuncId} {caps : List V} {cs : List Value} (hcl : cs.length = caps.length) (hcr : ∀ (i : Nat) (x : V) (v : Value), caps[i]? = some x → cs[i]? = some v → CR w g x v) (hcu : caps.all (V.capU (st.H.length + 1)) = true) :
    F2 (VR w g) ((As.map (·.ev st.T) ++ caps).map V.bare) (args.map a.eval ++ cs) ∧ ∀ x ∈ (As.map (·.ev st.T) ++ caps).map V.bare, x.under (st.H.length + 1) = true ∧ x.free = true := by
  have hA := opds_sound (fun i => h.tr.ok i) h3
  have hC : F2 (CR w g) caps cs := F2.of _ _ hcl.symm hcr
  refine ⟨?_, ?_⟩
  · rw [List.map_append]
    exact F2.append (F2.map _ hA fun x v _ hv => hv.vr.bare) (F2.map _ hC fun x v _ hv => hv.vr.bare)
  · intro x hx
    obtain ⟨y, hy, rfl⟩ := List.mem_map.1 hx
    refine ⟨V.bare_under ?_, V.bare_free y⟩
    rcases List.mem_append.1 hy with hy | hy
    · obtain ⟨i, hi⟩ := List.getElem?_of_mem hy
      obtain ⟨v, -, hv⟩ := hA.get i y hi
      exact hv.un
    · obtain ⟨i, hi⟩ := List.getElem?_of_mem hy
      obtain ⟨v, -, hv⟩ := hC.get i y hi
      refine V.under1_under (under_cap (List.all_eq_true.1 hcu y hy)) (fun l e => ?_) (fun l e => ?_)
      · subst e; exact hv.not_agg
      · subst e; exact hv.not_tup
theorem fn_val {f : FuncId} {caps : List V} {v : Value} (h : VR w g (.fn f caps) v) : ∃ cs : List Value, v = .func (.func f) #[] cs.toArray ∧ cs.length = caps.length ∧ ∀ (i : Nat) (x : V) (v : Value), caps[i]? = some x → cs[i]? = some v → CR w g x v := by
  have hc : CR w g (.fn f caps) v := h
  cases hc with
  | fn _ _ cs hl hh => exact ⟨cs, rfl, hl, hh⟩
theorem enters_wp {R : Value → World → Prop} {vals : Array Value} {m : FuncId} (hrun : (execOp a.eval o).run P w = (callFunc m vals).run P w) (h : Enters P m vals w R) {next : Act → World → Prop} {Q : Exit → Act → World → Prop} (hk : ∀ v w', R v w' → next (a.put o.dst v) w') : o.wp P a w next Q := by
  unfold Oper.wp
  rw [hrun]
  rcases h with ⟨m', args, h1, h2⟩ | ⟨v, w', h1, h2⟩
  · rw [h1, Oper.upon_enter]
    refine h2.mono ?_
    rintro e w' ⟨v, rfl, hR⟩
    exact hk v w' hR
  · rw [h1, Oper.upon_value]
    exact hk v w' h2
theorem call_sound {call : ACall} (hC : CallSound P call) (h : SR st g N a w) (hlk : lk ≤ st.H.length) (hdN : ∀ d, o.dst = some d → d < N) {c : Call} (ho : o.op = .call c) {f : Operand} (hc : c.callee = .value f) {F : Am.X} {As : List Am.X} (h3 : opd f = some F) (h4 : opds c.args.toList = some As) {lock : Bool} (hv : sop call lk st o.dst (.call lock F As) = some st') : OpOK P lk st st' g N a w o := by
  have hfo := opd_sound (fun i => h.tr.ok i) h3
  simp only [sop] at hv
  split at hv
  case h_2 => cases hv
  rename_i m caps hF
  split at hv
  case h_2 => cases hv
  rename_i r H' hcall
  cases hv
  rw [hF] at hfo
  obtain ⟨cs, hfe, hcl, hcr⟩ := fn_val hfo.vr
  obtain ⟨hA, hU⟩ := args_sound (m := m) h h4 hcl hcr (by have := hfo.un; exact this)
  have hlen : (st.H ++ [st.L]).length = st.H.length + 1 := by simp
  obtain ⟨hl, hsame, hent⟩ := hC _ _ _ _ _ _ hcall (by rw [hlen]; cases lock <;> simp <;> omega)
  have hent := hent g w _ h.gok h.hr hA (by rw [hlen]; exact hU)
  rw [hlen] at hl hent
  obtain ⟨hd1, hd2⟩ := dropLast_last hl
  intro next Q hk
  refine enters_wp (run_call ho hc hfe) hent ?_
  rintro v w' ⟨g1, hr⟩
  have hT1 : TR w' g1 st.H.length H' (bif lock then st.T else st.T.mapV (V.strip isCell)) a.tmps := by
    cases lock with
    | true =>
      have hH : H' = st.H ++ [st.L] := by
        apply List.ext_getElem?
        intro i
        by_cases hi : i < st.H.length + 1
        · exact hsame i (by simpa using hi)
        · rw [List.getElem?_eq_none (by omega), List.getElem?_eq_none (by rw [hlen]; omega)]
      rw [hH]
      exact h.tr.keep h.gok hr.fr hlen (.inl (by simp))
    | false =>
      have hno : ∀ i l lv s c, (st.T.mapV (V.strip isCell)).get i ≠ .sl l (.cell lv s c) := fun i l lv s c e => by
        rw [strip_mapV] at e
        have := (strip_cell e).2
        simp [isCell] at this
      exact ((h.tr.strip isCell).keep h.gok hr.fr hlen (.inr hno)).hs hno
  obtain ⟨g2, f1, f2, f3, f4, f5, f6, f7⟩ := took (lk := lk) hr (by cases lock <;> simp <;> omega) (hT1.strip (match o.dst with | some d => isOwn d | none => fun _ => false)) o.dst
  have hSR : SR { T := (bif lock then st.T else st.T.mapV (V.strip isCell)).mapV (V.strip (match o.dst with | some d => isOwn d | none => fun _ => false)), L := H'.getLastD [], H := H'.dropLast } g2 N a w' := by
    refine ⟨f1.gok, ?_, ?_, h.n, h.df⟩
    · show HR w' g2 (H'.dropLast ++ [H'.getLastD []]); rw [hd1]; exact f2
    · show TR w' g2 H'.dropLast.length (H'.dropLast ++ [H'.getLastD []]) _ _; rw [hd1, hd2]; exact f3
  refine hk g2 _ w' v rfl ?_ f1
  cases hdst : o.dst with
  | none => rw [hdst] at hSR; exact hSR
  | some d =>
    rw [hdst] at hSR f4 f5 f6 f7
    refine hSR.put (hdN d hdst) f4 (by show _ = true; rw [hd2]; exact f5) (fun l s e => by rw [hd2]; exact f6 l s e) (fun l lv s c e => absurd e (f7 l lv s c))
end
end Go.Proofs.YtlacnkjkcikodaaDoor.Am
end
section
set_option linter.unusedVariables false
set_option linter.unusedSimpArgs false
set_option linter.constructorNameAsVariable false
namespace Go.Proofs.YtlacnkjkcikodaaDoor.Am
open Go
section
variable {P : Program} {eff : List FuncId} {par : Bool} {o : Go.Oper}
theorem store_inv {sz : Nat} {X Z : Am.X} (ho : opOf P eff par o = some (.store sz X Z)) : ∃ t x z, o.op = .store t x z ∧ size? P t = some sz ∧ opd x = some X ∧ opd z = some Z := by
  unfold opOf at ho
  repeat' first
    | (cases ho; done)
    | (obtain ⟨_, _, h⟩ := Option.map_eq_some_iff.1 ho; cases h; done)
    | split at ho
  cases ho
  exact ⟨_, _, _, ‹_›, ‹_›, ‹_›, ‹_›⟩
theorem mset_inv {c : EK} {M K X : Am.X} (ho : opOf P eff par o = some (.mset c M K X)) : ∃ t kt et m k v, o.op = .mapUpdate t m k v ∧ P.underlying t = some (.map kt et) ∧ keyOf? P kt = some c ∧ opd m = some M ∧ opd k = some K ∧ opd v = some X := by
  unfold opOf at ho
  repeat' first
    | (cases ho; done)
    | (obtain ⟨_, _, h⟩ := Option.map_eq_some_iff.1 ho; cases h; done)
    | split at ho
  obtain ⟨e, h1, h2⟩ := Option.map_eq_some_iff.1 ho
  cases h2
  exact ⟨_, _, _, _, _, _, ‹_›, ‹_›, h1, ‹_›, ‹_›, ‹_›⟩
theorem ment_inv {c : EK} {z : V} {M K : Am.X} (ho : opOf P eff par o = some (.ment c z M K)) : ∃ t kt et m k, o.op = .mapEntry t m k ∧ P.underlying t = some (.map kt et) ∧ keyOf? P kt = some c ∧ zeroV P et = some z ∧ opd m = some M ∧ opd k = some K := by
  unfold opOf at ho
  repeat' first
    | (cases ho; done)
    | (obtain ⟨_, _, h⟩ := Option.map_eq_some_iff.1 ho; cases h; done)
    | split at ho
  cases ho
  exact ⟨_, _, _, _, _, ‹_›, ‹_›, ‹_›, ‹_›, ‹_›, ‹_›⟩
theorem mput_inv {M S X : Am.X} (ho : opOf P eff par o = some (.mput M S X)) : ∃ t m s v, o.op = .entryStore t m s v ∧ opd m = some M ∧ opd s = some S ∧ opd v = some X := by
  unfold opOf at ho
  repeat' first
    | (cases ho; done)
    | (obtain ⟨_, _, h⟩ := Option.map_eq_some_iff.1 ho; cases h; done)
    | split at ho
  cases ho
  exact ⟨_, _, _, _, ‹_›, ‹_›, ‹_›, ‹_›⟩
theorem opds_two {l : List Operand} {X Y : Am.X} (h : opds l = some [X, Y]) : ∃ x y, l = [x, y] ∧ opd x = some X ∧ opd y = some Y := by
  match l, h with
  | [], h => cases h
  | [a], h =>
    simp only [opds] at h
    split at h
    · rename_i h1 h2; cases h2; cases h
    · cases h
  | [a, b], h =>
    simp only [opds] at h
    split at h
    · rename_i h1 h2
      split at h2
      · rename_i h3 h4; cases h4; cases h2; cases h; exact ⟨a, b, rfl, h1, h3⟩
      · cases h2
    · cases h
  | a :: b :: c :: r, h =>
    simp only [opds] at h
    split at h
    · rename_i h1 h2
      split at h2
      · rename_i h3 h4
        split at h4
        · cases h4; cases h2; cases h
        · cases h4
      · cases h2
    · cases h
theorem mdel_inv {c : EK} {M K : Am.X} (ho : opOf P eff par o = some (.mdel c M K)) : ∃ t t2 kt et m k, o.op = .call { callee := .builtin .delete, args := #[m, k], argTypes := #[t, t2] } ∧ P.underlying t = some (.map kt et) ∧ keyOf? P kt = some c ∧ opd m = some M ∧ opd k = some K := by
  unfold opOf at ho
  repeat' first
    | (cases ho; done)
    | (obtain ⟨_, _, h⟩ := Option.map_eq_some_iff.1 ho; cases h; done)
    | split at ho
  obtain ⟨e, h1, h2⟩ := Option.map_eq_some_iff.1 ho
  cases h2
  have ha := ‹opds _ = some [M, K]›
  have e0 := ‹o.op = _›
  have ht := ‹Array.toList _ = _›
  obtain ⟨x, y, q1, q2, q3⟩ := opds_two ha
  have hc : ∀ (ar : Array Operand) (tt : Array TypeId) (t t2 : TypeId), o.op = .call { callee := .builtin .delete, args := ar, argTypes := tt } → tt.toList = [t, t2] → ar.toList = [x, y] → o.op = .call { callee := .builtin .delete, args := #[x, y], argTypes := #[t, t2] } := by
    intro ar tt t t2 e0 ht q1
    rw [e0]
    congr 2
    · apply Array.ext'; simpa using q1
    · apply Array.ext'; simpa using ht
  exact ⟨_, _, _, _, x, y, hc _ _ _ _ e0 ht q1, ‹_›, h1, q2, q3⟩
theorem call_inv {lock : Bool} {F : Am.X} {As : List Am.X} (ho : opOf P eff par o = some (.call lock F As)) : ∃ c f, o.op = .call c ∧ c.callee = .value f ∧ opd f = some F ∧ opds c.args.toList = some As := by
  unfold opOf at ho
  repeat' first
    | (cases ho; done)
    | (obtain ⟨_, _, h⟩ := Option.map_eq_some_iff.1 ho; cases h; done)
    | split at ho
  all_goals
    cases ho
    exact ⟨_, _, ‹_›, rfl, ‹_›, ‹_›⟩
variable {lk : Nat} {st st' : St} {g : Gh} {N : Nat} {a : Act} {w : World}
theorem dflt_sound (h : SR st g N a w) (hlk : lk ≤ st.H.length) (hdN : ∀ d, o.dst = some d → d < N) {op : AOp} (ho : opOf P eff par o = some op) (hv : sopD st o.dst op = some st') : StepOK P lk st st' g N a w o ∧ st'.H = st.H := by
  have hobj : st.obj = objAt (st.H ++ [st.L]) := by funext lv s; exact St.obj_eq st lv s
  have val : ∀ y, vop st.obj st.T op = some y → makes op = false → ∃ v w' g', (execOp a.eval o).run P w = .ok (.value v) w' ∧ SR st g' N a w' ∧ Fr lk st.H.length w g w' g' ∧ OK w' g' st.H.length (st.H ++ [st.L]) y v := by
    intro y hy hm
    rw [hobj] at hy
    obtain ⟨v, w', g', r1, r2, r3⟩ := vop_sound h.gok h.hr (by simp) (fun i => h.tr.ok i) ho hy
    exact ⟨v, w', g', r1, h.keep r2, r2.mono (by omega) (by omega), r3⟩
  unfold sopD at hv
  split at hv
  · rename_i d hd
    split at hv
    · rename_i hm
      split at hv
      · rename_i ob hob
        cases hv
        refine ⟨made_sound h hlk ho hm hd (hdN d hd) hob, rfl⟩
      · cases hv
    · rename_i hm
      obtain ⟨y, hy, rfl⟩ := Option.map_eq_some_iff.1 hv
      obtain ⟨v, w', g', r1, r2, r3, r4⟩ := val y hy (by simpa using hm)
      refine ⟨⟨_, w', g', a.put o.dst v, r1, .inl ⟨v, rfl, rfl⟩, ?_, r3, rfl⟩, rfl⟩
      rw [hd]
      exact r2.put (hdN d hd) r4.vr r4.un r4.lv.own r4.lv.cell
  · rename_i hd
    split at hv
    · cases hv
    · rename_i hm
      obtain ⟨y, hy, rfl⟩ := Option.map_eq_some_iff.1 hv
      obtain ⟨v, w', g', r1, r2, r3, r4⟩ := val y hy (by simpa using hm)
      refine ⟨⟨_, w', g', a.put o.dst v, r1, .inl ⟨v, rfl, rfl⟩, ?_, r3, rfl⟩, rfl⟩
      rw [hd]
      exact r2
theorem setObj_lock {lv s : Nat} {ob : Ob} (h : lk ≤ lv) (i : Nat) (hi : i < lk) : (st.setObj lv s ob).H[i]? = st.H[i]? := by
  unfold St.setObj
  cases Nat.beq lv st.H.length with
  | true => rfl
  | false =>
    show (st.H.modify lv _)[i]? = _
    rw [List.getElem?_modify]
    have : ¬ lv = i := by omega
    simp [this]
def LockOK (lk : Nat) (H H' : List Tab) : Prop := H'.length = H.length ∧ ∀ i, i < lk → H'[i]? = H[i]?
theorem LockOK.refl (lk : Nat) (H : List Tab) : LockOK lk H H := ⟨rfl, fun _ _ => rfl⟩
theorem LockOK.trans {lk : Nat} {H H1 H2 : List Tab} (h : LockOK lk H H1) (h' : LockOK lk H1 H2) : LockOK lk H H2 := ⟨h'.1.trans h.1, fun i hi => (h'.2 i hi).trans (h.2 i hi)⟩
theorem LockOK.setObj {st0 : St} {lv s : Nat} {ob : Ob} (h : lk ≤ lv) : LockOK lk st0.H (st0.setObj lv s ob).H := ⟨setObj_len, fun i hi => setObj_lock h i hi⟩
theorem sop_lock {call : ACall} (hC : CallSound P call) (hlk : lk ≤ st.H.length) {d : Option Nat} {op : AOp} (hv : sop call lk st d op = some st') : LockOK lk st.H st'.H := by
  cases op with
  | store sz x z =>
    simp only [sop] at hv
    repeat' first | (cases hv; done) | split at hv
    cases hv
    refine LockOK.setObj (st0 := { st with T := _ }) ?_
    exact (‹_ ∧ lk ≤ _ ∧ _›).2.1
  | app sz x y =>
    simp only [sop] at hv
    repeat' first | (cases hv; done) | split at hv
    all_goals cases hv
    all_goals first
      | exact LockOK.refl _ _
      | (refine LockOK.setObj (st0 := { st with T := _ }) ?_; assumption)
  | mset e m k v =>
    simp only [sop] at hv
    repeat' first | (cases hv; done) | split at hv
    all_goals cases hv
    all_goals (refine LockOK.setObj (st0 := { st with T := _ }) ?_; exact (‹_ ∧ _›).1)
  | ment e z m k =>
    simp only [sop] at hv
    repeat' first | (cases hv; done) | split at hv
    all_goals cases hv
    all_goals (refine LockOK.setObj (st0 := { st with T := _ }) ?_; assumption)
  | mput m s v =>
    simp only [sop] at hv
    repeat' first | (cases hv; done) | split at hv
    all_goals cases hv
    all_goals (refine LockOK.setObj (st0 := { st with T := _ }) ?_; exact (‹_ ∧ _›).1)
  | mdel e m k =>
    simp only [sop] at hv
    repeat' first | (cases hv; done) | split at hv
    all_goals cases hv
    all_goals (refine LockOK.setObj (st0 := { st with T := _ }) ?_; assumption)
  | call lock f args =>
    have key : ∀ {lk' : Nat} {f' : FuncId} {asn : List V} {r : V} {H' : List Tab}, call lk' f' asn (st.H ++ [st.L]) = some (r, H') → lk ≤ lk' → lk' ≤ st.H.length + 1 → LockOK lk st.H H'.dropLast := by
      intro lk' f' asn r H' hcall h1 h2
      have hlen : (st.H ++ [st.L]).length = st.H.length + 1 := by simp
      obtain ⟨hl, hsame, -⟩ := hC _ _ _ _ _ _ hcall (by rw [hlen]; exact h2)
      rw [hlen] at hl
      refine ⟨by simp [hl], fun i hi => ?_⟩
      rw [List.getElem?_dropLast, if_pos (by omega), hsame i (by omega), List.getElem?_append_left (by omega)]
    simp only [sop] at hv
    repeat' first | (cases hv; done) | split at hv
    all_goals
      cases hv
      exact key ‹call _ _ _ _ = _› (by cases lock <;> simp <;> omega) (by cases lock <;> simp <;> omega)
  | _ =>
    have hv : sopD st d _ = some st' := hv
    unfold sopD at hv
    repeat' first | (cases hv; done) | split at hv
    all_goals first
      | (cases hv; exact LockOK.refl _ _)
      | (obtain ⟨y, hy, rfl⟩ := Option.map_eq_some_iff.1 hv; exact LockOK.refl _ _)
theorem sop_sound {call : ACall} (hC : CallSound P call) (h : SR st g N a w) (hlk : lk ≤ st.H.length) (hdN : ∀ d, o.dst = some d → d < N) {op : AOp} (ho : opOf P eff par o = some op) (hv : sop call lk st o.dst op = some st') : OpOK P lk st st' g N a w o := by
  cases op with
  | store sz x z =>
    obtain ⟨t, x', z', e, h1, h2, h3⟩ := store_inv ho
    exact (store_sound h hdN e h1 h2 h3 hv).op
  | app sz x y => exact (app_sound h hdN ho hv).op
  | mset e m k v =>
    obtain ⟨t, kt, et, m', k', v', e, h1, h2, h3, h4, h5⟩ := mset_inv ho
    exact (mset_sound h hdN e h1 h2 h3 h4 h5 hv).op
  | ment e z m k =>
    obtain ⟨t, kt, et, m', k', e, h1, h2, h3, h4, h5⟩ := ment_inv ho
    exact (ment_sound h hdN e h1 h2 h3 h4 h5 hv).op
  | mput m s v =>
    obtain ⟨t, m', s', v', e, h1, h2, h3⟩ := mput_inv ho
    exact (mput_sound h hdN e h1 h2 h3 hv).op
  | mdel e m k =>
    obtain ⟨t, t2, kt, et, m', k', e, h1, h2, h3, h4⟩ := mdel_inv ho
    exact (mdel_sound h hdN e h1 h2 h3 h4 hv).op
  | call lock f args =>
    obtain ⟨c, f', e, h1, h2, h3⟩ := call_inv ho
    exact call_sound hC h hlk hdN e h1 h2 h3 hv
  | _ => exact (dflt_sound h hlk hdN ho hv).1.op
end
end Go.Proofs.YtlacnkjkcikodaaDoor.Am
end
section
set_option linter.unusedVariables false
set_option linter.unusedSimpArgs false
namespace Go.Proofs.YtlacnkjkcikodaaDoor.Am
open Go Go.RowKit
section
variable {P : Program} {ops : Array Go.Oper} {Q : Exit → Act → World → Prop}
theorem count_set_true (l : List Bool) (i : Nat) (h : l[i]? = some false) : (l.set i true).count false + 1 = l.count false := by
  induction l generalizing i with
  | nil => simp at h
  | cons b l ih =>
    cases i with
    | zero =>
      simp only [List.getElem?_cons_zero, Option.some.injEq] at h
      subst h
      simp
    | succ i =>
      simp only [List.getElem?_cons_succ] at h
      have := ih i h
      simp only [List.set_cons_succ, List.count_cons]
      omega
theorem sweep_in {L : Nat → Prop} (hc : ∀ k, L k → ∀ j ∈ direct ops k, L j) : ∀ (n : Nat) (A : List Nat), (∀ j ∈ A, L j) → ∀ j ∈ sweep ops n A, L j
  | 0, A, h => h
  | k + 1, A, h => by
    simp only [sweep]
    split
    · rename_i hk
      have hL : L k := h k (by simpa using hk)
      exact sweep_in hc k _ (fun j hj => by
        rcases List.mem_append.1 hj with h1 | h1
        · exact hc k hL j h1
        · exact h j h1)
    · exact sweep_in hc k _ h
theorem mem_direct {i j : Nat} {o : Go.Oper} (ho : ops[i]? = some o) : j ∈ direct ops i ↔ ∃ e ∈ o.after, Region.binds .any e = true ∧ e.on = j := by
  unfold direct
  rw [ho]
  simp only [List.mem_filterMap, Array.mem_toList_iff]
  constructor
  · rintro ⟨e, he, h⟩
    split at h
    · rename_i hb; exact ⟨e, he, hb, Option.some.inj h⟩
    · cases h
  · rintro ⟨e, he, hb, rfl⟩
    exact ⟨e, he, by rw [if_pos hb]⟩
theorem tail_spec {m i : Nat} {o : Go.Oper} {L : Nat → Prop} (h : tailB ops m = true) (ho : ops[i]? = some o) (hm : m ≤ i) (hc : ∀ k ok, ops[k]? = some ok → L k → ∀ e ∈ ok.after, Region.binds .any e = true → L e.on) (hi : ∀ e ∈ o.after, Region.binds .any e = true → L e.on) : ∀ j, j < i → L j := fun j hj => by
  have h1 := List.all_eq_true.1 h i (List.mem_range.2 (Array.getElem?_eq_some_iff.1 ho).1)
  simp only [Bool.or_eq_true, decide_eq_true_eq] at h1
  rcases h1 with h1 | h1
  · omega
  · have h2 := List.all_eq_true.1 h1 j (List.mem_range.2 hj)
    refine sweep_in (ops := ops) (L := L) (fun k hk x hx => ?_) i (direct ops i) (fun x hx => ?_) j (by simpa using h2)
    · cases hk2 : ops[k]? with
      | none => unfold direct at hx; rw [hk2] at hx; cases hx
      | some ok =>
        obtain ⟨e, he, hb, rfl⟩ := (mem_direct hk2).1 hx
        exact hc k ok hk2 hk e he hb
    · obtain ⟨e, he, hb, rfl⟩ := (mem_direct ho).1 hx
      exact hi e he hb
theorem ahead_spec {i : Nat} {o : Go.Oper} (h : aheadB ops = true) (ho : ops[i]? = some o) {e : Edge} (he : e ∈ o.after) (hb : Region.binds .any e = true) : e.on < i := by
  have h1 := List.all_eq_true.1 h i (List.mem_range.2 (Array.getElem?_eq_some_iff.1 ho).1)
  rw [ho] at h1
  have h2 := Array.all_eq_true_iff_forall_mem.1 h1 e he
  rw [hb] at h2
  simpa using h2
theorem tail_run {m : Nat} (ht : tailB ops m = true) (hah : aheadB ops = true) : ∀ (d i : Nat) (listed : Array Bool) (a : Act) (w : World), i + d = ops.size → m ≤ i → listed.size = ops.size → (∀ j, j < ops.size → (listed.getD j false = true ↔ j < i)) → wpOps P ops Q (List.range' i d) a w → wpAny P .any ops Q d listed a w := by
  intro d
  induction d with
  | zero =>
    intro i listed a w hi hm hl hL h
    refine ⟨?_, by simpa [wpOps] using h⟩
    rw [List.eq_nil_iff_forall_not_mem]
    intro j hj
    obtain ⟨h1, o, ho, _⟩ := mem_ready.1 hj
    have hlt := (Array.getElem?_eq_some_iff.1 ho).1
    have h2 := (hL j hlt).2 (by omega)
    rw [Array.getD_eq_getD_getElem?, Array.getElem?_eq_getElem (by omega)] at h1 h2
    simp only [Option.getD_some] at h1 h2
    rw [h1] at h2; cases h2
  | succ d ih =>
    intro i listed a w hi hm hl hL h
    have hilt : i < ops.size := by omega
    have hun : ∀ j, j < ops.size → ¬ j < i → listed.getD j true = false := fun j hj hn => by
      have h1 : ¬ listed.getD j false = true := fun he => hn ((hL j hj).1 he)
      rw [Array.getD_eq_getD_getElem?, Array.getElem?_eq_getElem (by omega)] at h1 ⊢
      simpa using h1
    rw [List.range'_succ, wpOps_cons] at h
    have hready : ∀ j, j ∈ Region.ready .any ops listed → j = i := fun j hj => by
      obtain ⟨h1, o, ho, hall⟩ := mem_ready.1 hj
      have hlt := (Array.getElem?_eq_some_iff.1 ho).1
      have hge : ¬ j < i := fun hji => by
        have h2 := (hL j hlt).2 hji
        rw [Array.getD_eq_getD_getElem?, Array.getElem?_eq_getElem (by omega)] at h1 h2
        simp only [Option.getD_some] at h1 h2
        rw [h1] at h2; cases h2
      rcases Nat.lt_or_ge i j with hij | hij
      · exfalso
        have h3 := tail_spec (L := fun x => listed.getD x false = true) ht ho (by omega) (fun k ok hk hlk e he hb => by
          have hklt := (Array.getElem?_eq_some_iff.1 hk).1
          have h5 := ahead_spec hah hk he hb
          have h6 := (hL k hklt).1 hlk
          exact (hL e.on (by omega)).2 (by omega)) hall i hij
        have := (hL i hilt).1 h3
        omega
      · omega
    have hmem : i ∈ Region.ready .any ops listed := by
      refine mem_ready.2 ⟨hun i hilt (by omega), ops[i], Array.getElem?_eq_getElem hilt, fun e he hb => ?_⟩
      have h1 := List.all_eq_true.1 hah i (List.mem_range.2 hilt)
      rw [Array.getElem?_eq_getElem hilt] at h1
      have h2 := Array.all_eq_true_iff_forall_mem.1 h1 e he
      rw [hb] at h2
      have h3 : e.on < i := by simpa using h2
      exact (hL e.on (by omega)).2 h3
    refine ⟨fun he => (by rw [he] at hmem; cases hmem), fun j hj => ?_⟩
    obtain rfl := hready j hj
    refine wpOp_mono (fun a' w' h' => ih (j + 1) _ a' w' (by omega) (by omega) (by simpa using hl) (fun x hx => ?_) h') h
    by_cases hxj : j = x
    · subst hxj
      refine ⟨fun _ => by omega, fun _ => ?_⟩
      rw [Array.getD_eq_getD_getElem?, Array.getElem?_setIfInBounds_self_of_lt (by omega)]; rfl
    · rw [getD_set_ne false hxj, hL x hx]; omega
theorem count_first : ∀ (l : List Bool) (m : Nat), m ≤ l.length → (∀ j, j < l.length → (l.getD j false = true ↔ j < m)) → l.count false = l.length - m
  | [], m, hm, _ => by simp
  | b :: l, 0, hm, h => by
    have h0 := h 0 (by simp)
    have hb : b = false := by
      cases b with
      | false => rfl
      | true => have := h0.1 rfl; omega
    subst hb
    have := count_first l 0 (Nat.zero_le _) (fun j hj => by
      have := h (j + 1) (by simp; omega)
      simp only [List.getD_cons_succ] at this
      rw [this]; omega)
    simp only [List.count_cons, this, List.length_cons]; simp
  | b :: l, m + 1, hm, h => by
    have h0 := h 0 (by simp)
    have hb : b = true := h0.2 (by omega)
    subst hb
    have := count_first l m (by simpa using hm) (fun j hj => by
      have := h (j + 1) (by simp; omega)
      simp only [List.getD_cons_succ] at this
      rw [this]; omega)
    simp only [List.count_cons, this, List.length_cons]; simp
theorem any_inv {m : Nat} (ht : tailB ops m = true) (hah : aheadB ops = true) (hm : m ≤ ops.size) {J : Array Bool → Act → World → Prop}
    (hstep : ∀ (listed : Array Bool) a w i o, listed.size = ops.size → i < m → ops[i]? = some o → listed.getD i false = false → (∀ j ∈ direct ops i, listed.getD j false = true) → (∀ k, listed.getD k false = true → ∀ j ∈ direct ops k, listed.getD j false = true) → J listed a w → ∀ K : Act → World → Prop, (∀ a' w', J (listed.setIfInBounds i true) a' w' → K a' w') → if Region.wanted o (yielded ops a.tmps) = true then o.wp P a w K Q else K (a.put o.dst undef) w)
    (hend : ∀ (listed : Array Bool) a w, (∀ i, i < m → listed.getD i false = true) → J listed a w → wpOps P ops Q (List.range' m (ops.size - m)) a w) :
    ∀ (fuel : Nat) (listed : Array Bool) (a : Act) (w : World), listed.size = ops.size → (∀ j, m ≤ j → listed.getD j false = false) → (∀ k, listed.getD k false = true → ∀ j ∈ direct ops k, listed.getD j false = true) → listed.toList.count false = fuel → J listed a w → wpAny P .any ops Q fuel listed a w := by
  intro fuel
  induction fuel with
  | zero =>
    intro listed a w hl hun hcl hc hJ
    have hall : ∀ i, i < ops.size → listed.getD i false = true := fun i hi => by
      have h1 : listed[i]'(by omega) ∈ listed.toList := by simp
      have h2 : listed[i]'(by omega) ≠ false := fun he => List.count_eq_zero.1 hc (he ▸ h1)
      rw [Array.getD_eq_getD_getElem?, Array.getElem?_eq_getElem (by omega)]
      simpa using h2
    have hms : m = ops.size := by
      rcases Nat.lt_or_ge m ops.size with h | h
      · have h1 := hall m h; rw [hun m (Nat.le_refl _)] at h1; cases h1
      · omega
    have := tail_run (P := P) (Q := Q) ht hah 0 m listed a w (by omega) (Nat.le_refl _) hl (fun j hj => ⟨fun _ => by omega, fun _ => hall j hj⟩) (by have h := hend listed a w (fun i hi => hall i (by omega)) hJ; rwa [show ops.size - m = 0 by omega] at h)
    exact this
  | succ fuel ih =>
    intro listed a w hl hun hcl hc hJ
    by_cases hall : ∀ i, i < m → listed.getD i false = true
    · have hiff : ∀ j, j < ops.size → (listed.getD j false = true ↔ j < m) := fun j hj => ⟨fun h => (Nat.lt_or_ge j m).resolve_right (fun h1 => by rw [hun j h1] at h; cases h), hall j⟩
      have hcf := count_first listed.toList m (by simpa [hl] using hm) (fun j hj => by
        have := hiff j (by simpa [hl] using hj)
        rw [← this]
        simp [Array.getD_eq_getD_getElem?, List.getD_eq_getElem?_getD])
      rw [hc] at hcf
      have hd : fuel + 1 = ops.size - m := by rw [hcf]; simp [hl]
      rw [hd]
      exact tail_run ht hah (ops.size - m) m listed a w (by omega) (Nat.le_refl _) hl hiff (hend listed a w hall hJ)
    · have hne : Region.ready .any ops listed ≠ [] := by
        intro he
        apply hall
        have hmm : ∀ n i, i < n → i < m → listed.getD i false = true := by
          intro n
          induction n with
          | zero => intro i hi; omega
          | succ n ihn =>
            intro i hi hio
            by_cases hlt : i < n
            · exact ihn i hlt hio
            · obtain rfl : i = n := by omega
              cases hg : listed.getD i false with
              | true => rfl
              | false =>
                exfalso
                have hilt : i < ops.size := by omega
                have hmem : i ∈ Region.ready .any ops listed := by
                  refine mem_ready.2 ⟨?_, ops[i], Array.getElem?_eq_getElem hilt, fun e hem hbe => ?_⟩
                  · rw [Array.getD_eq_getD_getElem?, Array.getElem?_eq_getElem (by omega)] at hg ⊢; exact hg
                  · have h3 := ahead_spec hah (Array.getElem?_eq_getElem hilt) hem hbe
                    exact ihn e.on h3 (by omega)
                rw [he] at hmem
                cases hmem
        exact fun i hi => hmm (i + 1) i (by omega) hi
      refine ⟨fun he => absurd he hne, fun i hi => ?_⟩
      obtain ⟨h1, o, ho, hdep⟩ := mem_ready.1 hi
      have hlt := (Array.getElem?_eq_some_iff.1 ho).1
      have h1' : listed.getD i false = false := by
        rw [Array.getD_eq_getD_getElem?, Array.getElem?_eq_getElem (by omega)] at h1 ⊢
        simpa using h1
      have him : i < m := by
        rcases Nat.lt_or_ge i m with h | h
        · exact h
        · exfalso
          refine hall fun j hj => ?_
          refine tail_spec (L := fun x => listed.getD x false = true) ht ho h (fun k ok hk hlk e he hb => ?_) hdep j (by omega)
          exact hcl k hlk e.on ((mem_direct hk).2 ⟨e, he, hb, rfl⟩)
      have hob := hstep listed a w i o hl him ho h1' (fun j hj => by
        obtain ⟨e, he, hb, rfl⟩ := (mem_direct ho).1 hj
        exact hdep e he hb) hcl hJ (fun a' w' => wpAny P .any ops Q fuel (listed.setIfInBounds i true) a' w') (by
          intro a' w' hJ'
          refine ih _ _ _ (by simpa using hl) (fun j hj => ?_) (fun k hk j hj => ?_) ?_ hJ'
          · rw [getD_set_ne false (by omega)]; exact hun j hj
          · have hdi : ∀ x, listed.getD x false = true → (listed.setIfInBounds i true).getD x false = true := fun x hx => by
              by_cases e : i = x
              · subst e; rw [Array.getD_eq_getD_getElem?, Array.getElem?_setIfInBounds_self_of_lt (by omega)]; rfl
              · rw [getD_set_ne false e]; exact hx
            by_cases e : i = k
            · subst e
              obtain ⟨e, he, hb, rfl⟩ := (mem_direct ho).1 hj
              exact hdi _ (hdep e he hb)
            · rw [getD_set_ne false e] at hk
              exact hdi _ (hcl k hk j hj)
          · have := count_set_true listed.toList i (by
              rw [Array.getD_eq_getD_getElem?, Array.getElem?_eq_getElem (by omega)] at h1
              simp at h1
              simp [List.getElem?_eq_getElem, h1, hl, hlt])
            simp only [Array.toList_setIfInBounds]
            omega)
      unfold wpOp
      rw [ho]
      simp only
      split
      · rename_i hw; rw [if_pos hw] at hob; exact Or.inl hob
      · rename_i hw; rw [if_neg hw] at hob; exact hob
end
end Go.Proofs.YtlacnkjkcikodaaDoor.Am
end
section
set_option linter.unusedVariables false
set_option linter.unusedSimpArgs false
set_option linter.constructorNameAsVariable false
namespace Go.Proofs.YtlacnkjkcikodaaDoor.Am
open Go
def Agree (T T' : Tm) (l : List X) : Prop := ∀ x ∈ l, x.ev T = x.ev T'
section
variable {T T' : Tm} {rd rd' : Nat → Nat → Option Ob}
theorem low64_agree : ∀ {l : List X}, Agree T T' l → low64 l T = low64 l T'
  | [], _ => rfl
  | x :: l, h => by simp only [low64]; rw [h x (by simp), low64_agree (l := l) fun y hy => h y (by simp [hy])]
theorem bnd_agree {d : Nat} {x : Option X} (h : ∀ y, x = some y → y.ev T = y.ev T') : bnd d T x = bnd d T' x := by
  cases x with
  | none => rfl
  | some y => simp only [bnd]; rw [h y rfl]
theorem map_agree {l : List X} (h : Agree T T' l) : l.map (·.ev T) = l.map (·.ev T') := List.map_congr_left h
theorem vop_agree {op : AOp} (h : Agree T T' op.xs) : vop rd T op = vop rd T' op := by
  cases op <;> simp only [AOp.xs, Agree, List.mem_cons, List.not_mem_nil, or_false, forall_eq_or_imp, forall_eq, List.mem_append, Option.mem_toList, List.mem_map, forall_exists_index, and_imp, Prod.forall] at h
  case build z ps =>
    have : ps.map (fun p => (p.1, p.2.1, p.2.2.ev T)) = ps.map (fun p => (p.1, p.2.1, p.2.2.ev T')) := List.map_congr_left fun p hp => by
      rw [h p.2.2 p.1 p.2.1 p.2.2 hp rfl]
    simp only [vop, this]
  case bslice z n ps =>
    have : ps.map (fun p => (p.1, p.2.ev T)) = ps.map (fun p => (p.1, p.2.ev T')) := List.map_congr_left fun p hp => by
      rw [h p.2 p.1 p.2 hp rfl]
    simp only [vop, this]
  case mkf f cs =>
    have h1 : (cs.map fun c => (c.ev T).bare) = cs.map fun c => (c.ev T').bare := List.map_congr_left fun c hc => by rw [h c hc]
    have h2 : cs.all (fun c => (c.ev T).capOk) = cs.all (fun c => (c.ev T').capOk) := by
      rw [Bool.eq_iff_iff, List.all_eq_true, List.all_eq_true]
      exact ⟨fun q c hc => by rw [← h c hc]; exact q c hc, fun q c hc => by rw [h c hc]; exact q c hc⟩
    simp only [vop, h1, h2]
  case slS x lo hi =>
    have h1 : bnd 0 T lo = bnd 0 T' lo := bnd_agree fun y e => h.2 y (.inl e)
    have h2 : ∀ n, bnd n T hi = bnd n T' hi := fun n => bnd_agree fun y e => h.2 y (.inr e)
    simp only [vop, h.1, h1, h2]
  case sl sz x lo hi mx =>
    have h1 : bnd 0 T lo = bnd 0 T' lo := bnd_agree fun y e => h.2 y (.inl (.inl e))
    have h2 : ∀ n, bnd n T hi = bnd n T' hi := fun n => bnd_agree fun y e => h.2 y (.inl (.inr e))
    have h3 : ∀ n, bnd n T mx = bnd n T' mx := fun n => bnd_agree fun y e => h.2 y (.inr e)
    simp only [vop, h.1, h1, h2, h3]
  case min l => simp only [vop, low64_agree h]
  case max l => simp only [vop, low64_agree h]
  all_goals first | (simp only [vop, h]; done) | rfl
theorem made_agree {op : AOp} (h : Agree T T' op.xs) : made T op = made T' op := by
  cases op <;> simp only [AOp.xs, Agree, List.mem_cons, List.not_mem_nil, or_false, forall_eq_or_imp, forall_eq] at h <;> first | (simp only [made, h]; done) | rfl
theorem vop_mono (hrd : ∀ lv s o, rd lv s = some o → rd' lv s = some o) {op : AOp} {y : V} (h : vop rd T op = some y) : vop rd' T op = some y := by
  cases op
  case load ag sz x =>
    simp only [vop] at h ⊢
    split at h
    · split at h
      · rename_i hr; rw [hrd _ _ _ hr]; exact h
      · cases h
    · exact h
    · cases h
  case look c z ok m k =>
    have hm : ∀ v es, mapOf rd v = some es → mapOf rd' v = some es := by
      intro v es hv
      unfold mapOf at hv ⊢
      split at hv
      · exact hv
      · split at hv
        · rename_i hr; rw [hrd _ _ _ hr]; exact hv
        · cases hv
      · cases hv
    simp only [vop] at h ⊢
    split at h
    · cases h
    · rename_i es he
      rw [hm _ _ he]; exact h
  case len k x =>
    simp only [vop] at h ⊢
    split at h
    · exact h
    · exact h
    · exact h
    · split at h
      · rename_i hr; rw [hrd _ _ _ hr]; exact h
      · cases h
    · cases h
  all_goals exact h
end
structure KeepsM (w : World) (g : Gh) (w' : World) (g' : Gh) : Prop where
  fix : ∀ b, b < w.heap.size → g.fix b ≤ g'.fix b
  cell : ∀ b o, b < w.heap.size → o < g.fix b → w'.cell? ⟨b, o, none⟩ = w.cell? ⟨b, o, none⟩
  mu : ∀ lv s b, g.mu lv s = some b → g'.mu lv s = some b
section
variable {w w' : World} {g g' : Gh}
theorem KeepsM.keeps0 (hk : KeepsM w g w' g') : Keeps 0 w g w' g' := ⟨hk.fix, hk.cell, fun _ _ _ h _ => by omega⟩
theorem CR.keepM (hk : KeepsM w g w' g') {x : V} {v : Value} (h : CR w g x v) : CR w' g' x v := by
  induction h with
  | bool b => exact .bool b
  | int k n => exact .int k n
  | flt k b => exact .flt k b
  | str s => exact .str s
  | nilp => exact .nilp
  | nilf => exact .nilf
  | nilm => exact .nilm
  | ptr lv s off b h => exact .ptr lv s off b (hk.mu _ _ _ h)
  | row lv s off n c b h hc => exact .row lv s off n c b (hk.mu _ _ _ h) hc
  | map lv s b h => exact .map lv s b (hk.mu _ _ _ h)
  | fn f caps cs hl h ih => exact .fn f caps cs hl ih
  | sl l t A c sz vs hc hn ht hp hz hd ha hr ih => exact .sl l t A c sz vs hc hn ht hp hz hd (row_keep hk.keeps0 hp ha) ih
  | elp l i off c a x h hx ho ih => exact .elp l i off c a x ih hx ho
  | undef => exact .undef
  | any v => exact .any v
theorem VR0.keepM (hk : KeepsM w g w' g') {x : V} {v : Value} (h : VR0 w g x v) : VR0 w' g' x v := by
  unfold VR0 at h ⊢
  split
  · obtain ⟨vs, e, hc⟩ := h
    exact ⟨vs, e, F2.imp hc fun a b _ hr => hr.keepM hk⟩
  · rename_i hx
    split at h
    · exact absurd rfl (hx _)
    · exact h.keepM hk
theorem VR.keepM (hk : KeepsM w g w' g') {x : V} {v : Value} (h : VR w g x v) : VR w' g' x v := by
  unfold VR at h ⊢
  split
  · obtain ⟨vs, e, hc⟩ := h
    exact ⟨vs, e, F2.imp hc fun a b _ hr => hr.keepM hk⟩
  · rename_i hx
    split at h
    · exact absurd rfl (hx _)
    · exact h.keepM hk
theorem ObR.keepM (hk : KeepsM w g w' g') {b : Nat} (hb : w'.heap[b]? = w.heap[b]?) {o : Ob} (h : ObR w g b o) : ObR w' g' b o := by
  cases o with
  | cells l => obtain ⟨cs, e, h1, h2⟩ := h; exact ⟨cs, e, hb.trans h1, F2.imp h2 fun a b _ hr => hr.keepM hk⟩
  | map es clock =>
    obtain ⟨es', h1, h2⟩ := h
    exact ⟨es', hb.trans h1, F2.imp h2 fun a b _ hr => ⟨hr.1.keepM hk, hr.2.1.keepM hk, hr.2.2⟩⟩
theorem HR.sub {Hs Hs' : List Tab} (h : HR w g Hs) (hs : ∀ lv s o, objAt Hs' lv s = some o → objAt Hs lv s = some o) : HR w g Hs' :=
  ⟨fun lv s o ho => h.ob lv s o (hs _ _ _ ho), fun lv s cs c l ho hc => h.own lv s cs c l (hs _ _ _ ho) hc⟩
theorem make_new {st : St} {N : Nat} {a : Act} (h : SR st g N a w) {d : Nat} (hd : d < N) (hmu : g.mu st.H.length d = none) {ob : Ob} {x : V} {v : Value} {obj : Obj}
    (hx : VR (w.alloc obj) (g.make st.H.length d w.heap.size) x v) (hxu : x.under (st.H.length + 1) = true) (hxf : x.free = true)
    (hob : ObR (w.alloc obj) (g.make st.H.length d w.heap.size) w.heap.size ob) (hou : ob.under (st.H.length + 1) = true) (hoh : ∀ (cs : List V) (c : Nat) (l : List V), ob = .cells cs → cs[c]? ≠ some (V.sl l .held)) :
    SR { st with T := st.T.set d x, L := st.L.set d ob } (g.make st.H.length d w.heap.size) N (a.put (some d) v) (w.alloc obj) := by
  obtain ⟨hfr, hX, hsame⟩ := make_fr (n := st.H.length) (d := d) h.gok 0 obj (Nat.zero_le _)
  have hM : KeepsM w g (w.alloc obj) (g.make st.H.length d w.heap.size) := ⟨hX.fix, hX.cell, fun lv s b hb => by
    simp only [Gh.make]
    rw [if_neg]
    · exact hb
    · rintro ⟨rfl, rfl⟩; rw [hmu] at hb; cases hb⟩
  have hown : ∀ k l v, OwnOK w g k l v → OwnOK (w.alloc obj) (g.make st.H.length d w.heap.size) k l v := fun k l v ho => ho.keep fun b hb => hsame b (h.gok.ow b k hb).1
  have hold : ∀ lv s o, objAt (st.H ++ [st.L]) lv s = some o → ¬ (lv = st.H.length ∧ s = d) := by
    rintro lv s o ho ⟨rfl, rfl⟩
    obtain ⟨-, b, e, -⟩ := h.hr.ob _ _ _ ho
    rw [hmu] at e; cases e
  have hobj : ∀ lv s, objAt (st.H ++ [st.L.set d ob]) lv s = if lv = st.H.length ∧ s = d then some ob else objAt (st.H ++ [st.L]) lv s := by
    intro lv s
    rcases Nat.lt_or_ge lv st.H.length with h1 | h1
    · rw [objAt_old h1, objAt_old h1, if_neg (by omega)]
    · by_cases h2 : lv = st.H.length
      · subst h2
        rw [objAt_now, objAt_now, Tab.get_set_if]
        by_cases h3 : s = d <;> simp [h3]
      · unfold objAt
        rw [List.getElem?_eq_none (by simp; omega), List.getElem?_eq_none (by simp; omega), if_neg (by omega)]
  have hmud : (g.make st.H.length d w.heap.size).mu st.H.length d = some w.heap.size := by simp [Gh.make]
  have hp := getD_put a d v (by rw [h.n]; exact hd)
  have hHR : HR (w.alloc obj) (g.make st.H.length d w.heap.size) (st.H ++ [st.L.set d ob]) := by
    refine ⟨fun lv s o ho => ?_, fun lv s cs c l ho hc => ?_⟩
    · rw [hobj] at ho
      split at ho
      · rename_i e; obtain ⟨rfl, rfl⟩ := e; cases ho
        exact ⟨hou, _, hmud, by simp [Gh.make], hob⟩
      · obtain ⟨hu, b, e1, e2, e3⟩ := h.hr.ob lv s o ho
        have hb := h.gok.lt _ _ _ e1
        exact ⟨hu, b, hM.mu _ _ _ e1, (hsame b hb).2.1.trans e2, e3.keepM hM (hsame b hb).1⟩
    · rw [hobj] at ho
      split at ho
      · cases ho; exact absurd hc (hoh cs c l rfl)
      · obtain ⟨b, ccs, e, v, e1, e2, e3, e4⟩ := h.hr.own lv s cs c l ho hc
        exact ⟨b, ccs, e, v, hM.mu _ _ _ e1, (hsame b (h.gok.lt _ _ _ e1)).1.trans e2, e3, hown _ _ _ e4⟩
  have hT : ∀ i, (st.T.set d x).get i = if i = d then x else st.T.get i := fun i => Tm.get_set_if _ _ _ _
  refine ⟨hfr.gok, hHR, ⟨fun i => ?_, fun i => ?_, fun i l s hi => ?_, fun i l lv s c hi => ?_⟩, by simp [Act.put, h.n], h.df⟩
  · show VR _ _ ((st.T.set d x).get i) _
    rw [hT, hp]
    split
    · exact hx
    · exact (h.tr.v i).keepM hM
  · show ((st.T.set d x).get i).under _ = true
    rw [hT]
    split
    · exact hxu
    · exact h.tr.un i
  · have hi : (st.T.set d x).get i = .sl l (.own s) := hi
    rw [hT] at hi; rw [hp]
    split at hi
    · subst hi; cases hxf
    · rename_i e; rw [if_neg e]; exact hown _ _ _ (h.tr.own i l s hi)
  · have hi : (st.T.set d x).get i = .sl l (.cell lv s c) := hi
    rw [hT] at hi; rw [hp]
    split at hi
    · subst hi; cases hxf
    · rename_i e; rw [if_neg e]
      obtain ⟨cs, b, ccs, e, f1, f2, f3, f4, f5⟩ := h.tr.cell i l lv s c hi
      have hb := h.gok.lt _ _ _ f3
      refine ⟨cs, b, ccs, e, ?_, f2, hM.mu _ _ _ f3, (hsame b hb).1.trans f4, f5⟩
      show objAt (st.H ++ [st.L.set d ob]) lv s = _
      rw [hobj, if_neg (hold _ _ _ f1)]; exact f1
end
end Go.Proofs.YtlacnkjkcikodaaDoor.Am
end
section
set_option linter.unusedVariables false
set_option linter.unusedSimpArgs false
set_option linter.constructorNameAsVariable false
namespace Go.Proofs.YtlacnkjkcikodaaDoor.Am
open Go
def ParOK (P : Program) (lk : Nat) (st st' : St) (g : Gh) (N : Nat) (a : Act) (w : World) (o : Go.Oper) : Prop :=
  ∀ (next : Act → World → Prop) (Q : Exit → Act → World → Prop), (∀ g' a' w' x, a' = a.put o.dst x → SR st' g' N a' w' → Fr lk st.H.length w g w' g' →
    (∀ d, o.dst ≠ some d → g'.mu st.H.length d = g.mu st.H.length d) → (∀ b d, o.dst ≠ some d → g'.owner b = some (.tmp st.H.length d) → g.owner b = some (.tmp st.H.length d)) →
    (∀ b s, g.owner b = some (.cell st.H.length s 0) → w'.heap[b]? = w.heap[b]? ∧ g'.fix b = g.fix b ∧ g'.owner b = g.owner b) → next a' w') → o.wp P a w next Q
section
variable {P : Program} {eff : List FuncId} {par : Bool} {lk : Nat} {st0 st : St} {g : Gh} {N : Nat} {a : Act} {w : World} {o : Go.Oper}
theorem SR.give (h : SR st g N a w) (s d : Nat) : SR st (g.give (some (.tmp (st.H.length + 1) s)) (some (.tmp st.H.length d))) N a w :=
  ⟨h.gok.give _ _, h.hr.give _ _ _ _, h.tr.give s d, h.n, h.df⟩
theorem cell_keep {n : Nat} {w' : World} {g' : Gh} (hg : GOK w g) (hf : Fr (n + 1) (n + 1) w g w' g') {b s : Nat} (h : g.owner b = some (.cell n s 0)) : w'.heap[b]? = w.heap[b]? ∧ g'.fix b = g.fix b ∧ g'.owner b = g.owner b := by
  refine hf.same b (hg.ow b _ h).1 ?_
  rintro (⟨lv, s', -, hm⟩ | ⟨lv, s', c, hl, ho⟩ | ⟨lv, s', hl, ho⟩)
  · exact (hg.ow b _ h).2 _ _ hm
  · rw [h] at ho; cases ho; omega
  · rw [h] at ho; cases ho
theorem took_lock (h : SR st g N a w) {r : V} {v : Value} {w' : World} {g1 : Gh} {H' : List Tab} (hr : CallRes (st.H.length + 1) w g (st.H.length + 1) H' r v w' g1) (hlk : lk ≤ st.H.length) {d : Option Nat} (hdN : ∀ x, d = some x → x < N) :
    ∃ g2, SR { st with T := putD st.T d (ret d r) } g2 N (a.put d v) w' ∧ Fr lk st.H.length w g w' g2 ∧ (∀ d', d ≠ some d' → g2.mu st.H.length d' = g.mu st.H.length d') ∧ (∀ b d', d ≠ some d' → g2.owner b = some (.tmp st.H.length d') → g.owner b = some (.tmp st.H.length d')) ∧ ∀ b s, g.owner b = some (.cell st.H.length s 0) → w'.heap[b]? = w.heap[b]? ∧ g2.fix b = g.fix b ∧ g2.owner b = g.owner b := by
  have hs1 := h.keep hr.fr
  have hf := hr.fr.mono (lk := lk) (n := st.H.length) (by omega) (by omega)
  have hmu : ∀ d', g1.mu st.H.length d' = g.mu st.H.length d' := fun d' => hr.fr.mulk _ _ (by omega)
  have how : ∀ b d', g1.owner b = some (.tmp st.H.length d') → g.owner b = some (.tmp st.H.length d') := fun b d' => hr.fr.own b _ d' (by omega)
  by_cases ho : ∃ l s, r = .sl l (.own s)
  · obtain ⟨l, s, rfl⟩ := ho
    cases d with
    | none => exact ⟨g1, hs1, hf, fun d' _ => hmu d', fun b d' _ => how b d', fun b s hb => cell_keep h.gok hr.fr hb⟩
    | some d =>
      refine ⟨g1.give (some (.tmp (st.H.length + 1) s)) (some (.tmp st.H.length d)), ?_, hf.trans (give_fr hr.fr.gok lk (Nat.le_succ _) s _ (fun lv s e => by cases e; exact Nat.le_refl _)), fun d' _ => hmu d', fun b d' hne hb => how b d' ?_, fun b s hb => ?_⟩
      · refine (hs1.give s d).put (x := .sl l (.own d)) (hdN d rfl) ?_ rfl (fun l' s' e => ?_) (fun l lv s c e => by cases e)
        · exact VR.keep (give_keeps (st.H.length + 1) _ _) (x := .sl l (.own d)) (CR.retag hr.vr fun _ _ _ _ => trivial) rfl
        · cases e
          exact (hr.own l s rfl).given
      · simp only [Gh.give] at hb
        split at hb
        · have := Option.some.inj hb
          simp only [Key.tmp.injEq] at this
          exact absurd (by rw [this.2]) hne
        · exact hb
      · obtain ⟨q1, q2, q3⟩ := cell_keep h.gok hr.fr hb
        refine ⟨q1, q2, ?_⟩
        simp only [Gh.give]
        rw [if_neg]
        · exact q3
        · rintro ⟨e, -⟩; rw [q3, hb] at e; cases e
  · have ho : ∀ l s, r ≠ .sl l (.own s) := fun l s e => ho ⟨l, s, e⟩
    rw [ret_not ho]
    refine ⟨g1, ?_, hf, fun d' _ => hmu d', fun b d' _ => how b d', fun b s hb => cell_keep h.gok hr.fr hb⟩
    cases d with
    | none => exact hs1
    | some d => exact hs1.put (hdN d rfl) hr.vr hr.un (fun l s e => absurd e (ho l s)) (fun l lv s c e => absurd e (hr.cell l lv s c))
theorem par_appG (h : SR st g N a w) {d : Nat} (hd : o.dst = some d) (hdN : d < N) {sz : Nat} {X Y : Am.X} (ho : opOf P eff par o = some (.app sz X Y)) {l m : List V} {tg tg' : Tag} (hX : X.ev st.T = .sl l tg) (hm : appL sz l (Y.ev st.T) = some m) {k kd : Key} (hlk : lk ≤ st.H.length)
    (hown : ∀ v, CR w g (.sl l tg) v → (∀ s, X = .t s → v = a.tmps.getD s undef) → OwnOK w g k l v) (hk : (∀ b, g.owner b ≠ some k) ∨ ∃ s0, k = .cell st.H.length s0 0 ∧ objAt (st.H ++ [st.L]) st.H.length s0 = none) (hkd : (kd = .tmp st.H.length d ∧ tg' = .own d) ∨ (kd = .cell st.H.length d 0 ∧ tg' = .no))
    (next : Act → World → Prop) (Q : Exit → Act → World → Prop) (hnx : ∀ g' a' w' x, a' = a.put o.dst x → SR { st with T := st.T.set d (.sl (l ++ m) tg') } g' N a' w' → Fr lk st.H.length w g w' g' →
    (∀ d, o.dst ≠ some d → g'.mu st.H.length d = g.mu st.H.length d) → (∀ b d, o.dst ≠ some d → g'.owner b = some (.tmp st.H.length d) → g.owner b = some (.tmp st.H.length d)) →
    (∀ b s, k ≠ .cell st.H.length s 0 → g.owner b = some (.cell st.H.length s 0) → w'.heap[b]? = w.heap[b]? ∧ g'.fix b = g.fix b ∧ g'.owner b = g.owner b) → OwnOK w' g' kd (l ++ m) x → next a' w') : o.wp P a w next Q := by
  have hat := app_at h.gok (fun i => h.tr.ok i) ho hX hm kd (k := k) (fun v hcv _ _ he => hown v hcv he)
  obtain ⟨val, w', g', r1, r2, r3, r4, r5, r6, r7, r8, r9, r10⟩ := hat
  have hkt : ∀ lv s, g.owner = g.owner → (∃ b, g.owner b = some (.tmp lv s)) → k ≠ .tmp lv s := fun lv s _ ⟨b, hb⟩ e => by
    rcases hk with hk | ⟨s0, hk, -⟩
    · exact hk b (by rw [e]; exact hb)
    · rw [hk] at e; cases e
  have hp := getD_put a d val (by rw [h.n]; exact hdN)
  have hmuS : ∀ b, (∃ lv s, g.mu lv s = some b) → w'.heap[b]? = w.heap[b]? ∧ g'.fix b = g.fix b := fun b ⟨lv, s, hb⟩ => by
    have := r8 b (h.gok.lt _ _ _ hb) (fun e => (h.gok.ow _ _ e).2 _ _ hb)
    exact ⟨this.1, this.2.1⟩
  have howT : ∀ s l v, OwnOK w g (.tmp st.H.length s) l v → OwnOK w' g' (.tmp st.H.length s) l v := fun s l v hh => hh.keep fun b hb => r8 b (h.gok.ow _ _ hb).1 (fun e => hkt _ _ rfl ⟨b, hb⟩ (Option.some.inj (e.symm.trans hb)))
  have hHR : HR w' g' (st.H ++ [st.L]) := by
    refine ⟨fun lv s ob hob => ?_, fun lv s cs c l' hob hc => ?_⟩
    · obtain ⟨hu, b, e1, e2, e3⟩ := h.hr.ob lv s ob hob
      have hl := objAt_lt hob
      simp only [List.length_append, List.length_singleton] at hl
      obtain ⟨f1, f2⟩ := hmuS b ⟨lv, s, e1⟩
      exact ⟨hu, b, by rw [r7]; exact e1, f2.trans e2, e3.keep (r6 (lv + 1)) f1 hu⟩
    · obtain ⟨b, ccs, e, v, e1, e2, e3, e4⟩ := h.hr.own lv s cs c l' hob hc
      refine ⟨b, ccs, e, v, by rw [r7]; exact e1, (hmuS b ⟨lv, s, e1⟩).1.trans e2, e3, e4.keep fun b' hb' => r8 b' (h.gok.ow _ _ hb').1 fun e => ?_⟩
      rcases hk with hk | ⟨s0, hk, hn⟩
      · exact hk b' e
      · rw [hk, hb'] at e
        cases e
        rw [hob] at hn; cases hn
  unfold Oper.wp
  rw [r1, Oper.upon_value]
  refine hnx g' _ w' val rfl ?_ ⟨r5, r6 _, fun b hb ht => r8 b hb fun e => ?_, fun lv s b hm => .inl (by rw [r7] at hm; exact hm), fun _ _ _ => by rw [r7], fun b lv s hl hq => (r9 b _ hq).resolve_left (by rcases hkd with ⟨e, -⟩ | ⟨e, -⟩ <;> rw [e] <;> intro e <;> cases e; omega), r4, r10⟩ (fun d' _ => by rw [r7]) (fun b d' hne hb => (r9 b _ hb).resolve_left (by rcases hkd with ⟨e, -⟩ | ⟨e, -⟩ <;> rw [e] <;> intro e <;> cases e; exact hne hd)) (fun b s hks hb => r8 b (h.gok.ow _ _ hb).1 fun e => hks (Option.some.inj (e.symm.trans hb))) r3
  rotate_left
  · rcases hk with hk | ⟨s0, hk, -⟩
    · exact hk b e
    · rw [hk] at e; exact ht (.inr (.inl ⟨_, _, _, hlk, e⟩))
  rw [hd]
  have hT : ∀ i, (st.T.set d (.sl (l ++ m) tg')).get i = if i = d then .sl (l ++ m) tg' else st.T.get i := fun i => Tm.get_set_if _ _ _ _
  refine ⟨r4, hHR, ⟨fun i => ?_, fun i => ?_, fun i l' s hi => ?_, fun i l' lv s c hi => ?_⟩, by simp [Act.put, h.n], h.df⟩
  · show VR _ _ ((st.T.set d _).get i) _
    rw [hT, hp]
    split
    · exact r2.retag fun _ _ _ _ => by rcases hkd with ⟨-, e⟩ | ⟨-, e⟩ <;> rw [e] <;> trivial
    · exact (h.tr.v i).keep (r6 _) (h.tr.un i)
  · show ((st.T.set d _).get i).under _ = true
    rw [hT]
    split
    · rfl
    · exact h.tr.un i
  · have hi : (st.T.set d _).get i = .sl l' (.own s) := hi
    rw [hT] at hi; rw [hp]
    split at hi
    · rename_i e; rw [if_pos e]
      rcases hkd with ⟨e1, e2⟩ | ⟨-, e2⟩
      · rw [e2] at hi; cases hi; rw [e1] at r3; exact r3
      · rw [e2] at hi; cases hi
    · rename_i e; rw [if_neg e]; exact howT _ _ _ (h.tr.own i l' s hi)
  · have hi : (st.T.set d _).get i = .sl l' (.cell lv s c) := hi
    rw [hT] at hi; rw [hp]
    split at hi
    · rcases hkd with ⟨-, e2⟩ | ⟨-, e2⟩ <;> rw [e2] at hi <;> cases hi
    · rename_i e; rw [if_neg e]
      obtain ⟨cs, b, ccs, e3, q1, q2, q3, q4, q5⟩ := h.tr.cell i l' lv s c hi
      exact ⟨cs, b, ccs, e3, q1, q2, by rw [r7]; exact q3, (hmuS b ⟨lv, s, q3⟩).1.trans q4, q5⟩
theorem free_own {l : List V} {tg : Tag} {k : Key} (htg : tg = .nil ∨ tg = .full) {v : Value} (hcv : CR w g (.sl l tg) v) : OwnOK w g k l v := by
  rcases htg with rfl | rfl
  · cases hcv with
    | sl _ _ A c sz' vs hc hn hta =>
      have hta : A = none ∧ l.length = 0 ∧ c = 0 := hta
      obtain ⟨-, e1, e2⟩ := hta
      exact ⟨A, c, rfl, .inl (by rw [e1, e2])⟩
  · cases hcv with
    | sl _ _ A c sz' vs hc hn hta =>
      have hta : c = l.length := hta
      exact ⟨A, c, rfl, .inl hta⟩
theorem par_app (h : SR st g N a w) {d : Nat} (hd : o.dst = some d) (hdN : d < N) {sz : Nat} {X Y : Am.X} (ho : opOf P eff par o = some (.app sz X Y)) {l m : List V} {tg : Tag} (hX : X.ev st.T = .sl l tg) (hm : appL sz l (Y.ev st.T) = some m) (hlk : lk ≤ st.H.length) (htg : tg = .nil ∨ tg = .full) (hfree : ∀ b, g.owner b ≠ some (.tmp st.H.length d)) : ParOK P lk st { st with T := st.T.set d (.sl (l ++ m) (.own d)) } g N a w o :=
  fun next Q hk => par_appG h hd hdN ho hX hm hlk (fun v hcv _ => free_own htg hcv) (.inl hfree) (.inl ⟨rfl, rfl⟩) next Q fun g' a' w' x e1 e2 e3 e4 e5 e6 _ => hk g' a' w' x e1 e2 e3 e4 e5 (fun b s hb => e6 b s (by intro e; cases e) hb)
theorem pop_app {call : ACall} {T : Tm} {d : Option Nat} {sz : Nat} {X Y : Am.X} {v : V} {ob : Option Ob} (h : pop call st0 T d (.app sz X Y) = some (v, ob)) : ∃ x l tg m, d = some x ∧ X.ev T = .sl l tg ∧ appL sz l (Y.ev T) = some m ∧ (tg = .nil ∨ tg = .full) ∧ v = .sl (l ++ m) (.own x) ∧ ob = none := by
  simp only [pop] at h
  split at h
  case h_2 => cases h
  rename_i d l t hX
  split at h
  case h_2 => cases h
  rename_i m hm
  split at h <;> cases h
  · exact ⟨d, l, _, m, rfl, hX, hm, .inl rfl, rfl, rfl⟩
  · exact ⟨d, l, _, m, rfl, hX, hm, .inr rfl, rfl, rfl⟩
theorem par_step {call : ACall} (hC : CallSound P call) (h : SR st g N a w) (hH : st.H = st0.H) (hobj : ∀ lv s ob, objAt (st0.H ++ [st0.L]) lv s = some ob → objAt (st.H ++ [st.L]) lv s = some ob) {T : Tm} {op : AOp} (hag : Agree T st.T op.xs) (ho : opOf P eff par o = some op) (hlk : lk ≤ st.H.length) (hdN : ∀ d, o.dst = some d → d < N) {v : V} {ob : Option Ob} (hp : pop call st0 T o.dst op = some (v, ob))
    (hnot : ∀ sz x y, op ≠ .appN sz x y ∧ op ≠ .appF sz x y)
    (hnew : prod op = true → ∀ d, o.dst = some d → g.mu st.H.length d = none ∧ ∀ b, g.owner b ≠ some (.tmp st.H.length d)) : ParOK P lk st { st with T := putD st.T o.dst v, L := putL st.L o.dst ob } g N a w o := by
  have hrd : ∀ lv s ob, st0.obj lv s = some ob → objAt (st.H ++ [st.L]) lv s = some ob := fun lv s ob hh => hobj lv s ob (by rw [← St.obj_eq]; exact hh)
  have dflt : (if makes op then match o.dst, made T op with | some d, some ob => some (madeV st0.H.length d op ob, some ob) | _, _ => none else (vop st0.obj T op).map (·, none)) = some (v, ob) → ParOK P lk st { st with T := putD st.T o.dst v, L := putL st.L o.dst ob } g N a w o := by
    intro hp
    split at hp
    · rename_i hm
      split at hp
      case h_2 => cases hp
      rename_i d ob' hd hob
      cases hp
      rw [made_agree hag] at hob
      obtain ⟨hmu, -⟩ := hnew (by unfold prod; rw [hm]; rfl) d hd
      obtain ⟨hM, -⟩ : KeepsM w g w g ∧ True := ⟨⟨fun _ _ => Nat.le_refl _, fun _ _ _ _ => rfl, fun _ _ _ e => e⟩, trivial⟩
      have hMk : ∀ obj, KeepsM w g (w.alloc obj) (g.make st.H.length d w.heap.size) := fun obj => by
        obtain ⟨hfr, hX, hsame⟩ := make_fr (n := st.H.length) (d := d) h.gok 0 obj (Nat.zero_le _)
        exact ⟨hX.fix, hX.cell, fun lv s b hb => by
          simp only [Gh.make]
          rw [if_neg]
          · exact hb
          · rintro ⟨rfl, rfl⟩; rw [hmu] at hb; cases hb⟩
      obtain ⟨obj, val, hrun, h1, h2, h3, h4, h5, h6⟩ := made_at (d := d) (T := st.T) (n := st.H.length) ho hm (fun obj i => (h.tr.v i).keepM (hMk obj)) (fun i => h.tr.un i) hob
      intro next Q hk
      unfold Oper.wp
      rw [hrun, Oper.upon_value]
      refine hk (g.make st.H.length d w.heap.size) _ _ val rfl ?_ (make_fr h.gok lk _).1 (fun d' hne => ?_) (fun b d' _ hb => hb) (fun b s hb => (make_fr (n := st.H.length) (d := d) h.gok lk obj).2.2 b (h.gok.ow _ _ hb).1)
      · have e : st0.H.length = st.H.length := by rw [hH]
        rw [hd, e]
        exact make_new h (hdN d hd) hmu h1 h2 h3 h4 h5 h6
      · simp only [Gh.make]
        rw [if_neg (fun e => hne (by rw [hd, e.2]))]
    · rename_i hm
      obtain ⟨y, hy, e⟩ := Option.map_eq_some_iff.1 hp
      cases e
      rw [vop_agree hag] at hy
      obtain ⟨val, w', g', r1, r2, r3⟩ := vop_sound h.gok h.hr (by simp) (fun i => h.tr.ok i) ho (vop_mono hrd hy)
      intro next Q hk
      unfold Oper.wp
      rw [r1, Oper.upon_value]
      refine hk g' _ w' val rfl ?_ (r2.mono (by omega) (by omega)) (fun d _ => r2.mulk _ _ (by omega)) (fun b d _ => r2.own b _ d (by omega)) (fun b s hb => cell_keep h.gok r2 hb)
      cases hd : o.dst with
      | none => exact h.keep r2
      | some d => exact (h.keep r2).put (hdN d hd) r3.vr r3.un r3.lv.own r3.lv.cell
  cases op with
  | app sz X Y =>
    obtain ⟨d, l, tg, m, hd, hX, hm, htg, rfl, rfl⟩ := pop_app hp
    rw [hag X (by simp [AOp.xs])] at hX
    rw [hag Y (by simp [AOp.xs])] at hm
    have := par_app (lk := lk) h hd (hdN d hd) ho hX hm hlk htg (hnew rfl d hd).2
    rw [hd]; exact this
  | call lock F As =>
    obtain ⟨c, f, e, hc, h3, h4⟩ := call_inv ho
    simp only [pop] at hp
    split at hp
    case h_2 => cases hp
    rename_i m caps hF
    split at hp
    case h_2 => cases hp
    rename_i r H' hcall
    cases hp
    rw [hag F (by simp [AOp.xs])] at hF
    have hAs : As.map (·.ev T) = As.map (·.ev st.T) := map_agree fun x hx => hag x (by simp [AOp.xs, hx])
    rw [hAs] at hcall
    have hfo := opd_sound (fun i => h.tr.ok i) h3
    rw [hF] at hfo
    obtain ⟨cs, hfe, hcl, hcr⟩ := fn_val hfo.vr
    obtain ⟨hA, hU⟩ := args_sound (m := m) h h4 hcl hcr (by have := hfo.un; exact this)
    have hlen : (st0.H ++ [st0.L]).length = st.H.length + 1 := by simp [hH]
    obtain ⟨hl, hsame, hent⟩ := hC _ _ _ _ _ _ hcall (by rw [hlen, hH]; exact Nat.le_refl _)
    have hent := hent g w _ h.gok (h.hr.sub hobj) hA (by rw [hlen]; exact hU)
    rw [hlen, ← hH] at hent
    intro next Q hk
    refine enters_wp (run_call e hc hfe) hent ?_
    rintro val w' ⟨g1, hr⟩
    obtain ⟨g2, q1, q2, q3, q4, q5⟩ := took_lock (lk := lk) h hr hlk (d := o.dst) hdN
    refine hk g2 _ w' val rfl ?_ q2 q3 q4 q5
    have : putL st.L o.dst none = st.L := by cases o.dst <;> rfl
    rw [this]; exact q1
  | appN sz x y => exact absurd rfl (hnot sz x y).1
  | appF sz x y => exact absurd rfl (hnot sz x y).2
  | _ => exact dflt hp
end
end Go.Proofs.YtlacnkjkcikodaaDoor.Am
end
section
set_option linter.unusedVariables false
set_option linter.unusedSimpArgs false
set_option linter.constructorNameAsVariable false
namespace Go.Proofs.YtlacnkjkcikodaaDoor.Am
open Go Go.RowKit
def VarOp (op0 op : AOp) : Prop := op = op0 ∨ ∃ sz x y, op0 = .app sz x y ∧ (op = .appN sz x y ∨ op = .appF sz x y)
structure OperOK (P : Program) (eff : List FuncId) (nt : Nat) (ops : Array Go.Oper) (o : Go.Oper) (ao : AOper) : Prop where
  d : ao.d = o.dst
  op : ∃ par op0, opOf P eff par o = some op0 ∧ VarOp op0 ao.op
  lt : ∀ d, o.dst = some d → d < nt
  g : (o.guard = none ∧ ao.g = none) ∨ ∃ j w s x, o.guard = some (j, w) ∧ ops[j]? = some x ∧ x.dst = some s ∧ ao.g = some (s, w)
section
variable {P : Program} {eff : List FuncId} {nt : Nat} {ops : Array Go.Oper}
theorem operOf_spec {par : Bool} {o : Go.Oper} {ao : AOper} (h : operOf P eff nt ops par o = some ao) : OperOK P eff nt ops o ao := by
  unfold operOf at h
  split at h
  case h_2 => cases h
  rename_i op hop
  split at h
  case isFalse => cases h
  rename_i hall
  have hlt : ∀ d, o.dst = some d → d < nt := fun d hd => by rw [hd] at hall; simpa using hall
  split at h
  · rename_i hg
    cases h
    exact ⟨rfl, ⟨par, op, hop, .inl rfl⟩, hlt, .inl ⟨hg, rfl⟩⟩
  · rename_i j w hg
    split at h
    case h_2 => cases h
    rename_i s hs
    cases h
    obtain ⟨x, hx, hd⟩ := Option.bind_eq_some_iff.1 hs
    exact ⟨rfl, ⟨par, op, hop, .inl rfl⟩, hlt, .inr ⟨j, w, s, x, hg, hx, hd, rfl⟩⟩
theorem operOf_op {par : Bool} {o : Go.Oper} {ao : AOper} (h : operOf P eff nt ops par o = some ao) : ∃ par, opOf P eff par o = some ao.op := by
  unfold operOf at h
  split at h
  case h_2 => cases h
  rename_i op hop
  split at h
  case isFalse => cases h
  split at h
  · cases h; exact ⟨par, hop⟩
  · split at h
    case h_2 => cases h
    cases h; exact ⟨par, hop⟩
theorem opersOf_spec : ∀ {l : List Go.Oper} {m : Nat} {asn : List AOper}, opersOf P eff nt ops m l = some asn → asn.length = l.length ∧ ∀ (i : Nat) (o : Go.Oper), l[i]? = some o → ∃ ao, asn[i]? = some ao ∧ OperOK P eff nt ops o ao ∧ ∃ par, opOf P eff par o = some ao.op
  | [], m, asn, h => by cases h; exact ⟨rfl, by simp⟩
  | o :: l, m, asn, h => by
    simp only [opersOf] at h
    split at h
    case h_2 => cases h
    rename_i ao asn' h1 h2
    cases h
    obtain ⟨e1, e2⟩ := opersOf_spec h2
    refine ⟨by simp [e1], fun i x hx => ?_⟩
    cases i with
    | zero => simp only [List.getElem?_cons_zero, Option.some.injEq] at hx; subst hx; exact ⟨ao, rfl, operOf_spec h1, operOf_op h1⟩
    | succ i => simp only [List.getElem?_cons_succ] at hx ⊢; exact e2 i x hx
theorem chain1_ok {o : Go.Oper} {ao : AOper} (S : List Nat) (h : OperOK P eff nt ops o ao) (hv : ∃ par, opOf P eff par o = some ao.op) : OperOK P eff nt ops o (chain1 S ao) := by
  obtain ⟨par, hop⟩ := hv
  have key : (chain1 S ao).d = ao.d ∧ (chain1 S ao).g = ao.g ∧ VarOp ao.op (chain1 S ao).op := by
    unfold chain1
    split
    · rename_i sz s y hop
      split
      · exact ⟨rfl, rfl, .inr ⟨sz, .t s, y, hop, .inr rfl⟩⟩
      · split
        · split
          · exact ⟨rfl, rfl, .inr ⟨sz, .t s, y, hop, .inl rfl⟩⟩
          · exact ⟨rfl, rfl, .inl rfl⟩
        · exact ⟨rfl, rfl, .inl rfl⟩
    · rename_i sz x y d hne hop hd
      split
      · exact ⟨rfl, rfl, .inr ⟨sz, x, y, hop, .inl rfl⟩⟩
      · exact ⟨rfl, rfl, .inl rfl⟩
    · exact ⟨rfl, rfl, .inl rfl⟩
  exact ⟨key.1.trans h.d, ⟨par, _, hop, key.2.2⟩, h.lt, by rw [key.2.1]; exact h.g⟩
theorem chainOf_ok {m : Nat} {asn : List AOper} (hlen : asn.length = ops.size) (h : ∀ (i : Nat) (o : Go.Oper), ops[i]? = some o → ∃ ao, asn[i]? = some ao ∧ OperOK P eff nt ops o ao ∧ ∃ par, opOf P eff par o = some ao.op) : (chainOf m asn).length = ops.size ∧ ∀ (i : Nat) (o : Go.Oper), ops[i]? = some o → ∃ ao, (chainOf m asn)[i]? = some ao ∧ OperOK P eff nt ops o ao := by
  unfold chainOf
  simp only
  cases hS : (seconds (asn.take m)).isEmpty with
  | true => exact ⟨hlen, fun i o ho => let ⟨ao, h1, h2, _⟩ := h i o ho; ⟨ao, h1, h2⟩⟩
  | false =>
    simp only [cond_false]
    refine ⟨by simp only [List.length_append, List.length_map, List.length_take, List.length_drop]; omega, fun i o ho => ?_⟩
    obtain ⟨ao, h1, h2, h3⟩ := h i o ho
    have hi := (List.getElem?_eq_some_iff.1 h1).1
    by_cases e : i < m
    · refine ⟨chain1 (seconds (asn.take m)) ao, ?_, chain1_ok _ h2 h3⟩
      rw [List.getElem?_append_left (by simp; omega), List.getElem?_map, List.getElem?_take_of_lt e, h1]; rfl
    · refine ⟨ao, ?_, h2⟩
      rw [List.getElem?_append_right (by simp; omega)]
      simp only [List.length_map, List.length_take, List.getElem?_drop]
      rw [show m + (i - min m asn.length) = i by omega]; exact h1
theorem wants_sound {g : Gh} {w : World} {T : Tm} {a : Act} (hT : ∀ i, VR w g (T.get i) (a.tmps.getD i undef)) {o : Go.Oper} {ao : AOper} (h : OperOK P eff nt ops o ao) {b : Bool} (hw : wants T ao.g = some b) : Region.wanted o (yielded ops a.tmps) = b := by
  unfold Region.wanted
  rcases h.g with ⟨h1, h2⟩ | ⟨j, w', s, x, h1, h2, h3, h4⟩
  · rw [h1]; rw [h2] at hw; cases hw; rfl
  · rw [h1]; rw [h4] at hw
    simp only [wants] at hw
    have hv := hT s
    have hy : yielded ops a.tmps j = (match a.tmps.getD s undef with | .bool b => some b | _ => none) := by
      simp [yielded, h2, h3, Array.getD_eq_getD_getElem?]
      cases h5 : a.tmps[s]? with
      | none => simp [undef]
      | some v => cases v <;> rfl
    simp only [hy]
    split at hw
    · rename_i b' hb
      rw [hb] at hv
      cases hw
      rw [hv.bool]
      cases b' <;> cases w' <;> rfl
    · rename_i hb
      rw [hb] at hv
      cases hw
      have : a.tmps.getD s undef = undef := by
        have hc : CR w g .undef (a.tmps.getD s undef) := hv
        generalize a.tmps.getD s undef = v at hc
        cases hc; rfl
      rw [this]; rfl
    · cases hw
variable {call : ACall} {lk N : Nat} {Q : Exit → Act → World → Prop}
theorem SR.undef {st : St} {g : Gh} {a : Act} {w : World} (h : SR st g N a w) {d : Option Nat} (hd : ∀ x, d = some x → x < N) : SR { st with T := putD st.T d .undef } g N (a.put d undef) w := by
  cases d with
  | none => exact h
  | some d => exact h.putF (hd d rfl) (x := .undef) CR.undef rfl rfl
theorem seqOps_lock (hC : CallSound P call) : ∀ {l : List AOper} {st st' : St}, lk ≤ st.H.length → seqOps call lk l st = some st' → LockOK lk st.H st'.H
  | [], st, st', _, h => by cases h; exact .refl _ _
  | o :: l, st, st', hlk, h => by
    simp only [seqOps] at h
    split at h
    · split at h
      · rename_i st1 h1
        have hl := sop_lock hC hlk h1
        exact hl.trans (seqOps_lock hC (by rw [hl.1]; exact hlk) h)
      · cases h
    · exact seqOps_lock (st := { st with T := putD st.T o.d .undef }) hC hlk h
    · cases h
theorem seqOps_sound (hC : CallSound P call) {asn : List AOper} (hN : nt ≤ N) (hops : ∀ (i : Nat) (o : Go.Oper), ops[i]? = some o → ∃ ao, asn[i]? = some ao ∧ OperOK P eff nt ops o ao) (hlen : asn.length = ops.size) : ∀ (l : List AOper) (k : Nat), asn.drop k = l → ∀ {st st' : St} {g : Gh} {a : Act} {w : World}, SR st g N a w → lk ≤ st.H.length → seqOps call lk l st = some st' →
    (∀ g' a' w', SR st' g' N a' w' → Fr lk st.H.length w g w' g' → Q .normal a' w') → wpOps P ops Q (List.range' k l.length) a w
  | [], k, hl, st, st', g, a, w, h, hlk, hs, hk => by
    cases hs
    exact hk g a w h (.refl _ _ h.gok)
  | ao :: l, k, hl, st, st', g, a, w, h, hlk, hs, hk => by
    have hkl : k < asn.length := by
      rcases Nat.lt_or_ge k asn.length with h1 | h1
      · exact h1
      · rw [List.drop_eq_nil_of_le h1] at hl; cases hl
    have hao : asn[k]? = some ao := by
      have := congrArg (fun x => x[0]?) hl
      simpa using this
    have hl' : asn.drop (k + 1) = l := by
      rw [← List.drop_drop, hl]; rfl
    have hko : ops[k]? = some ops[k] := Array.getElem?_eq_getElem (by omega)
    obtain ⟨ao', e1, hok⟩ := hops k _ hko
    rw [hao] at e1; cases e1
    show wpOps P ops Q (List.range' k (l.length + 1)) a w
    rw [List.range'_succ, wpOps_cons]
    unfold wpOp
    rw [hko]
    simp only
    simp only [seqOps] at hs
    split at hs
    · rename_i hw
      rw [if_pos (wants_sound h.tr.v hok hw)]
      split at hs
      case h_2 => cases hs
      rename_i st1 h1
      obtain ⟨par, op0, hop, hvar⟩ := hok.op
      have hvar : ao.op = op0 := by
        rcases hvar with e | ⟨sz, x, y, e0, e | e⟩
        · exact e
        · rw [e] at h1; simp [sop, sopD, makes, vop] at h1; (split at h1 <;> cases h1)
        · rw [e] at h1; simp [sop, sopD, makes, vop] at h1; (split at h1 <;> cases h1)
      rw [← hvar] at hop
      rw [hok.d] at h1
      have hl1 := sop_lock hC hlk h1
      refine .inl (sop_sound hC h hlk (fun d hd => Nat.lt_of_lt_of_le (hok.lt d hd) hN) hop h1 _ _ fun g1 a1 w1 v _ hs1 hf1 => ?_)
      refine seqOps_sound hC hN hops hlen l (k + 1) hl' hs1 (by rw [hl1.1]; exact hlk) hs fun g2 a2 w2 hs2 hf2 => hk g2 a2 w2 hs2 (hf1.trans (by rw [hl1.1] at hf2; exact hf2))
    · rename_i hw
      rw [if_neg (by rw [wants_sound h.tr.v hok hw]; simp)]
      rw [hok.d] at hs
      exact seqOps_sound (st := { st with T := putD st.T (ops[k]).dst .undef }) hC hN hops hlen l (k + 1) hl' (h.undef fun d hd => Nat.lt_of_lt_of_le (hok.lt d hd) hN) hlk hs hk
    · cases hs
def parOne (call : ACall) (st : St) (T : Tm) (o : AOper) (r : V × Option Ob) : Prop := (wants T o.g = some true ∧ pop call st T o.d o.op = some r) ∨ (wants T o.g = some false ∧ r = (.undef, none))
structure ParSpec (call : ACall) (st : St) (l : List AOper) (T : Tm) (L : Tab) (rs : List (V × Option Ob)) (T' : Tm) (L' : Tab) : Prop where
  len : rs.length = l.length
  one : ∀ (i : Nat) (o : AOper), l[i]? = some o → ∃ r Ti, rs[i]? = some r ∧ parOne call st Ti o r ∧ ∀ t, (∃ (j : Nat) (oj : AOper) (r : V × Option Ob), j < i ∧ l[j]? = some oj ∧ oj.d = some t ∧ rs[j]? = some r ∧ Ti.get t = r.1) ∨ ((∀ (j : Nat) (oj : AOper), j < i → l[j]? = some oj → oj.d ≠ some t) ∧ Ti.get t = T.get t)
  t : ∀ t, (∃ (j : Nat) (oj : AOper) (r : V × Option Ob), l[j]? = some oj ∧ oj.d = some t ∧ rs[j]? = some r ∧ T'.get t = r.1) ∨ ((∀ (j : Nat) (oj : AOper), l[j]? = some oj → oj.d ≠ some t) ∧ T'.get t = T.get t)
  l : ∀ s, (∃ (j : Nat) (oj : AOper) (v : V) (ob : Ob), l[j]? = some oj ∧ oj.d = some s ∧ rs[j]? = some (v, some ob) ∧ L'.get s = some ob) ∨ ((∀ (j : Nat) (oj : AOper) (v : V) (ob : Ob), l[j]? = some oj → rs[j]? = some (v, some ob) → oj.d ≠ some s) ∧ L'.get s = L.get s)
theorem putD_get {T : Tm} {d : Option Nat} {v : V} {t : Nat} : (putD T d v).get t = if d = some t then v else T.get t := by
  cases d with
  | none => simp [putD]
  | some d =>
    simp only [putD]; rw [Tm.get_set_if]
    by_cases e : t = d
    · subst e; simp
    · rw [if_neg e, if_neg (by simpa using Ne.symm e)]
theorem putL_get {L : Tab} {d : Option Nat} {ob : Option Ob} {s : Nat} : (putL L d ob).get s = if d = some s ∧ ob.isSome = true then ob else L.get s := by
  cases d with
  | none => simp [putL]
  | some d =>
    cases ob with
    | none => simp [putL]
    | some ob =>
      simp only [putL]; rw [Tab.get_set_if]
      by_cases e : s = d
      · subst e; simp
      · rw [if_neg e, if_neg (by simpa using Ne.symm e)]
theorem parOps_spec {st : St} : ∀ {l : List AOper} {T T' : Tm} {L L' : Tab}, parOps call st l T L = some (T', L') → ∃ rs, ParSpec call st l T L rs T' L'
  | [], T, T', L, L', h => by
    cases h
    exact ⟨[], rfl, fun i o ho => by simp at ho, fun t => .inr ⟨fun j oj hj => by simp at hj, rfl⟩, fun s => .inr ⟨fun j oj v ob hj => by simp at hj, rfl⟩⟩
  | o :: l, T, T', L, L', h => by
    have key : ∀ (r : V × Option Ob), parOne call st T o r → parOps call st l (putD T o.d r.1) (putL L o.d r.2) = some (T', L') → ∃ rs, ParSpec call st (o :: l) T L rs T' L' := by
      intro r hr h'
      obtain ⟨rs, hs⟩ := parOps_spec h'
      refine ⟨r :: rs, by simp [hs.len], fun i x hx => ?_, fun t => ?_, fun s => ?_⟩
      · cases i with
        | zero =>
          simp only [List.getElem?_cons_zero, Option.some.injEq] at hx; subst hx
          exact ⟨r, T, rfl, hr, fun t => .inr ⟨fun j oj hj => by omega, rfl⟩⟩
        | succ i =>
          simp only [List.getElem?_cons_succ] at hx
          obtain ⟨ri, Ti, e1, e2, e3⟩ := hs.one i x hx
          refine ⟨ri, Ti, e1, e2, fun t => ?_⟩
          rcases e3 t with ⟨j, oj, rj, f1, f2, f3, f4, f5⟩ | ⟨f1, f2⟩
          · exact .inl ⟨j + 1, oj, rj, by omega, f2, f3, f4, f5⟩
          · rw [putD_get] at f2
            split at f2
            · rename_i hd; exact .inl ⟨0, o, r, by omega, rfl, hd, rfl, f2⟩
            · rename_i hd
              refine .inr ⟨fun j oj hj ho => ?_, f2⟩
              cases j with
              | zero => simp only [List.getElem?_cons_zero, Option.some.injEq] at ho; subst ho; exact hd
              | succ j => exact f1 j oj (by omega) ho
      · rcases hs.t t with ⟨j, oj, rj, f2, f3, f4, f5⟩ | ⟨f1, f2⟩
        · exact .inl ⟨j + 1, oj, rj, f2, f3, f4, f5⟩
        · rw [putD_get] at f2
          split at f2
          · rename_i hd; exact .inl ⟨0, o, r, rfl, hd, rfl, f2⟩
          · rename_i hd
            refine .inr ⟨fun j oj ho => ?_, f2⟩
            cases j with
            | zero => simp only [List.getElem?_cons_zero, Option.some.injEq] at ho; subst ho; exact hd
            | succ j => exact f1 j oj ho
      · rcases hs.l s with ⟨j, oj, v, ob, f2, f3, f4, f5⟩ | ⟨f1, f2⟩
        · exact .inl ⟨j + 1, oj, v, ob, f2, f3, f4, f5⟩
        · rw [putL_get] at f2
          obtain ⟨rv, rob⟩ := r
          by_cases hd : o.d = some s ∧ rob.isSome = true
          · rw [if_pos hd] at f2
            obtain ⟨ob, hob⟩ := Option.isSome_iff_exists.1 hd.2
            subst hob
            exact .inl ⟨0, o, rv, ob, rfl, hd.1, rfl, f2⟩
          · rw [if_neg hd] at f2
            refine .inr ⟨fun j oj v ob ho hrs => ?_, f2⟩
            cases j with
            | zero =>
              simp only [List.getElem?_cons_zero, Option.some.injEq] at ho hrs; subst ho; cases hrs
              exact fun e => hd ⟨e, rfl⟩
            | succ j => exact f1 j oj v ob ho hrs
    simp only [parOps] at h
    split at h
    · rename_i hw
      split at h
      · rename_i v ob hp
        exact key (v, ob) (.inl ⟨hw, hp⟩) h
      · cases h
    · rename_i hw
      exact key (.undef, none) (.inr ⟨hw, rfl⟩) (by
        have : putL L o.d none = L := by cases o.d <;> rfl
        rw [this]; exact h)
    · cases h
end
end Go.Proofs.YtlacnkjkcikodaaDoor.Am
end
section
set_option linter.unusedVariables false
set_option linter.unusedSimpArgs false
set_option linter.constructorNameAsVariable false
namespace Go.Proofs.YtlacnkjkcikodaaDoor.Am
open Go Go.RowKit
def Gh.drop (g : Gh) (n : Nat) (ds : List Nat) : Gh :=
  { pin := g.pin, mu := fun lv s => if lv = n ∧ ds.contains s = true then none else g.mu lv s, fix := g.fix,
    owner := fun b => match g.owner b with
      | some (.tmp lv s) => if lv = n ∧ ds.contains s = true then none else some (.tmp lv s)
      | k => k }
theorem drop_owner {g : Gh} {n : Nat} {ds : List Nat} {b : Nat} {k : Key} : (g.drop n ds).owner b = some k ↔ g.owner b = some k ∧ ∀ s, k = .tmp n s → ds.contains s = false := by
  simp only [Gh.drop]
  constructor
  · intro h
    split at h
    · rename_i lv s e
      split at h
      · cases h
      · rename_i hn; cases h
        refine ⟨e, fun s' e' => ?_⟩
        simp only [Key.tmp.injEq] at e'
        obtain ⟨rfl, rfl⟩ := e'
        cases hc : ds.contains s with
        | false => rfl
        | true => exact absurd ⟨rfl, hc⟩ hn
    · rename_i hne
      refine ⟨h, fun s e => ?_⟩
      subst e; exact absurd h (hne _ _)
  · rintro ⟨e, h⟩
    rw [e]
    cases k with
    | cell lv s c => rfl
    | tmp lv s =>
      simp only
      rw [if_neg]
      rintro ⟨rfl, hc⟩
      rw [h s rfl] at hc; cases hc
theorem kill_own' {n : Nat} {ds : List Nat} {x : V} {l : List V} {s : Nat} (h : x.kill n ds = .sl l (.own s)) : x = .sl l (.own s) ∧ ds.contains s = false := by
  have h1 := kill_own h
  subst h1
  refine ⟨rfl, ?_⟩
  simp only [V.kill, V.kill0, V.kill1, V.sl.injEq, Tag.kill] at h
  cases hd : ds.contains s with
  | false => rfl
  | true => rw [hd] at h; cases h.2
section
variable {N lk : Nat} {w : World} {g : Gh} {st : St} {a : Act}
theorem SR.prep (h : SR st g N a w) (lk : Nat) (hlk : lk ≤ st.H.length) (ds : List Nat) : ∃ g', SR (st.prep ds) g' N a w ∧ Fr lk st.H.length w g w g' ∧ (∀ d ∈ ds, g'.mu st.H.length d = none ∧ ∀ b, g'.owner b ≠ some (.tmp st.H.length d)) ∧ (st.prep ds).H = st.H ∧ ∀ d ∈ ds, (st.prep ds).L.get d = none := by
  by_cases hds : ds = []
  · subst hds
    exact ⟨g, h, .refl _ _ h.gok, fun d hd => (by cases hd), rfl, fun d hd => (by cases hd)⟩
  have hpe : st.prep ds = { st with T := st.T.mapV (V.kill st.H.length ds), L := (st.L.kill st.H.length ds).del ds } := by
    cases ds with
    | nil => exact absurd rfl hds
    | cons d ds => rfl
  rw [hpe]
  have hX : KeepsX st.H.length ds w g w (g.drop st.H.length ds) := ⟨fun _ _ => Nat.le_refl _, fun _ _ _ _ => rfl, fun lv s _ hh => by
    simp only [Gh.drop]
    rw [if_neg]
    rintro ⟨rfl, hc⟩
    unfold hitB at hh; rw [hc] at hh; simp at hh⟩
  have hmu : ∀ lv s b, (g.drop st.H.length ds).mu lv s = some b → g.mu lv s = some b := fun lv s b hb => by
    simp only [Gh.drop] at hb
    split at hb
    · cases hb
    · exact hb
  have hmu2 : ∀ lv s, ¬ (lv = st.H.length ∧ ds.contains s = true) → (g.drop st.H.length ds).mu lv s = g.mu lv s := fun lv s hn => by
    simp only [Gh.drop]; rw [if_neg hn]
  have hgok : GOK w (g.drop st.H.length ds) := ⟨fun lv s lv' s' b e e' => h.gok.inj _ _ _ _ _ (hmu _ _ _ e) (hmu _ _ _ e'), fun lv s b e => h.gok.lt _ _ _ (hmu _ _ _ e), fun b k e => ⟨(h.gok.ow b k (drop_owner.1 e).1).1, fun lv s e' => (h.gok.ow b k (drop_owner.1 e).1).2 lv s (hmu _ _ _ e')⟩, fun b o e => by
    obtain ⟨p1, p2, p3⟩ := h.gok.pin b o e
    refine ⟨p1, ?_, fun lv s e' => p3 lv s (hmu _ _ _ e')⟩
    cases hx : (g.drop st.H.length ds).owner b with
    | none => rfl
    | some k => have := (drop_owner.1 hx).1; rw [p2] at this; cases this⟩
  have hown : ∀ k l v, OwnOK w g k l v → (∀ s, k = .tmp st.H.length s → ds.contains s = false) → OwnOK w (g.drop st.H.length ds) k l v := fun k l v ho hk => ho.keep fun b hb => ⟨rfl, rfl, by rw [drop_owner.2 ⟨hb, hk⟩, hb]⟩
  have hT : ∀ i, (st.T.mapV (V.kill st.H.length ds)).get i = (st.T.get i).kill st.H.length ds := fun i => Tm.get_mapV _ rfl _ _
  have hobj : ∀ lv s o, objAt (st.H ++ [(st.L.kill st.H.length ds).del ds]) lv s = some o → (lv < st.H.length ∧ objAt (st.H ++ [st.L]) lv s = some o) ∨ (lv = st.H.length ∧ ds.contains s = false ∧ ∃ o0, objAt (st.H ++ [st.L]) lv s = some o0 ∧ o = o0.kill st.H.length ds) := by
    intro lv s o ho
    have hl := objAt_lt ho
    simp only [List.length_append, List.length_singleton] at hl
    rcases Nat.lt_or_ge lv st.H.length with h1 | h1
    · left
      refine ⟨h1, ?_⟩
      rw [objAt_old h1] at ho ⊢; exact ho
    · obtain rfl : lv = st.H.length := by omega
      rw [objAt_now, Tab.get_del] at ho
      split at ho
      · cases ho
      · rename_i hc
        rw [Tab.get_kill] at ho
        obtain ⟨o0, h2, rfl⟩ := Option.map_eq_some_iff.1 ho
        exact .inr ⟨rfl, by simpa using hc, o0, by rw [objAt_now]; exact h2, rfl⟩
  refine ⟨g.drop st.H.length ds, ⟨hgok, ⟨fun lv s o ho => ?_, fun lv s cs c l ho hc => ?_⟩, ⟨fun i => ?_, fun i => ?_, fun i l s hi => ?_, fun i l lv s c hi => ?_⟩, h.n, h.df⟩, ⟨Nat.le_refl _, hX.keeps, fun b hb ht => ⟨rfl, rfl, ?_⟩, fun lv s b e => .inl (hmu _ _ _ e), fun lv s hl => hmu2 lv s (fun e => by omega), fun b lv s _ e => (drop_owner.1 e).1, hgok, rfl, rfl, rfl⟩, fun d hd => ⟨?_, fun b e => ?_⟩, rfl, fun d hd => ?_⟩
  · rcases hobj lv s o ho with ⟨h1, h2⟩ | ⟨rfl, hc, o0, h2, rfl⟩
    · obtain ⟨hu, b, e1, e2, e3⟩ := h.hr.ob lv s o h2
      exact ⟨hu, b, by rw [hmu2 lv s (by omega)]; exact e1, e2, e3.keep (hX.keeps.mono (m := lv + 1) (by omega)) rfl hu⟩
    · obtain ⟨hu, b, e1, e2, e3⟩ := h.hr.ob _ s o0 h2
      exact ⟨Ob.kill_under hu, b, by rw [hmu2 _ s (fun e => by rw [hc] at e; cases e.2)]; exact e1, e2, e3.killed hX rfl hu⟩
  · rcases hobj lv s _ ho with ⟨h1, h2⟩ | ⟨rfl, hcs, o0, h2, e⟩
    · obtain ⟨b, ccs, e, v, e1, e2, e3, e4⟩ := h.hr.own lv s cs c l h2 hc
      exact ⟨b, ccs, e, v, by rw [hmu2 lv s (by omega)]; exact e1, e2, e3, hown _ _ _ e4 (by simp)⟩
    · cases o0 with
      | map es ck => cases e
      | cells cs0 =>
        simp only [Ob.kill, Ob.cells.injEq] at e
        subst e
        rw [List.getElem?_map] at hc
        obtain ⟨x0, hx0, hxe⟩ := Option.map_eq_some_iff.1 hc
        have := kill1_held hxe
        subst this
        obtain ⟨b, ccs, e, v, e1, e2, e3, e4⟩ := h.hr.own _ s cs0 c l h2 hx0
        exact ⟨b, ccs, e, v, by rw [hmu2 _ s (fun e => by rw [hcs] at e; cases e.2)]; exact e1, e2, e3, hown _ _ _ e4 (by simp)⟩
  · show VR _ _ ((st.T.mapV (V.kill st.H.length ds)).get i) _
    rw [hT]; exact (h.tr.v i).killed hX (h.tr.un i)
  · show ((st.T.mapV (V.kill st.H.length ds)).get i).under _ = true
    rw [hT]; exact V.kill_under (h.tr.un i)
  · have hi : (st.T.mapV (V.kill st.H.length ds)).get i = .sl l (.own s) := hi
    rw [hT] at hi
    obtain ⟨e1, e2⟩ := kill_own' hi
    exact hown _ _ _ (h.tr.own i l s e1) (fun s' e => by cases e; exact e2)
  · have hi : (st.T.mapV (V.kill st.H.length ds)).get i = .sl l (.cell lv s c) := hi
    rw [hT] at hi
    obtain ⟨e1, hh⟩ := kill_cell hi
    obtain ⟨cs, b, ccs, e, f1, f2, f3, f4, f5⟩ := h.tr.cell i l lv s c e1
    have hlv := objAt_lt f1
    simp only [List.length_append, List.length_singleton] at hlv
    have hn : ¬ (lv = st.H.length ∧ ds.contains s = true) := by
      rintro ⟨rfl, hc⟩
      unfold hitB at hh; rw [hc] at hh; simp at hh
    show ∃ cs b ccs e, objAt (st.H ++ [(st.L.kill st.H.length ds).del ds]) lv s = some (.cells cs) ∧ _
    rcases Nat.lt_or_ge lv st.H.length with h1 | h1
    · refine ⟨cs, b, ccs, e, ?_, f2, by rw [hmu2 _ _ hn]; exact f3, f4, f5⟩
      rw [objAt_old h1] at f1 ⊢; exact f1
    · obtain rfl : lv = st.H.length := by omega
      refine ⟨cs.map (V.kill1 st.H.length ds), b, ccs, e, ?_, by rw [List.getElem?_map, f2]; rfl, by rw [hmu2 _ _ hn]; exact f3, f4, f5⟩
      rw [objAt_now] at f1
      rw [objAt_now, Tab.get_del, if_neg (fun e => hn ⟨rfl, e⟩), Tab.get_kill, f1]; rfl
  · cases ho : g.owner b with
    | none => simp [Gh.drop, ho]
    | some k =>
      rw [drop_owner.2 ⟨ho, fun s e => ?_⟩]
      cases hc : ds.contains s with
      | false => rfl
      | true => subst e; exact absurd (.inr (.inr ⟨_, s, Nat.le_refl _, ho⟩)) ht
  · show (if st.H.length = st.H.length ∧ ds.contains d = true then none else g.mu st.H.length d) = none
    exact if_pos ⟨rfl, List.contains_iff_mem.2 hd⟩
  · have := (drop_owner.1 e).2 d rfl
    rw [List.contains_iff_mem.2 hd] at this; cases this
  · show ((st.L.kill st.H.length ds).del ds).get d = none
    rw [Tab.get_del, if_pos (List.contains_iff_mem.2 hd)]
theorem drew_fr (hg : GOK w g) (lk n : Nat) : Fr lk n w g w.drew g := ⟨Nat.le_refl _, ⟨fun _ _ => Nat.le_refl _, fun _ _ _ _ => rfl, fun _ _ _ _ h => h⟩, fun _ _ _ => ⟨rfl, rfl, rfl⟩, fun _ _ _ h => .inl h, fun _ _ _ => rfl, fun _ _ _ _ h => h, hg.drew, rfl, rfl, rfl⟩
theorem SR.congr {st2 : St} (h : SR st g N a w) (hH : st2.H = st.H) (hT : ∀ t, st2.T.get t = st.T.get t) (hL : ∀ s, st2.L.get s = st.L.get s) : SR st2 g N a w := by
  have hobj : ∀ lv s, objAt (st2.H ++ [st2.L]) lv s = objAt (st.H ++ [st.L]) lv s := by
    intro lv s
    rw [hH]
    rcases Nat.lt_or_ge lv st.H.length with h1 | h1
    · rw [objAt_old h1, objAt_old h1]
    · by_cases h2 : lv = st.H.length
      · subst h2; rw [objAt_now, objAt_now, hL]
      · unfold objAt
        rw [List.getElem?_eq_none (by simp; omega), List.getElem?_eq_none (by simp; omega)]
  refine ⟨h.gok, h.hr.sub fun lv s o ho => by rw [← hobj]; exact ho, ⟨fun i => by rw [hT]; exact h.tr.v i, fun i => by rw [hT, hH]; exact h.tr.un i, fun i l s hi => ?_, fun i l lv s c hi => ?_⟩, h.n, h.df⟩
  · rw [hT] at hi; rw [hH]; exact h.tr.own i l s hi
  · rw [hT] at hi
    obtain ⟨cs, b, ccs, e, f1, f2⟩ := h.tr.cell i l lv s c hi
    exact ⟨cs, b, ccs, e, by rw [hobj]; exact f1, f2⟩
end
theorem apart_nodup : ∀ {l : List Tmp}, apartB l = true → l.Nodup
  | [], _ => List.nodup_nil
  | t :: l, h => by
    simp only [apartB, Bool.and_eq_true, Bool.not_eq_true'] at h
    exact List.nodup_cons.2 ⟨fun hm => by have := List.contains_iff_mem.2 hm; rw [this] at h; exact absurd h.1 (by decide), apart_nodup h.2⟩
theorem d_apart_aux : ∀ (l : List AOper) (i j : Nat) (x y : AOper) (d : Tmp), (l.filterMap (·.d)).Nodup → l[i]? = some x → l[j]? = some y → x.d = some d → y.d = some d → i = j
  | [], i, j, x, y, d, _, hi, _, _, _ => by simp at hi
  | o :: l, 0, 0, x, y, d, _, _, _, _, _ => rfl
  | o :: l, 0, j + 1, x, y, d, hn, hi, hj, hx, hy => by
    simp only [List.getElem?_cons_zero, Option.some.injEq] at hi
    simp only [List.getElem?_cons_succ] at hj
    subst hi
    rw [List.filterMap_cons_some hx] at hn
    exact absurd (List.mem_filterMap.2 ⟨y, List.mem_of_getElem? hj, hy⟩) (List.nodup_cons.1 hn).1
  | o :: l, i + 1, 0, x, y, d, hn, hi, hj, hx, hy => by
    simp only [List.getElem?_cons_zero, Option.some.injEq] at hj
    simp only [List.getElem?_cons_succ] at hi
    subst hj
    rw [List.filterMap_cons_some hy] at hn
    exact absurd (List.mem_filterMap.2 ⟨x, List.mem_of_getElem? hi, hx⟩) (List.nodup_cons.1 hn).1
  | o :: l, i + 1, j + 1, x, y, d, hn, hi, hj, hx, hy => by
    simp only [List.getElem?_cons_succ] at hi hj
    have h2 : (l.filterMap (·.d)).Nodup := by
      cases hd : o.d with
      | none => rwa [List.filterMap_cons_none hd] at hn
      | some t => rw [List.filterMap_cons_some hd] at hn; exact (List.nodup_cons.1 hn).2
    rw [d_apart_aux l i j x y d h2 hi hj hx hy]
theorem take_get {α : Type} {l : List α} {m i : Nat} (h : i < m) : (l.take m)[i]? = l[i]? := by
  rw [List.getElem?_take, if_pos h]
theorem mem_prods : ∀ {asn : List AOper} {m i : Nat} {oi : AOper} {d : Nat}, i < m → asn[i]? = some oi → oi.d = some d → prod oi.op = true → d ∈ prods m asn
  | [], m, i, oi, d, _, h, _, _ => by simp at h
  | o :: asn, 0, i, oi, d, hi, _, _, _ => by omega
  | o :: asn, m + 1, 0, oi, d, hi, h, hd, hp => by
    simp only [List.getElem?_cons_zero, Option.some.injEq] at h; subst h
    simp [prods, hd, hp]
  | o :: asn, m + 1, i + 1, oi, d, hi, h, hd, hp => by
    simp only [List.getElem?_cons_succ] at h
    have := mem_prods (m := m) (by omega) h hd hp
    simp only [prods]
    split
    · split
      · exact List.mem_cons_of_mem _ this
      · exact this
    · exact this
def A5 (n : Nat) (asn : List AOper) (rs : List (V × Option Ob)) (m : Nat) (listed : Array Bool) (a : Act) (w : World) (g : Gh) : Prop :=
  ∀ (i : Nat) (b : AOper) (s sz : Nat) (x y : X) (l : List V), i < m → listed.getD i false = true → asn[i]? = some b → b.op = .appN sz x y → b.d = some s → rs[i]? = some (.sl l .no, none) → (∀ (k : Nat) (c : AOper), k < m → asn[k]? = some c → s ∈ c.sees → listed.getD k false = false) → OwnOK w g (.cell n s 0) l (a.tmps.getD s undef)
structure Mid (st0 : St) (asn : List AOper) (rs : List (V × Option Ob)) (m lk N : Nat) (w0 : World) (g0 : Gh) (listed : Array Bool) (a : Act) (w : World) (st1 : St) (g : Gh) : Prop where
  sr : SR st1 g N a w
  fr : Fr lk st0.H.length w0 g0 w g
  hh : st1.H = st0.H
  a1 : ∀ (i : Nat) (oi : AOper) (r : V × Option Ob), i < m → listed.getD i false = true → asn[i]? = some oi → rs[i]? = some r → ∀ t, oi.d = some t → st1.T.get t = r.1 ∧ ∀ ob, r.2 = some ob → st1.L.get t = some ob
  a2 : ∀ t, (∀ (i : Nat) (oi : AOper), i < m → listed.getD i false = true → asn[i]? = some oi → oi.d ≠ some t) → st1.T.get t = st0.T.get t
  a3 : ∀ s, (∀ (i : Nat) (oi : AOper) (v : V) (ob : Ob), i < m → listed.getD i false = true → asn[i]? = some oi → rs[i]? = some (v, some ob) → oi.d ≠ some s) → st1.L.get s = st0.L.get s
  a5 : A5 st0.H.length asn rs m listed a w g
  a4 : ∀ (i : Nat) (oi : AOper) (d : Nat), i < m → listed.getD i false = false → asn[i]? = some oi → oi.d = some d → prod oi.op = true → g.mu st0.H.length d = none ∧ ∀ b, g.owner b ≠ some (.tmp st0.H.length d)
theorem Mid.next {st0 : St} {asn : List AOper} {rs : List (V × Option Ob)} {m lk N : Nat} {w0 w : World} {g0 g : Gh} {listed : Array Bool} {a a' : Act} {st1 : St} (h : Mid st0 asn rs m lk N w0 g0 listed a w st1 g) (hap : apartB (adsts (asn.take m)) = true) {i : Nat} (him : i < m) (hil : i < listed.size) {ao : AOper} (hao : asn[i]? = some ao) {r : V × Option Ob} (hr : rs[i]? = some r) {w' : World} {g' : Gh} (hs : SR { st1 with T := putD st1.T ao.d r.1, L := putL st1.L ao.d r.2 } g' N a' w') (hf : Fr lk st0.H.length w g w' g') (hmu : ∀ d, ao.d ≠ some d → g'.mu st0.H.length d = g.mu st0.H.length d) (how : ∀ b d, ao.d ≠ some d → g'.owner b = some (.tmp st0.H.length d) → g.owner b = some (.tmp st0.H.length d)) (h5 : A5 st0.H.length asn rs m (listed.setIfInBounds i true) a' w' g') :
    Mid st0 asn rs m lk N w0 g0 (listed.setIfInBounds i true) a' w' { st1 with T := putD st1.T ao.d r.1, L := putL st1.L ao.d r.2 } g' := by
  have hap' := fun (i j : Nat) (x y : AOper) (d : Nat) (hi : i < m) (hj : j < m) (hx : asn[i]? = some x) (hy : asn[j]? = some y) => d_apart_aux (asn.take m) i j x y d (apart_nodup hap) (by rw [take_get hi]; exact hx) (by rw [take_get hj]; exact hy)
  have hself : (listed.setIfInBounds i true).getD i false = true := by
    rw [Array.getD_eq_getD_getElem?, Array.getElem?_setIfInBounds_self_of_lt hil]; rfl
  have hoth : ∀ j, i ≠ j → (listed.setIfInBounds i true).getD j false = listed.getD j false := fun j e => getD_set_ne false e
  refine ⟨hs, h.fr.trans hf, h.hh, fun j oj rj hj hl ho hrj t ht => ?_, fun t ht => ?_, fun s hsn => ?_, h5, fun j oj d hj hl ho hd hp => ?_⟩
  · by_cases e : i = j
    · subst e
      rw [hao] at ho; cases ho
      rw [hr] at hrj; cases hrj
      refine ⟨?_, fun ob hob => ?_⟩
      · show (putD st1.T ao.d r.1).get t = _
        rw [putD_get, if_pos ht]
      · show (putL st1.L ao.d r.2).get t = _
        rw [putL_get, if_pos ⟨ht, by rw [hob]; rfl⟩, hob]
    · rw [hoth j e] at hl
      have hne : ao.d ≠ some t := fun e' => e (hap' i j ao oj t him hj hao ho e' ht)
      obtain ⟨q1, q2⟩ := h.a1 j oj rj hj hl ho hrj t ht
      refine ⟨?_, fun ob hob => ?_⟩
      · show (putD st1.T ao.d r.1).get t = _
        rw [putD_get, if_neg hne]; exact q1
      · show (putL st1.L ao.d r.2).get t = _
        rw [putL_get, if_neg (fun e => hne e.1)]; exact q2 ob hob
  · show (putD st1.T ao.d r.1).get t = _
    rw [putD_get, if_neg (ht i ao him hself hao)]
    refine h.a2 t fun j oj hj hl ho => ht j oj hj ?_ ho
    by_cases e : i = j
    · subst e; exact hself
    · rw [hoth j e]; exact hl
  · show (putL st1.L ao.d r.2).get s = _
    rw [putL_get, if_neg]
    · refine h.a3 s fun j oj v ob hj hl ho hrj => hsn j oj v ob hj ?_ ho hrj
      by_cases e : i = j
      · subst e; exact hself
      · rw [hoth j e]; exact hl
    · rintro ⟨e1, e2⟩
      obtain ⟨ob, hob⟩ := Option.isSome_iff_exists.1 e2
      obtain ⟨rv, rob⟩ := r
      simp only at hob
      subst hob
      exact hsn i ao rv ob him hself hao hr e1
  · by_cases e : i = j
    · subst e; rw [hself] at hl; cases hl
    · rw [hoth j e] at hl
      have hne : ao.d ≠ some d := fun e' => e (hap' i j ao oj d him hj hao ho e' hd)
      obtain ⟨q1, q2⟩ := h.a4 j oj d hj hl ho hd hp
      exact ⟨by rw [hmu d hne]; exact q1, fun b hb => q2 b (how b d hne hb)⟩
theorem A5.next {n m : Nat} {asn : List AOper} {rs : List (V × Option Ob)} {listed : Array Bool} {a a' : Act} {w w' : World} {g g' : Gh} (h : A5 n asn rs m listed a w g) (hap : apartB (adsts (asn.take m)) = true) {i : Nat} (him : i < m) (hil : i < listed.size) {ao : AOper} (hao : asn[i]? = some ao) (KS : Nat → Prop)
    (hk : ∀ b s, KS s → g.owner b = some (.cell n s 0) → w'.heap[b]? = w.heap[b]? ∧ g'.fix b = g.fix b ∧ g'.owner b = g.owner b)
    (hKS : ∀ s, (∀ (k : Nat) (c : AOper), k < m → asn[k]? = some c → s ∈ c.sees → (listed.setIfInBounds i true).getD k false = false) → KS s)
    (hnew : ∀ sz x y s l, ao.op = .appN sz x y → ao.d = some s → rs[i]? = some (.sl l .no, none) → OwnOK w' g' (.cell n s 0) l (a'.tmps.getD s undef))
    (ha : ∀ s, ao.d ≠ some s → a'.tmps.getD s undef = a.tmps.getD s undef) : A5 n asn rs m (listed.setIfInBounds i true) a' w' g' := by
  have hself : (listed.setIfInBounds i true).getD i false = true := by
    rw [Array.getD_eq_getD_getElem?, Array.getElem?_setIfInBounds_self_of_lt hil]; rfl
  have hoth : ∀ j, i ≠ j → (listed.setIfInBounds i true).getD j false = listed.getD j false := fun j e => getD_set_ne false e
  intro j b s sz x y l hj hl hb hop hd hr hun
  by_cases e : i = j
  · subst e
    rw [hao] at hb; cases hb
    exact hnew sz x y s l hop hd hr
  · rw [hoth j e] at hl
    have hne : ao.d ≠ some s := fun e' => e (d_apart_aux (asn.take m) i j ao b s (apart_nodup hap) (by rw [take_get him]; exact hao) (by rw [take_get hj]; exact hb) e' hd)
    rw [ha s hne]
    refine (h j b s sz x y l hj hl hb hop hd hr fun k c hkm hc hs => ?_).keep fun b' hb' => hk b' s (hKS s hun) hb'
    have := hun k c hkm hc hs
    by_cases e2 : i = k
    · subst e2; rw [hself] at this; cases this
    · rw [hoth k e2] at this; exact this
end Go.Proofs.YtlacnkjkcikodaaDoor.Am
end
section
set_option linter.unusedVariables false
set_option linter.unusedSimpArgs false
set_option linter.constructorNameAsVariable false
namespace Go.Proofs.YtlacnkjkcikodaaDoor.Am
open Go Go.RowKit
section
variable {P : Program} {eff : List FuncId} {nt : Nat} {ops : Array Go.Oper} {call : ACall} {lk N : Nat} {Q : Exit → Act → World → Prop}
theorem sees_spec {asn : List AOper} {m i j : Nat} (h : seesB ops asn m = true) (hi : i < m) (hj : j < m) {o x : AOper} (ho : asn[i]? = some o) (hx : asn[j]? = some x) {d : Nat} (hd : x.d = some d) (hs : d ∈ o.sees) : i = j ∨ j ∈ direct ops i := by
  have h1 := List.all_eq_true.1 h i (List.mem_range.2 hi)
  rw [ho] at h1
  have h2 := List.all_eq_true.1 h1 j (List.mem_range.2 hj)
  rw [hx] at h2
  simp only [hd, Bool.or_eq_true, beq_iff_eq, Bool.not_eq_true', List.contains_iff_mem] at h2
  rcases h2 with (h2 | h2) | h2
  · exact .inl h2
  · rw [List.contains_iff_mem.2 hs] at h2; cases h2
  · exact .inr h2
theorem guards_spec {m i : Nat} (h : guardsB ops m = true) (hi : i < m) {o : Go.Oper} (ho : ops[i]? = some o) {j : Nat} {w : Bool} (hg : o.guard = some (j, w)) : j ∈ direct ops i := by
  have h1 := List.all_eq_true.1 h i (List.mem_range.2 hi)
  rw [ho] at h1
  simp only [hg, List.contains_iff_mem] at h1
  exact h1
theorem wants_agree {T T' : Tm} {g : Option (Nat × Bool)} (h : ∀ s w, g = some (s, w) → T.get s = T'.get s) : wants T g = wants T' g := by
  cases g with
  | none => rfl
  | some p => obtain ⟨s, w⟩ := p; simp only [wants]; rw [h s w rfl]
theorem agree_of {T T' : Tm} {o : AOper} (h : ∀ t, t ∈ o.sees → T.get t = T'.get t) : Agree T T' o.op.xs := by
  intro x hx
  cases x with
  | c v => rfl
  | t i => exact h i (List.mem_filterMap.2 ⟨.t i, hx, rfl⟩)
theorem direct_lt {i j : Nat} (hah : aheadB ops = true) (h : j ∈ direct ops i) : j < i := by
  unfold direct at h
  split at h
  · rename_i o ho
    obtain ⟨e, he, h2⟩ := List.mem_filterMap.1 h
    split at h2
    · rename_i hb
      cases h2
      exact ahead_spec hah ho (by simpa using he) hb
    · cases h2
  · cases h
theorem opOf_app {par : Bool} {o : Go.Oper} {op : AOp} (h : opOf P eff par o = some op) : ¬ ((∃ sz x y, op = .appN sz x y) ∨ ∃ sz x y, op = .appF sz x y) := by
  rintro (⟨sz, x, y, rfl⟩ | ⟨sz, x, y, rfl⟩) <;> unfold opOf at h <;> split at h <;> repeat' (first | (cases h; done) | (obtain ⟨_, _, h2⟩ := Option.map_eq_some_iff.1 h; cases h2; done) | (obtain ⟨_, _, h2⟩ := Option.map_eq_some_iff.1 h; (split at h2 <;> cases h2); done) | split at h)
theorem pop_makes {st : St} {T : Tm} {d : Option Nat} {op : AOp} {v : V} {ob : Ob} (h : pop call st T d op = some (v, some ob)) : prod op = true := by
  cases op <;> first | rfl | (exfalso; simp [pop, makes] at h)
structure ChainOK (ops : Array Go.Oper) (asn : List AOper) (m : Nat) : Prop where
  f : ∀ (j : Nat) (o : AOper) (sz : Nat) (x y : X), j < m → asn[j]? = some o → o.op = .appF sz x y → ∃ (s i : Nat) (b : AOper) (sz' : Nat) (x' y' : X), x = .t s ∧ i ∈ direct ops j ∧ i < m ∧ asn[i]? = some b ∧ b.d = some s ∧ b.op = .appN sz' x' y'
  n : ∀ (i : Nat) (b : AOper) (sz : Nat) (x y : X) (s : Nat), i < m → asn[i]? = some b → b.op = .appN sz x y → b.d = some s → ∀ (k : Nat) (c : AOper), k < m → asn[k]? = some c → s ∈ c.sees → ∀ (k' : Nat) (c' : AOper), k' < m → asn[k']? = some c' → s ∈ c'.sees → k = k'
theorem chain_spec {asn : List AOper} {m : Nat} (h : chainB ops asn m = true) : ChainOK ops asn m := by
  unfold chainB at h
  rw [List.all_eq_true] at h
  refine ⟨fun j o sz x y hj ho hop => ?_, fun i b sz x y s hi hb hop hd k c hk hc hs k' c' hk' hc' hs' => ?_⟩
  · have := h j (List.mem_range.2 hj)
    rw [ho] at this
    simp only [hop] at this
    cases x with
    | c v => simp at this
    | t s =>
      simp only [Bool.and_eq_true, List.any_eq_true, List.mem_range] at this
      obtain ⟨-, i, him, hid, hb⟩ := this
      cases hbi : asn[i]? with
      | none => rw [hbi] at hb; simp at hb
      | some b =>
        rw [hbi] at hb
        simp only [Bool.and_eq_true, beq_iff_eq] at hb
        obtain ⟨hbd, hbo⟩ := hb
        cases hbop : b.op with
        | appN sz' x' y' => exact ⟨s, i, b, sz', x', y', rfl, by simpa using hid, him, hbi, hbd, hbop⟩
        | _ => rw [hbop] at hbo; simp at hbo
  · have := h i (List.mem_range.2 hi)
    rw [hb] at this
    simp only [hop, hd, List.all_eq_true, List.mem_range] at this
    have h1 := this k hk
    rw [hc] at h1
    have hcs : c.sees.contains s = true := by simpa using hs
    simp only [hcs, Bool.not_true, Bool.false_or, Bool.and_eq_true, List.all_eq_true, List.mem_range] at h1
    have h2 := h1.2 k' hk'
    rw [hc'] at h2
    have hcs' : c'.sees.contains s = true := by simpa using hs'
    simp only [hcs', Bool.not_true, Bool.or_false, beq_iff_eq] at h2
    exact h2.symm
theorem code_or {id : Nat} {draw : Bool} {c : ACode} (h : codeOf P eff nt (.region id ops draw) = some c) : (∃ m, draw = true ∧ regR P eff nt ops m = some c) ∨ regD P eff nt ops draw = some c := by
  simp only [codeOf] at h
  split at h
  · rename_i c' hc
    cases h
    split at hc
    · rename_i hd; exact .inl ⟨_, by simpa using hd, hc⟩
    · cases hc
  · exact .inr h
theorem code_reg {draw : Bool} {c : ACode} (h : regD P eff nt ops draw = some c) : ∃ m as0, c = .reg m (chainOf m as0) ∧ opersOf P eff nt ops m ops.toList = some as0 ∧ m = (if draw then tailFrom ops ops.size else 0) ∧ (draw = true → drawsB ops (chainOf m as0) m = true ∧ chainB ops (chainOf m as0) m = true) := by
  cases draw with
  | false =>
    simp only [regD, Bool.false_eq_true, if_false, Bool.not_false, Bool.true_or, if_true] at h
    split at h
    · rename_i asn hop
      cases h
      exact ⟨0, asn, rfl, hop, rfl, fun e => by cases e⟩
    · cases h
  | true =>
    simp only [regD, if_true, Bool.not_true, Bool.false_or, Bool.and_eq_true] at h
    split at h
    · rename_i asn hop
      split at h
      · rename_i hd
        cases h
        exact ⟨_, asn, rfl, hop, rfl, fun _ => hd⟩
      · cases h
    · cases h
theorem code_regR {m0 : Nat} {c : ACode} (h : regR P eff nt ops m0 = some c) : ∃ as0, c = .reg m0 (chainOf m0 as0) ∧ opersOf P eff nt ops m0 ops.toList = some as0 ∧ relaxB ops (chainOf m0 as0) m0 = true ∧ isAppAt (chainOf m0 as0) m0 = true ∧ chainB ops (chainOf m0 as0) m0 = true := by
  unfold regR at h
  split at h
  case h_2 => cases h
  rename_i as0 hop
  split at h
  case isFalse => cases h
  rename_i hd
  cases h
  simp only [Bool.and_eq_true] at hd
  exact ⟨as0, rfl, hop, hd.1.1.2, hd.1.2, hd.2⟩
theorem code_isReg {id : Nat} {draw : Bool} {c : ACode} (h : codeOf P eff nt (.region id ops draw) = some c) : ∃ m asn, c = .reg m asn := by
  rcases code_or h with ⟨m, -, h⟩ | h
  · obtain ⟨as0, e, -⟩ := code_regR h; exact ⟨_, _, e⟩
  · obtain ⟨m, as0, e, -⟩ := code_reg h; exact ⟨_, _, e⟩
theorem app_sim {sz d : Nat} {x y : X} {sA s1 sB : St} (U : Nat → Prop) (hH : s1.H = sA.H) (hL : ∀ s, s1.L.get s = sA.L.get s) (hT : ∀ t, ¬U t → s1.T.get t = sA.T.get t) (hx : ∀ t, x.tmp? = some t → ¬U t) (hy : ∀ t, y.tmp? = some t → ¬U t) (h : sop call lk sA (some d) (.app sz x y) = some sB) :
    ∃ s2, sop call lk s1 (some d) (.app sz x y) = some s2 ∧ s2.H = sB.H ∧ (∀ s, s2.L.get s = sB.L.get s) ∧ (∀ t, ¬U t → s2.T.get t = sB.T.get t) ∧ ∃ f : V → V, ∀ t, t ≠ d → sB.T.get t = f (sA.T.get t) := by
  have ex : ∀ z : X, (∀ t, z.tmp? = some t → ¬U t) → z.ev s1.T = z.ev sA.T := fun z hz => by
    cases z with
    | t i => exact hT i (hz i rfl)
    | c v => rfl
  have hstrip : ∀ p, V.strip p .any = .any := fun _ => rfl
  have hTT : ∀ (p : Tag → Bool) (v : V) (t : Nat), ¬U t → ((s1.T.mapV (V.strip p)).set d v).get t = ((sA.T.mapV (V.strip p)).set d v).get t := fun p v t ht => by
    rw [Tm.get_set_if, Tm.get_set_if, Tm.get_mapV _ (hstrip p), Tm.get_mapV _ (hstrip p), hT t ht]
  have hF : ∀ (p : Tag → Bool) (v : V) (t : Nat), t ≠ d → ((sA.T.mapV (V.strip p)).set d v).get t = V.strip p (sA.T.get t) := fun p v t ht => by
    rw [Tm.get_set_if, if_neg ht, Tm.get_mapV _ (hstrip p)]
  have hobj : ∀ lv s, s1.obj lv s = sA.obj lv s := fun lv s => by
    unfold St.obj; rw [hH, hL]
  simp only [sop] at h ⊢
  rw [ex x hx, ex y hy]
  cases hxv : x.ev sA.T with
  | sl l t =>
    rw [hxv] at h
    simp only at h ⊢
    cases hm : appL sz l (y.ev sA.T) with
    | none => rw [hm] at h; cases h
    | some m =>
      rw [hm] at h
      simp only at h ⊢
      cases t with
      | nil => cases h; exact ⟨_, rfl, hH, hL, hTT _ _, _, hF _ _⟩
      | full => cases h; exact ⟨_, rfl, hH, hL, hTT _ _, _, hF _ _⟩
      | own s => cases h; exact ⟨_, rfl, hH, hL, hTT _ _, _, hF _ _⟩
      | cell lv s c =>
        simp only at h ⊢
        rw [hobj]
        cases ho : sA.obj lv s with
        | none => rw [ho] at h; cases h
        | some ob =>
          rw [ho] at h
          simp only at h ⊢
          cases hd : dropHeld ob c with
          | none => rw [hd] at h; cases h
          | some ob' =>
            rw [hd] at h
            simp only at h ⊢
            by_cases hlk : lk ≤ lv
            · rw [if_pos hlk] at h ⊢
              cases h
              refine ⟨_, rfl, ?_, ?_, ?_, V.strip (isCellOwn lv s c d), ?_⟩
              all_goals unfold St.setObj
              all_goals simp only [hH]
              all_goals (cases Nat.beq lv sA.H.length)
              all_goals simp only [cond_true, cond_false, hH]
              · exact hL
              · intro s'; rw [Tab.get_set_if, Tab.get_set_if, hL]
              · exact hTT _ _
              · exact hTT _ _
              · exact hF _ _
              · exact hF _ _
            · rw [if_neg hlk] at h; cases h
      | no => cases h
      | nn => cases h
      | held => cases h
  | _ => rw [hxv] at h; cases h
theorem mid_step (hC : CallSound P call) {asn : List AOper} (hN : nt ≤ N) (hops : ∀ (i : Nat) (o : Go.Oper), ops[i]? = some o → ∃ ao, asn[i]? = some ao ∧ OperOK P eff nt ops o ao) {m : Nat} (hm : m ≤ ops.size) (hap : apartB (adsts (asn.take m)) = true) (hsee : seesB ops asn m = true) (hgd : guardsB ops m = true) (hah : aheadB ops = true) (hch : ChainOK ops asn m)
    {st0 : St} {rs : List (V × Option Ob)} {T' : Tm} {L' : Tab} (hsp : ParSpec call st0 (asn.take m) st0.T st0.L rs T' L') (hnoL : ∀ d ∈ prods m asn, st0.L.get d = none) (hlk : lk ≤ st0.H.length) {w0 w : World} {g0 g : Gh} {listed : Array Bool} {a : Act} {st1 : St} (h : Mid st0 asn rs m lk N w0 g0 listed a w st1 g) {i : Nat} {o : Go.Oper} (hls : listed.size = ops.size) (him : i < m) (ho : ops[i]? = some o) (hli : listed.getD i false = false) (hdep : ∀ j ∈ direct ops i, listed.getD j false = true) (K : Act → World → Prop)
    (hK : ∀ a' w', (∃ st1 g, Mid st0 asn rs m lk N w0 g0 (listed.setIfInBounds i true) a' w' st1 g) → K a' w') : if Region.wanted o (yielded ops a.tmps) = true then o.wp P a w K Q else K (a.put o.dst undef) w := by
  obtain ⟨ao, hao, hok⟩ := hops i o ho
  have haot : (asn.take m)[i]? = some ao := by rw [take_get him]; exact hao
  obtain ⟨r, Ti, hri, hone, hTi⟩ := hsp.one i ao haot
  have hap' := fun (i j : Nat) (x y : AOper) (d : Nat) (hi : i < m) (hj : j < m) (hx : asn[i]? = some x) (hy : asn[j]? = some y) => d_apart_aux (asn.take m) i j x y d (apart_nodup hap) (by rw [take_get hi]; exact hx) (by rw [take_get hj]; exact hy)
  have hget : ∀ t, (∀ j oj, j < m → asn[j]? = some oj → oj.d = some t → i = j ∨ j ∈ direct ops i) → Ti.get t = st1.T.get t := by
    intro t ht
    rcases hTi t with ⟨j, oj, rj, hj, hoj, hd, hrj, e⟩ | ⟨hno, e⟩
    · have hjm : j < m := by omega
      rw [take_get hjm] at hoj
      rcases ht j oj hjm hoj hd with h1 | h1
      · omega
      · rw [e, (h.a1 j oj rj hjm (hdep j h1) hoj hrj t hd).1]
    · rw [e, h.a2 t fun j oj hj hl hoj hd => ?_]
      rcases ht j oj hj hoj hd with h1 | h1
      · subst h1; rw [hli] at hl; cases hl
      · exact hno j oj (direct_lt hah h1) (by rw [take_get hj]; exact hoj) hd
  have hag : Agree Ti st1.T ao.op.xs := agree_of fun t ht => hget t fun j oj hj hoj hd => sees_spec hsee him hj hao hoj hd ht
  have hwg : wants Ti ao.g = wants st1.T ao.g := wants_agree fun s b hg => hget s fun j oj hj hoj hd => by
    rcases hok.g with ⟨h1, h2⟩ | ⟨j', w', s', x, h1, h2, h3, h4⟩
    · rw [h2] at hg; cases hg
    · rw [h4] at hg; cases hg
      have hj' := guards_spec hgd him ho h1
      have hlt := direct_lt hah hj'
      obtain ⟨ao', hao', hok'⟩ := hops j' x h2
      have : j' = j := hap' j' j ao' oj s (by omega) hj hao' hoj (by rw [hok'.d]; exact h3) hd
      subst this
      exact .inr hj'
  have hil : i < listed.size := by omega
  have hHl : st1.H.length = st0.H.length := by rw [h.hh]
  have hdN : ∀ d, o.dst = some d → d < N := fun d hd => Nat.lt_of_lt_of_le (hok.lt d hd) hN
  obtain ⟨par, op0, hop, hvar⟩ := hok.op
  have hobjk : ∀ lv s ob, objAt (st0.H ++ [st0.L]) lv s = some ob → objAt (st1.H ++ [st1.L]) lv s = some ob := fun lv s ob hob => by
    rw [h.hh]
    rcases Nat.lt_or_ge lv st0.H.length with h3 | h3
    · rw [objAt_old h3] at hob ⊢; exact hob
    · have h4 := objAt_lt hob
      simp only [List.length_append, List.length_singleton] at h4
      obtain rfl : lv = st0.H.length := by omega
      rw [objAt_now] at hob ⊢
      rw [h.a3 s fun j oj v ob' hj hl hoj hrj hd => ?_]
      · exact hob
      ·
        obtain ⟨r', Tj, e1, e2, -⟩ := hsp.one j oj (by rw [take_get hj]; exact hoj)
        rw [hrj] at e1; cases e1
        have hpr : prod oj.op = true := by
          rcases e2 with ⟨-, e2⟩ | ⟨-, e2⟩
          · exact pop_makes e2
          · cases e2
        rw [hnoL s (mem_prods hj hoj hd hpr)] at hob
        cases hob
  have hput : ∀ x s, ao.d ≠ some s → (a.put o.dst x).tmps.getD s Go.undef = a.tmps.getD s Go.undef := fun x s hs => by
    rw [← hok.d]
    cases hd : ao.d with
    | none => rfl
    | some d => rw [getD_put a d x (by rw [h.sr.n]; exact hdN d (by rw [← hok.d]; exact hd)), if_neg (fun e => hs (by rw [hd, e]))]
  rcases hone with ⟨h1, h2⟩ | ⟨h1, h2⟩
  · rw [if_pos (wants_sound h.sr.tr.v hok (by rw [← hwg]; exact h1))]
    rw [hok.d] at h2
    obtain ⟨rv, rob⟩ := r
    rcases hvar with e | ⟨sz, X, Y, e0, e | e⟩
    ·
      subst e
      by_cases hnot : ∀ sz x y, ao.op ≠ .appN sz x y ∧ ao.op ≠ .appF sz x y
      · refine par_step (lk := lk) hC h.sr h.hh hobjk hag hop (by rw [hHl]; exact hlk) hdN h2 hnot (fun hp d hd => ?_) K Q fun g' a' w' x ha hs hf hmu how hck => hK a' w' ⟨_, g', h.next hap him hil hao hri (by rw [hok.d]; exact hs) (by rw [← hHl]; exact hf) (by rw [hok.d, ← hHl]; exact hmu) (by rw [hok.d, ← hHl]; exact how) (h.a5.next hap him hil hao (fun _ => True) (fun b s _ hb => hck b s (by rw [hHl]; exact hb)) (fun _ _ => trivial) (fun sz x y s l e => absurd e (hnot sz x y).1) (fun s hs => by rw [ha]; exact hput x s hs))⟩
        rw [hHl]
        exact h.a4 i ao d him hli hao (by rw [hok.d]; exact hd) hp
      · exfalso
        exact hnot fun sz x y => ⟨fun e => by rw [e] at hop; exact opOf_app hop (.inl ⟨_, _, _, rfl⟩), fun e => by rw [e] at hop; exact opOf_app hop (.inr ⟨_, _, _, rfl⟩)⟩
    ·
      subst e0
      rw [e] at h2
      simp only [pop] at h2
      split at h2
      case h_2 => cases h2
      rename_i d l tg hd hX
      split at h2
      case h_2 => cases h2
      rename_i m' hm'
      have htg : (tg = .nil ∨ tg = .full) ∧ rv = .sl (l ++ m') .no ∧ rob = none := by
        split at h2 <;> cases h2
        · exact ⟨.inl rfl, rfl, rfl⟩
        · exact ⟨.inr rfl, rfl, rfl⟩
      obtain ⟨htg, rfl, rfl⟩ := htg
      have hX1 := hag X (by rw [e]; simp [AOp.xs])
      have hY1 := hag Y (by rw [e]; simp [AOp.xs])
      rw [hX1] at hX; rw [hY1] at hm'
      have hfree := (h.a4 i ao d him hli hao (by rw [hok.d]; exact hd) (by rw [e]; rfl)).2
      refine par_appG (k := .tmp st1.H.length d) (kd := .cell st1.H.length d 0) h.sr hd (hdN d hd) hop hX hm' (by rw [hHl]; exact hlk) (fun v hcv _ => free_own htg hcv) (.inl (by rw [hHl]; exact hfree)) (.inr ⟨rfl, rfl⟩) K Q fun g' a' w' x ha hs hf hmu how hck hown => hK a' w' ⟨_, g', h.next hap him hil hao hri (by rw [hok.d, hd]; exact hs) (by rw [← hHl]; exact hf) (by rw [hok.d, ← hHl]; exact hmu) (by rw [hok.d, ← hHl]; exact how) (h.a5.next hap him hil hao (fun _ => True) (fun b s _ hb => hck b s (by intro e; cases e) (by rw [hHl]; exact hb)) (fun _ _ => trivial) (fun sz' x' y' s l' e1 e2 e3 => ?_) (fun s hs => by rw [ha]; exact hput x s hs))⟩
      rw [hok.d, hd] at e2; cases e2
      rw [hri] at e3; cases e3
      rw [ha, hd, getD_put a d x (by rw [h.sr.n]; exact hdN d hd), if_pos rfl, ← hHl]
      exact hown
    ·
      subst e0
      obtain ⟨s, ib, b, sz', x', y', rfl, hib, hibm, hbb, hbd, hbop⟩ := hch.f i ao sz X Y him hao e
      have hsee1 : s ∈ ao.sees := by simp [AOper.sees, e, AOp.xs, X.tmp?]
      rw [e] at h2
      simp only [pop] at h2
      split at h2
      case h_2 => cases h2
      rename_i d l hd hX
      split at h2
      case h_2 => cases h2
      rename_i m' hm'
      cases h2
      have hX1 := hag (.t s) (by rw [e]; simp [AOp.xs])
      have hY1 := hag Y (by rw [e]; simp [AOp.xs])
      rw [hX1] at hX; rw [hY1] at hm'
      have hbl := hdep ib hib
      obtain ⟨rb, Tb, hrb, honeb, -⟩ := hsp.one ib b (by rw [take_get hibm]; exact hbb)
      have hval := (h.a1 ib b rb hibm hbl hbb hrb s hbd).1
      have hX' : st1.T.get s = .sl l .no := hX
      rw [hX'] at hval
      have hrbe : rb = (.sl l .no, none) := by
        obtain ⟨v, ob⟩ := rb
        simp only at hval
        subst hval
        rcases honeb with ⟨-, hb2⟩ | ⟨-, hb2⟩
        · rw [hbop] at hb2
          simp only [pop] at hb2
          split at hb2
          case h_2 => cases hb2
          split at hb2
          case h_2 => cases hb2
          split at hb2 <;> cases hb2 <;> rfl
        · cases hb2
      subst hrbe
      have hown := h.a5 ib b s sz' x' y' l hibm hbl hbb hbop hbd hrb fun k c hkm hc hs => by
        have := hch.n ib b sz' x' y' s hibm hbb hbop hbd k c hkm hc hs i ao him hao hsee1
        rw [this]; exact hli
      have hnoS : objAt (st1.H ++ [st1.L]) st1.H.length s = none := by
        rw [objAt_now, h.a3 s fun j oj v ob hj hl hoj hrj hd2 => ?_]
        · exact hnoL s (mem_prods hibm hbb hbd (by rw [hbop]; rfl))
        · have : j = ib := hap' j ib oj b s hj hibm hoj hbb hd2 hbd
          subst this
          rw [hrb] at hrj; cases hrj
      refine par_appG (k := .cell st1.H.length s 0) (kd := .tmp st1.H.length d) h.sr hd (hdN d hd) hop hX hm' (by rw [hHl]; exact hlk) (fun v _ hv => by rw [hv s rfl, hHl]; exact hown) (.inr ⟨s, rfl, hnoS⟩) (.inl ⟨rfl, rfl⟩) K Q fun g' a' w' x ha hs hf hmu how hck _ => hK a' w' ⟨_, g', h.next hap him hil hao hri (by rw [hok.d, hd]; exact hs) (by rw [← hHl]; exact hf) (by rw [hok.d, ← hHl]; exact hmu) (by rw [hok.d, ← hHl]; exact how) (h.a5.next hap him hil hao (fun s' => s' ≠ s) (fun b s' hne hb => hck b s' (by intro e; cases e; exact hne rfl) (by rw [hHl]; exact hb)) (fun s' hs' e' => ?_) (fun sz2 x2 y2 s2 l2 e1 => by rw [e] at e1; cases e1) (fun s hs => by rw [ha]; exact hput x s hs))⟩
      subst e'
      have := hs' i ao him hao hsee1
      rw [Array.getD_eq_getD_getElem?, Array.getElem?_setIfInBounds_self_of_lt hil] at this; cases this
  · rw [if_neg (by rw [wants_sound h.sr.tr.v hok (by rw [← hwg]; exact h1)]; simp)]
    subst h2
    refine hK _ _ ⟨_, g, h.next hap him hil hao hri ?_ (.refl _ _ h.sr.gok) (fun _ _ => rfl) (fun _ _ _ e => e) (h.a5.next hap him hil hao (fun _ => True) (fun _ _ _ _ => ⟨rfl, rfl, rfl⟩) (fun _ _ => trivial) (fun _ _ _ s l _ _ e => by rw [hri] at e; cases e) (fun s hs => hput _ s hs))⟩
    rw [hok.d]
    have : putL st1.L o.dst none = st1.L := by cases o.dst <;> rfl
    rw [this]
    exact h.sr.undef hdN
theorem tailFrom_le : ∀ k, tailFrom ops k ≤ k
  | 0 => Nat.le_refl _
  | k + 1 => by
    simp only [tailFrom]
    split
    · exact Nat.le_trans (tailFrom_le k) (Nat.le_succ k)
    · exact Nat.le_refl _
theorem region_relaxed (hC : CallSound P call) (hmix : P.follows .mixedOrders = true) (hN : nt ≤ N) {id m0 m : Nat} {asn : List AOper} (hcode : regR P eff nt ops m0 = some (.reg m asn)) {st st' : St} {g : Gh} {a : Act} {w : World} (h : SR st g N a w) (hlk : lk ≤ st.H.length) (hrun : runReg call lk m asn st = some st')
    (hk : ∀ g' a' w', SR st' g' N a' w' → Fr lk st.H.length w g w' g' → Q .normal a' w') : (Code.region id ops true).wp P Q a w := by
  obtain ⟨as0, e, hopers, hrx, hap0, hchb⟩ := code_regR hcode
  have e1 : m = m0 := by cases e; rfl
  have e2 : asn = chainOf m0 as0 := by cases e; rfl
  subst e1
  rw [← e2] at hrx hap0 hchb
  obtain ⟨hlen, hops⟩ := opersOf_spec hopers
  obtain ⟨hlen, hops⟩ := chainOf_ok (m := m) (asn := as0) (by simpa using hlen) fun i o ho => hops i o (by simpa using ho)
  rw [← e2] at hlen hops
  have hch := chain_spec hchb
  simp only [relaxB, Bool.and_eq_true] at hrx
  obtain ⟨⟨⟨⟨⟨⟨⟨hm0, hms⟩, hah⟩, hap1⟩, htl⟩, hsee1⟩, hgd⟩, hwt⟩ := hrx
  have hm0 : 0 < m := by simpa [Nat.blt_eq] using hm0
  have hms : m < ops.size := by simpa [Nat.blt_eq] using hms
  have hmle : m ≤ ops.size := Nat.le_of_lt hms
  have hsee : seesB ops asn m = true := by
    unfold seesB at hsee1 ⊢
    rw [List.all_eq_true] at hsee1 ⊢
    intro i hi
    have h1 := hsee1 i (List.mem_range.2 (Nat.lt_succ_of_lt (List.mem_range.1 hi)))
    split at h1
    · rename_i o ho
      rw [List.all_eq_true] at h1 ⊢
      exact fun j hj => h1 j (List.mem_range.2 (Nat.lt_succ_of_lt (List.mem_range.1 hj)))
    · rfl
  have hnd1 := apart_nodup hap1
  have hap : apartB (adsts (asn.take m)) = true := by
    have : ∀ l : List Tmp, l.Nodup → apartB l = true := fun l => by
      induction l with
      | nil => intro _; rfl
      | cons t l ih => intro h; rw [List.nodup_cons] at h; simp [apartB, ih h.2, h.1]
    refine this _ (List.Sublist.nodup ?_ hnd1)
    unfold adsts
    refine List.Sublist.filterMap _ ?_
    have e : asn.take m = (asn.take (m + 1)).take m := by rw [List.take_take, Nat.min_eq_left (Nat.le_succ m)]
    rw [e]
    exact List.take_sublist _ _
  have hap' := fun (i j : Nat) (x y : AOper) (d : Nat) (hi : i < m + 1) (hj : j < m + 1) (hx : asn[i]? = some x) (hy : asn[j]? = some y) => d_apart_aux (asn.take (m + 1)) i j x y d hnd1 (by rw [take_get hi]; exact hx) (by rw [take_get hj]; exact hy)
  obtain ⟨am, dm, sz, xm, ym, ham, eam⟩ : ∃ (am : AOper) (dm sz : Nat) (xm ym : X), asn[m]? = some am ∧ am = ⟨some dm, none, .app sz xm ym⟩ := by
    unfold isAppAt at hap0
    split at hap0
    · rename_i dm sz xm ym hh; exact ⟨_, dm, sz, xm, ym, hh, rfl⟩
    · cases hap0
  have hfree : ∀ j, freeB asn m j = true → ∃ (aj : AOper) (d x : Nat), asn[j]? = some aj ∧ aj = ⟨some d, none, .mv (.t x)⟩ ∧ ∀ i oi, i < m + 1 → asn[i]? = some oi → oi.d ≠ some x := fun j hj => by
    unfold freeB at hj
    split at hj
    · rename_i d x hh
      refine ⟨_, d, x, hh, rfl, fun i oi hi hoi hd => ?_⟩
      have : x ∈ adsts (asn.take (m + 1)) := List.mem_filterMap.2 ⟨oi, List.mem_of_getElem? (by rw [take_get hi]; exact hoi), hd⟩
      simp [this] at hj
    · cases hj
  obtain ⟨g1, hs1, hf1, hd1, hH1, hL1⟩ := (h.keep (drew_fr h.gok (st.H.length + 1) (st.H.length + 1))).prep lk hlk (prods m asn)
  have hfw : Fr lk st.H.length w g w.drew g1 := (drew_fr h.gok lk st.H.length).trans hf1
  refine wp_region_any hmix ?_
  have hun : ∀ j, (Array.replicate ops.size false).getD j false = false := fun j => by
    rw [Array.getD_eq_getD_getElem?, Array.getElem?_replicate]
    split <;> rfl
  have hcount : (Array.replicate ops.size false).toList.count false = ops.size := by simp
  obtain ⟨k, rfl⟩ : ∃ k, m = k + 1 := ⟨m - 1, by omega⟩
  generalize hm : k + 1 = m at *
  have hrun : (match parOps call (st.prep (prods m asn)) (asn.take m) (st.prep (prods m asn)).T (st.prep (prods m asn)).L with
    | some (T, L) => seqOps call lk (asn.drop m) { (st.prep (prods m asn)) with T := T, L := L }
    | none => none) = some st' := by subst hm; exact hrun
  generalize hst0 : st.prep (prods m asn) = st0 at hrun hs1 hH1 hL1
  split at hrun
  case h_2 => cases hrun
  rename_i T' L' hpar
  obtain ⟨rs, hsp⟩ := parOps_spec hpar
  have hlk0 : lk ≤ st0.H.length := by rw [hH1]; exact hlk
  have hHl : st0.H.length = st.H.length := by rw [hH1]
  obtain ⟨sA, hsA⟩ : ∃ sA : St, sA = { st0 with T := T', L := L' } := ⟨_, rfl⟩
  rw [← hsA] at hrun
  have hdm : asn.drop m = am :: asn.drop (m + 1) := by
    have h1 : m < asn.length := by omega
    rw [List.drop_eq_getElem_cons h1]
    rw [List.getElem?_eq_getElem h1] at ham
    rw [Option.some.inj ham]
  rw [hdm] at hrun
  obtain ⟨sB, hsB, hrun2⟩ : ∃ sB, sop call lk sA (some dm) (.app sz xm ym) = some sB ∧ seqOps call lk (asn.drop (m + 1)) sB = some st' := by
    simp only [seqOps, eam, wants] at hrun
    split at hrun
    · rename_i s hs; exact ⟨s, hs, hrun⟩
    · cases hrun
  have hAl : sA.H.length = st.H.length := by rw [hsA]; exact hHl
  have hBl : sB.H.length = st.H.length := by rw [← hAl]; exact (sop_lock hC (by rw [hAl]; exact hlk) hsB).1
  have hTA : ∀ t, sA.T.get t = T'.get t := fun t => by rw [hsA]
  have hnoW : ∀ x, (∀ i oi, i < m + 1 → asn[i]? = some oi → oi.d ≠ some x) → sA.T.get x = st0.T.get x := fun x hx => by
    rw [hTA]
    rcases hsp.t x with ⟨j, oj, rj, hoj, hd, hrj, e⟩ | ⟨hno, e⟩
    · have hjm : j < m := by
        rcases Nat.lt_or_ge j m with h1 | h1
        · exact h1
        · rw [List.getElem?_take, if_neg (by omega)] at hoj; cases hoj
      rw [take_get hjm] at hoj
      exact absurd hd (hx j oj (by omega) hoj)
    · exact e
  obtain ⟨_, _, _, _, _, fB, hfB⟩ := app_sim (fun _ => False) (s1 := sA) rfl (fun _ => rfl) (fun _ _ => rfl) (fun _ _ h => h) (fun _ _ h => h) hsB
  have hfreeB : ∀ j d x, j < m → asn[j]? = some ⟨some d, none, .mv (.t x)⟩ → (∀ i oi, i < m + 1 → asn[i]? = some oi → oi.d ≠ some x) → sB.T.get d = sB.T.get x := fun j d x hj hoj hx => by
    have hdd : d ≠ dm := fun e => by
      have := hap' j m _ am d (by omega) (by omega) hoj ham rfl (by rw [eam, e])
      omega
    have hxd : x ≠ dm := fun e => hx m am (by omega) ham (by rw [eam, e])
    rw [hfB d hdd, hfB x hxd, hnoW x hx]
    obtain ⟨r, Tj, hrj, hone, hTj⟩ := hsp.one j _ (by rw [take_get hj]; exact hoj)
    have hv : sA.T.get d = r.1 := by
      rw [hTA]
      rcases hsp.t d with ⟨i, oi, ri, hoi, hdi, hri, e⟩ | ⟨hno, e⟩
      · have him : i < m := by
          rcases Nat.lt_or_ge i m with h1 | h1
          · exact h1
          · rw [List.getElem?_take, if_neg (by omega)] at hoi; cases hoi
        rw [take_get him] at hoi
        have : i = j := hap' i j oi _ d (by omega) (by omega) hoi hoj hdi rfl
        subst this
        rw [hrj] at hri; cases hri; exact e
      · exact absurd rfl (hno j _ (by rw [take_get hj]; exact hoj))
    rw [hv]
    congr 1
    rcases hone with ⟨-, h2⟩ | ⟨h1, -⟩
    · have h2 : some (Tj.get x, (none : Option Ob)) = some r := h2
      cases h2
      show Tj.get x = _
      rcases hTj x with ⟨i, oi, ri, hi, hoi, hdi, -, -⟩ | ⟨hno, e⟩
      · have him : i < m := by omega
        rw [take_get him] at hoi
        exact absurd hdi (hx i oi (by omega) hoi)
      · exact e
    · simp [wants] at h1
  have hcl_set : ∀ (listed : Array Bool) (i j : Nat), i ≠ j → (listed.setIfInBounds i true).getD j false = listed.getD j false := fun listed i j e => getD_set_ne false e
  have hset : ∀ (listed : Array Bool) (i : Nat), i < listed.size → (listed.setIfInBounds i true).getD i false = true := fun listed i hi => by
    rw [Array.getD_eq_getD_getElem?, Array.getElem?_setIfInBounds_self_of_lt hi]; rfl
  refine any_inv (m := m + 1) (J := fun listed a2 w2 => (listed.getD m false = false ∧ ∃ st1 g2, Mid st0 asn rs m lk N w.drew g1 listed a2 w2 st1 g2) ∨ (listed.getD m false = true ∧ (∀ j, j < m → listed.getD j false = false → freeB asn m j = true) ∧ ∃ st1 g2, SR st1 g2 N a2 w2 ∧ Fr lk st.H.length w g w2 g2 ∧ st1.H = sB.H ∧ (∀ s, st1.L.get s = sB.L.get s) ∧ ∀ t, (∀ j oj, j < m → listed.getD j false = false → asn[j]? = some oj → oj.d ≠ some t) → st1.T.get t = sB.T.get t))
    htl hah hms (fun listed a2 w2 i o hls hi ho hli hdep hcl hJ K hK => ?_) (fun listed a2 w2 hall hJ => ?_) ops.size _ a w.drew (by simp) (fun j _ => hun j) (fun k hkk => by rw [hun] at hkk; cases hkk) hcount (.inl ⟨hun m, st0, g1, ?_⟩)
  ·
    have hil : i < listed.size := by rw [hls]; omega
    rcases hJ with ⟨hlm, st1, g2, hJ⟩ | ⟨hlm, hfr, st1, g2, hsr, hfr2, hH2, hL2, hT2⟩
    · rcases Nat.lt_or_ge i m with him | him
      · exact mid_step hC hN hops hmle hap hsee hgd hah hch hsp hL1 hlk0 hJ hls him ho hli hdep K fun a' w' hM => hK a' w' (.inl ⟨by rw [hcl_set listed i m (by omega)]; exact hlm, hM⟩)
      ·
        have him : m = i := by omega
        obtain rfl := him
        have hnf : ∀ j, j < m → listed.getD j false = false → freeB asn m j = true := fun j hj hlj => by
          have h1 := List.all_eq_true.1 hwt j (List.mem_range.2 hj)
          rw [Bool.or_eq_true] at h1
          rcases h1 with h1 | h1
          · have h2 := sweep_in (ops := ops) (L := fun x => listed.getD x false = true) (fun q hq x hx => hcl q hq x hx) m (direct ops m) (fun x hx => hdep x hx) j (by simpa using h1)
            rw [hlj] at h2; cases h2
          · exact h1
        obtain ⟨ao, hao, hok⟩ := hops m o ho
        rw [ham] at hao; cases hao
        obtain ⟨par, op0, hop, hvar⟩ := hok.op
        have hvar : (am.op : AOp) = op0 := by
          rcases hvar with e | ⟨sz', x', y', e0, e | e⟩
          · exact e
          · rw [eam] at e; cases e
          · rw [eam] at e; cases e
        rw [← hvar, eam] at hop
        have hod : o.dst = some dm := by rw [← hok.d, eam]
        have hw1 : Region.wanted o (yielded ops a2.tmps) = true := wants_sound hJ.sr.tr.v hok (b := true) (by rw [eam]; rfl)
        rw [if_pos hw1]
        have hnoU : ∀ z : X, z = xm ∨ z = ym → ∀ t, z.tmp? = some t → ¬ ∃ j oj, j < m ∧ listed.getD j false = false ∧ asn[j]? = some oj ∧ oj.d = some t := by
          rintro z hz t ht ⟨j, oj, hj, hlj, hoj, hdj⟩
          have hsm : t ∈ am.sees := by
            rw [eam]
            refine List.mem_filterMap.2 ⟨z, ?_, ht⟩
            rcases hz with rfl | rfl <;> simp [AOp.xs]
          rcases sees_spec hsee1 (by omega) (by omega) ham hoj hdj hsm with h1 | h1
          · omega
          · rw [hdep j h1] at hlj; cases hlj
        have hLA : ∀ s, st1.L.get s = sA.L.get s := fun s => by
          rw [show sA.L = L' by rw [hsA]]
          rcases hsp.l s with ⟨j, oj, v, ob, hoj, hd, hrj, e⟩ | ⟨hno, e⟩
          · have hjm : j < m := by
              rcases Nat.lt_or_ge j m with h1 | h1
              · exact h1
              · rw [List.getElem?_take, if_neg (by omega)] at hoj; cases hoj
            have hoj0 := hoj
            rw [take_get hjm] at hoj
            cases hlj : listed.getD j false with
            | true => rw [e, (hJ.a1 j oj _ hjm hlj hoj hrj s hd).2 ob rfl]
            | false =>
              exfalso
              obtain ⟨aj, d, x, haj, eaj, -⟩ := hfree j (hnf j hjm hlj)
              rw [hoj] at haj; cases haj
              obtain ⟨r, Tj, hr2, hone, -⟩ := hsp.one j _ hoj0
              rw [hrj] at hr2; cases hr2
              rw [eaj] at hone
              rcases hone with ⟨-, h2⟩ | ⟨-, h2⟩
              · have h2 : some (Tj.get x, (none : Option Ob)) = some (v, some ob) := h2
                cases h2
              · cases h2
          · rw [e, hJ.a3 s fun j oj v ob hj _ hoj hrj => hno j oj v ob (by rw [take_get hj]; exact hoj) hrj]
        have hTT : ∀ t, ¬ (∃ j oj, j < m ∧ listed.getD j false = false ∧ asn[j]? = some oj ∧ oj.d = some t) → st1.T.get t = sA.T.get t := fun t ht => by
          rw [hTA]
          rcases hsp.t t with ⟨j, oj, rj, hoj, hd, hrj, e⟩ | ⟨hno, e⟩
          · have hjm : j < m := by
              rcases Nat.lt_or_ge j m with h1 | h1
              · exact h1
              · rw [List.getElem?_take, if_neg (by omega)] at hoj; cases hoj
            rw [take_get hjm] at hoj
            cases hlj : listed.getD j false with
            | true => rw [e, (hJ.a1 j oj rj hjm hlj hoj hrj t hd).1]
            | false => exact absurd ⟨j, oj, hjm, hlj, hoj, hd⟩ ht
          · rw [e, hJ.a2 t fun j oj hj _ hoj => hno j oj (by rw [take_get hj]; exact hoj)]
        obtain ⟨s2, hs2, hH3, hL3, hT3, -⟩ := app_sim (fun t => ∃ j oj, j < m ∧ listed.getD j false = false ∧ asn[j]? = some oj ∧ oj.d = some t) (s1 := st1) (by rw [hJ.hh, hsA]) hLA hTT (hnoU xm (.inl rfl)) (hnoU ym (.inr rfl)) hsB
        have hl1 : st1.H.length = st.H.length := by rw [hJ.hh]; exact hHl
        rw [← hod] at hs2
        refine sop_sound hC hJ.sr (by rw [hl1]; exact hlk) (fun d hd => Nat.lt_of_lt_of_le (hok.lt d hd) hN) hop hs2 _ _ fun g3 a3 w3 v _ hs3 hf3 => hK a3 w3 (.inr ⟨hset listed m hil, fun j hj hlj => hnf j hj (by rw [← hcl_set listed m j (by omega)]; exact hlj), s2, g3, hs3, (hfw.trans (by rw [← hHl]; exact hJ.fr)).trans (by rw [← hl1]; exact hf3), hH3, hL3, fun t ht => hT3 t ?_⟩)
        rintro ⟨j, oj, hj, hlj, hoj, hdj⟩
        exact ht j oj hj (by rw [hcl_set listed m j (by omega)]; exact hlj) hoj hdj
    ·
      have him : i < m := by
        rcases Nat.lt_or_ge i m with h1 | h1
        · exact h1
        · have : i = m := by omega
          subst this; rw [hlm] at hli; cases hli
      obtain ⟨ai, d, x, hai, eai, hxw⟩ := hfree i (hfr i him hli)
      obtain ⟨ao, hao, hok⟩ := hops i o ho
      rw [hai] at hao; cases hao
      obtain ⟨par, op0, hop, hvar⟩ := hok.op
      have hvar : (ai.op : AOp) = op0 := by
        rcases hvar with e | ⟨sz', x', y', e0, e | e⟩
        · exact e
        · rw [eai] at e; cases e
        · rw [eai] at e; cases e
      rw [← hvar, eai] at hop
      have hod : o.dst = some d := by rw [← hok.d, eai]
      have hw1 : Region.wanted o (yielded ops a2.tmps) = true := wants_sound hsr.tr.v hok (b := true) (by rw [eai]; rfl)
      rw [if_pos hw1]
      have hl1 : st1.H.length = st.H.length := by rw [hH2]; exact hBl
      have hs2 : sop call lk st1 o.dst (.mv (.t x)) = some { st1 with T := st1.T.set d (st1.T.get x) } := by rw [hod]; rfl
      have hx1 : st1.T.get x = sB.T.get x := hT2 x fun j oj hj _ hoj => hxw j oj (by omega) hoj
      have hai' : asn[i]? = some ⟨some d, none, .mv (.t x)⟩ := by rw [hai, eai]
      refine sop_sound hC hsr (by rw [hl1]; exact hlk) (fun d hd => Nat.lt_of_lt_of_le (hok.lt d hd) hN) hop hs2 _ _ fun g3 a3 w3 v _ hs3 hf3 => hK a3 w3 (.inr ⟨by rw [hcl_set listed i m (by omega)]; exact hlm, fun j hj hlj => ?_, _, g3, hs3, hfr2.trans (by rw [← hl1]; exact hf3), hH2, hL2, fun t ht => ?_⟩)
      · by_cases e : i = j
        · subst e; rw [hset listed i hil] at hlj; cases hlj
        · exact hfr j hj (by rw [← hcl_set listed i j e]; exact hlj)
      · show (st1.T.set d (st1.T.get x)).get t = _
        rw [Tm.get_set_if]
        split
        · rename_i e; subst e
          rw [hx1, hfreeB i t x him hai' hxw]
        · rename_i e
          refine hT2 t fun j oj hj hlj hoj hd => ?_
          by_cases e2 : i = j
          · subst e2; rw [hai'] at hoj; cases hoj; cases hd; exact e rfl
          · exact ht j oj hj (by rw [hcl_set listed i j e2]; exact hlj) hoj hd
  ·
    rcases hJ with ⟨hlm, -⟩ | ⟨hlm, -, st1, g2, hsr, hfr2, hH2, hL2, hT2⟩
    · rw [hall m (by omega)] at hlm; cases hlm
    · have hsB2 : SR sB g2 N a2 w2 := hsr.congr hH2.symm (fun t => (hT2 t fun j oj hj hlj => by rw [hall j (by omega)] at hlj; cases hlj).symm) fun s => (hL2 s).symm
      have := seqOps_sound (Q := Q) hC hN hops hlen (asn.drop (m + 1)) (m + 1) rfl hsB2 (by rw [hBl]; exact hlk) hrun2 fun g3 a3 w3 hs3 hf3 => hk g3 a3 w3 hs3 (hfr2.trans (by rw [← hBl]; exact hf3))
      rw [List.length_drop, hlen] at this
      exact this
  · refine ⟨hs1, .refl _ _ hs1.gok, rfl, fun i oi r _ hl => (by rw [hun] at hl; cases hl), fun t _ => rfl, fun s _ => rfl, fun i b s sz x y l _ hl => (by rw [hun] at hl; cases hl), fun i oi d hi _ hoi hd hp => ?_⟩
    rw [hHl]
    exact hd1 d (mem_prods hi hoi hd hp)
theorem region_sound (hC : CallSound P call) (hmix : P.follows .mixedOrders = true) (hN : nt ≤ N) {id : Nat} {draw : Bool} {m : Nat} {asn : List AOper} (hcode : codeOf P eff nt (.region id ops draw) = some (.reg m asn)) {st st' : St} {g : Gh} {a : Act} {w : World} (h : SR st g N a w) (hlk : lk ≤ st.H.length) (hrun : runReg call lk m asn st = some st')
    (hk : ∀ g' a' w', SR st' g' N a' w' → Fr lk st.H.length w g w' g' → Q .normal a' w') : (Code.region id ops draw).wp P Q a w := by
  rcases code_or hcode with ⟨m0, rfl, hrx⟩ | hcode
  · exact region_relaxed hC hmix hN hrx h hlk hrun hk
  obtain ⟨m', as0, e, hopers, hm, hdr⟩ := code_reg hcode
  have e1 : m = m' := by cases e; rfl
  have e2 : asn = chainOf m' as0 := by cases e; rfl
  subst e1
  rw [← e2] at hdr
  obtain ⟨hlen, hops⟩ := opersOf_spec hopers
  obtain ⟨hlen, hops⟩ := chainOf_ok (m := m) (asn := as0) (by simpa using hlen) fun i o ho => hops i o (by simpa using ho)
  rw [← e2] at hlen hops
  cases draw with
  | false =>
    simp only [Bool.false_eq_true, if_false] at hm
    subst hm
    refine wp_region ?_
    have := seqOps_sound (Q := Q) hC hN hops hlen asn 0 rfl (st' := st') h hlk hrun hk
    rw [hlen] at this
    rw [List.range_eq_range']; exact this
  | true =>
    have hdr := hdr rfl
    obtain ⟨hdr, hchb⟩ := hdr
    have hch := chain_spec hchb
    simp only [drawsB, Bool.and_eq_true] at hdr
    obtain ⟨⟨⟨⟨hah, hap⟩, htl⟩, hsee⟩, hgd⟩ := hdr
    simp only [if_true] at hm
    have hmle : m ≤ ops.size := hm ▸ tailFrom_le ops.size
    obtain ⟨g1, hs1, hf1, hd1, hH1, hL1⟩ := (h.keep (drew_fr h.gok (st.H.length + 1) (st.H.length + 1))).prep lk hlk (prods m asn)
    have hfw : Fr lk st.H.length w g w.drew g1 := (drew_fr h.gok lk st.H.length).trans hf1
    refine wp_region_any hmix ?_
    have hend : ∀ (st2 : St) (g2 : Gh) (a2 : Act) (w2 : World), SR st2 g2 N a2 w2 → Fr lk st.H.length w g w2 g2 → st2.H.length = st.H.length → seqOps call lk (asn.drop m) st2 = some st' → wpOps P ops Q (List.range' m (ops.size - m)) a2 w2 := by
      intro st2 g2 a2 w2 hs2 hf2 hl2 hr2
      have := seqOps_sound (Q := Q) hC hN hops hlen (asn.drop m) m rfl hs2 (by rw [hl2]; exact hlk) hr2 fun g3 a3 w3 hs3 hf3 => hk g3 a3 w3 hs3 (hf2.trans (by rw [← hl2]; exact hf3))
      rw [List.length_drop, hlen] at this
      exact this
    have hun : ∀ j, (Array.replicate ops.size false).getD j false = false := fun j => by
      rw [Array.getD_eq_getD_getElem?, Array.getElem?_replicate]
      split <;> rfl
    have hcount : (Array.replicate ops.size false).toList.count false = ops.size := by simp
    cases m with
    | zero =>
      have hp0 : prods 0 asn = [] := by cases asn <;> rfl
      have hrun : seqOps call lk asn (st.prep (prods 0 asn)) = some st' := hrun
      rw [hp0] at hrun hs1
      refine any_inv (J := fun _ a2 w2 => SR st g1 N a2 w2 ∧ Fr lk st.H.length w g w2 g1) htl hah hmle (fun listed a2 w2 i o _ hi => by omega) (fun listed a2 w2 _ hJ => ?_) ops.size _ a w.drew (by simp) (fun j _ => hun j) (fun k hkk => by rw [hun] at hkk; cases hkk) hcount ⟨hs1, hfw⟩
      exact hend st g1 a2 w2 hJ.1 hJ.2 rfl hrun
    | succ m =>
      have hrun : (match parOps call (st.prep (prods (m + 1) asn)) (asn.take (m + 1)) (st.prep (prods (m + 1) asn)).T (st.prep (prods (m + 1) asn)).L with
        | some (T, L) => seqOps call lk (asn.drop (m + 1)) { (st.prep (prods (m + 1) asn)) with T := T, L := L }
        | none => none) = some st' := hrun
      generalize hst0 : st.prep (prods (m + 1) asn) = st0 at hrun hs1 hH1 hL1
      split at hrun
      case h_2 => cases hrun
      rename_i T' L' hpar
      obtain ⟨rs, hsp⟩ := parOps_spec hpar
      have hlk0 : lk ≤ st0.H.length := by rw [hH1]; exact hlk
      have hHl : st0.H.length = st.H.length := by rw [hH1]
      refine any_inv (J := fun listed a2 w2 => ∃ st1 g2, Mid st0 asn rs (m + 1) lk N w.drew g1 listed a2 w2 st1 g2) htl hah hmle (fun listed a2 w2 i o hls hi ho hli hdep _ hJ K hK => ?_) (fun listed a2 w2 hall hJ => ?_) ops.size _ a w.drew (by simp) (fun j _ => hun j) (fun k hkk => by rw [hun] at hkk; cases hkk) hcount ⟨st0, g1, ?_⟩
      · obtain ⟨st1, g2, hJ⟩ := hJ
        exact mid_step hC hN hops hmle hap hsee hgd hah hch hsp hL1 hlk0 hJ hls hi ho hli hdep K hK
      · obtain ⟨st1, g2, hJ⟩ := hJ
        refine hend { st0 with T := T', L := L' } g2 a2 w2 (hJ.sr.congr hJ.hh.symm (fun t => ?_) fun s => ?_) (hfw.trans (by rw [← hHl]; exact hJ.fr)) hHl hrun
        · show T'.get t = st1.T.get t
          rcases hsp.t t with ⟨j, oj, rj, hoj, hd, hrj, e⟩ | ⟨hno, e⟩
          · have hjm : j < m + 1 := by
              rcases Nat.lt_or_ge j (m + 1) with h1 | h1
              · exact h1
              · rw [List.getElem?_take, if_neg (by omega)] at hoj; cases hoj
            rw [take_get hjm] at hoj
            rw [e, (hJ.a1 j oj rj hjm (hall j hjm) hoj hrj t hd).1]
          · rw [e, hJ.a2 t fun j oj hj _ hoj => hno j oj (by rw [take_get hj]; exact hoj)]
        · show L'.get s = st1.L.get s
          rcases hsp.l s with ⟨j, oj, v, ob, hoj, hd, hrj, e⟩ | ⟨hno, e⟩
          · have hjm : j < m + 1 := by
              rcases Nat.lt_or_ge j (m + 1) with h1 | h1
              · exact h1
              · rw [List.getElem?_take, if_neg (by omega)] at hoj; cases hoj
            rw [take_get hjm] at hoj
            rw [e, (hJ.a1 j oj _ hjm (hall j hjm) hoj hrj s hd).2 ob rfl]
          · rw [e, hJ.a3 s fun j oj v ob hj _ hoj hrj => hno j oj v ob (by rw [take_get hj]; exact hoj) hrj]
      · refine ⟨hs1, .refl _ _ hs1.gok, rfl, fun i oi r _ hl => (by rw [hun] at hl; cases hl), fun t _ => rfl, fun s _ => rfl, fun i b s sz x y l _ hl => (by rw [hun] at hl; cases hl), fun i oi d hi _ hoi hd hp => ?_⟩
        rw [hHl]
        exact hd1 d (mem_prods hi hoi hd hp)
end
end Go.Proofs.YtlacnkjkcikodaaDoor.Am
end
section
set_option linter.unusedVariables false
set_option linter.unusedSimpArgs false
set_option linter.constructorNameAsVariable false
namespace Go.Proofs.YtlacnkjkcikodaaDoor.Am
open Go
def exOf : AEx → Exit
  | .nrm => .normal
  | .exit id => .exit id
  | .ret => .ret
section
variable {P : Program} {eff : List FuncId} {nt : Nat} {call : ACall} {lk N : Nat}
theorem prep_H (st : St) (ds : List Nat) : (st.prep ds).H = st.H := by cases ds <;> rfl
theorem runReg_lock (hC : CallSound P call) {m : Nat} {asn : List AOper} {st st' : St} (hlk : lk ≤ st.H.length) (h : runReg call lk m asn st = some st') : LockOK lk st.H st'.H := by
  unfold runReg at h
  simp only at h
  split at h
  · have := seqOps_lock hC (by rw [prep_H]; exact hlk) h
    rw [prep_H] at this; exact this
  · split at h
    · have := seqOps_lock (st := { (st.prep _) with T := _, L := _ }) hC (by show lk ≤ (st.prep _).H.length; rw [prep_H]; exact hlk) h
      have h2 : LockOK lk (st.prep (prods m asn)).H st'.H := this
      rw [prep_H] at h2; exact h2
    · cases h
theorem run_lock (hC : CallSound P call) : ∀ (n : Nat) {c : ACode} {st st' : St} {ex : AEx}, lk ≤ st.H.length → run call lk n c st = some (ex, st') → LockOK lk st.H st'.H
  | 0, c, st, st', ex, _, h => by simp [run] at h
  | n + 1, c, st, st', ex, hlk, h => by
    cases c with
    | skip => simp only [run, Option.some.injEq, Prod.mk.injEq] at h; rw [← h.2]; exact .refl _ _
    | reg m ops =>
      simp only [run] at h
      obtain ⟨s1, h1, h2⟩ := Option.map_eq_some_iff.1 h
      cases h2
      exact runReg_lock hC hlk h1
    | seq a b =>
      simp only [run] at h
      split at h
      · rename_i s1 h1
        have l1 := run_lock hC n hlk h1
        exact l1.trans (run_lock hC n (by rw [l1.1]; exact hlk) h)
      · exact run_lock hC n hlk h
    | cond c a b =>
      simp only [run] at h
      split at h
      · rename_i t ht
        cases t with
        | true => exact run_lock hC n hlk h
        | false => exact run_lock hC n hlk h
      · cases h
    | block id c =>
      simp only [run] at h
      split at h
      · rename_i i s1 h1
        have l1 := run_lock hC n hlk h1
        cases hb : Nat.beq i id <;> rw [hb] at h <;> simp only [cond_true, cond_false, Option.some.injEq, Prod.mk.injEq] at h <;> rw [← h.2] <;> exact l1
      · exact run_lock hC n hlk h
    | loop c =>
      simp only [run] at h
      split at h
      · rename_i s1 h1
        have l1 := run_lock hC n hlk h1
        exact l1.trans (run_lock hC n (by rw [l1.1]; exact hlk) h)
      · exact run_lock hC n hlk h
    | exit id => simp only [run, Option.some.injEq, Prod.mk.injEq] at h; rw [← h.2]; exact .refl _ _
    | ret => simp only [run, Option.some.injEq, Prod.mk.injEq] at h; rw [← h.2]; exact .refl _ _
    | scope c => simp only [run] at h; exact run_lock hC n hlk h
    | keep ts ls c => simp only [run] at h; exact run_lock (st := st.keep ts ls) hC n hlk h
theorem bare_same {ac x : ACode} (hk : ∀ ts ls c, ac ≠ .keep ts ls c) (h : ac.bare = x) (h1 : ∀ a b, x ≠ .seq a b) (h2 : ∀ c a b, x ≠ .cond c a b) (h3 : ∀ i c, x ≠ .block i c) (h4 : ∀ c, x ≠ .loop c) (h5 : ∀ c, x ≠ .scope c) : ac = x := by
  cases ac <;> simp only [ACode.bare] at h
  case seq => exact absurd h.symm (h1 _ _)
  case cond => exact absurd h.symm (h2 _ _ _)
  case block => exact absurd h.symm (h3 _ _)
  case loop => exact absurd h.symm (h4 _)
  case scope => exact absurd h.symm (h5 _)
  case keep => exact absurd rfl (hk _ _ _)
  all_goals exact h
theorem bare_seq {ac x y : ACode} (hk : ∀ ts ls c, ac ≠ .keep ts ls c) (h : ac.bare = .seq x y) : ∃ a b, ac = .seq a b ∧ a.bare = x ∧ b.bare = y := by
  cases ac <;> simp only [ACode.bare] at h <;> first | exact absurd rfl (hk _ _ _) | (cases h; exact ⟨_, _, rfl, rfl, rfl⟩) | cases h
theorem bare_cond {ac x y : ACode} {c : X} (hk : ∀ ts ls c, ac ≠ .keep ts ls c) (h : ac.bare = .cond c x y) : ∃ a b, ac = .cond c a b ∧ a.bare = x ∧ b.bare = y := by
  cases ac <;> simp only [ACode.bare] at h <;> first | exact absurd rfl (hk _ _ _) | (cases h; exact ⟨_, _, rfl, rfl, rfl⟩) | cases h
theorem bare_block {ac x : ACode} {i : Nat} (hk : ∀ ts ls c, ac ≠ .keep ts ls c) (h : ac.bare = .block i x) : ∃ a, ac = .block i a ∧ a.bare = x := by
  cases ac <;> simp only [ACode.bare] at h <;> first | exact absurd rfl (hk _ _ _) | (cases h; exact ⟨_, rfl, rfl⟩) | cases h
theorem bare_loop {ac x : ACode} (hk : ∀ ts ls c, ac ≠ .keep ts ls c) (h : ac.bare = .loop x) : ∃ a, ac = .loop a ∧ a.bare = x := by
  cases ac <;> simp only [ACode.bare] at h <;> first | exact absurd rfl (hk _ _ _) | (cases h; exact ⟨_, rfl, rfl⟩) | cases h
theorem bare_scope {ac x : ACode} (hk : ∀ ts ls c, ac ≠ .keep ts ls c) (h : ac.bare = .scope x) : ∃ a, ac = .scope a ∧ a.bare = x := by
  cases ac <;> simp only [ACode.bare] at h <;> first | exact absurd rfl (hk _ _ _) | (cases h; exact ⟨_, rfl, rfl⟩) | cases h
theorem Tm.get_keep (p : Tag → Bool) (T : Tm) (i : Nat) : ∀ l : List Nat, (Tm.keep p T l).get i = .any ∨ ∃ k, (Tm.keep p T l).get i = (T.get i).kp p k
  | [] => .inl rfl
  | j :: l => by
    simp only [Tm.keep, Tm.get]
    by_cases h : i = j % 10000
    · subst h; exact .inr ⟨j / 10000, by simp⟩
    · rw [nbeq h, cond_false]; exact Tm.get_keep p T i l
theorem Tab.get_keep (L : Tab) (s : Nat) : ∀ l : List Nat, (Tab.keep L l).get s = if s ∈ l then (L.get s).map Ob.holdC else none
  | [] => by simp [Tab.keep, Tab.get]
  | j :: l => by
    simp only [Tab.keep]
    by_cases h : s = j
    · subst h
      cases hL : L.get s with
      | none => simp only [Tab.get_keep L s l, hL]; simp
      | some o => simp [Tab.get]
    · cases hL : L.get j with
      | none => simp only [Tab.get_keep L s l]; simp [h]
      | some o => simp only [Tab.get, nbeq h, cond_false, Tab.get_keep L s l]; simp [h]
theorem holdC_cases (x : V) : x.holdC = x ∧ (∀ l, x = .sl l .nil → False) ∨ ∃ l t, x = .sl l t ∧ (t = .nil ∨ t = .full) ∧ x.holdC = .sl l .held := by
  cases x with
  | sl l t => cases t <;> first | exact .inr ⟨l, _, rfl, .inl rfl, rfl⟩ | exact .inr ⟨l, _, rfl, .inr rfl, rfl⟩ | exact .inl ⟨rfl, fun _ e => by cases e⟩
  | _ => exact .inl ⟨rfl, fun _ e => by cases e⟩
theorem own_free {w : World} {g : Gh} {k : Key} {l : List V} {t : Tag} {v : Value} (h : CR w g (.sl l t) v) (ht : t = .nil ∨ t = .full) : OwnOK w g k l v := by
  cases h with
  | sl _ _ A c sz vs hc hn hta hp hz hd ha hr =>
    refine ⟨A, c, rfl, .inl ?_⟩
    rcases ht with rfl | rfl
    · have h1 : l.length = 0 := hta.2.1
      have h2 : c = 0 := hta.2.2
      omega
    · exact hta
theorem CR.holdC {w : World} {g : Gh} {x : V} {v : Value} (h : CR w g x v) : CR w g x.holdC v := by
  rcases holdC_cases x with ⟨e, -⟩ | ⟨l, t, rfl, ht, e⟩
  · rw [e]; exact h
  · rw [e]; exact h.retag fun _ _ _ _ => trivial
theorem under_holdC {n : Nat} {x : V} (h : x.under1 n = true) : x.holdC.under1 n = true := by
  rcases holdC_cases x with ⟨e, -⟩ | ⟨l, t, rfl, ht, e⟩
  · rw [e]; exact h
  · rw [e]; rfl
theorem bare_own {x : V} {l : List V} {s : Nat} : x.bare ≠ .sl l (.own s) := by
  cases x <;> simp [V.bare, V.bare1]
theorem bare_cell {x : V} {l : List V} {lv s c : Nat} : x.bare ≠ .sl l (.cell lv s c) := by
  cases x <;> simp [V.bare, V.bare1]
theorem SR.forget0 {st : St} {g : Gh} {a : Act} {w : World} (h : SR st g N a w) (ts ls : List Nat) : SR (st.keep0 ts ls) g N a w := by
  have hT : ∀ i, (st.keep0 ts ls).T.get i = .any ∨ ∃ k, (st.keep0 ts ls).T.get i = (st.T.get i).kp (cellLost st.H.length ls) k := fun i => Tm.get_keep _ _ _ _
  have hL : ∀ s, (st.keep0 ts ls).L.get s = if s ∈ ls then (st.L.get s).map Ob.holdC else none := fun s => Tab.get_keep _ _ _
  have hobj : ∀ lv s o', objAt ((st.keep0 ts ls).H ++ [(st.keep0 ts ls).L]) lv s = some o' → ¬ (lv = st.H.length ∧ s ∉ ls) ∧ ∃ o, objAt (st.H ++ [st.L]) lv s = some o ∧ (lv ≠ st.H.length ∧ o' = o ∨ o' = o.holdC) := by
    intro lv s o' ho
    replace ho : objAt (st.H ++ [(st.keep0 ts ls).L]) lv s = some o' := ho
    rcases Nat.lt_or_ge lv st.H.length with h1 | h1
    · rw [objAt_old h1] at ho
      exact ⟨by omega, o', by rw [objAt_old h1]; exact ho, .inl ⟨by omega, rfl⟩⟩
    · by_cases h2 : lv = st.H.length
      · subst h2
        rw [objAt_now, hL] at ho
        by_cases h3 : s ∈ ls
        · rw [if_pos h3] at ho
          obtain ⟨o, ho2, rfl⟩ := Option.map_eq_some_iff.1 ho
          exact ⟨fun e => e.2 h3, o, by rw [objAt_now]; exact ho2, .inr rfl⟩
        · rw [if_neg h3] at ho; cases ho
      · unfold objAt at ho
        rw [List.getElem?_eq_none (by simp; omega)] at ho; cases ho
  have hkeep : ∀ lv s o, objAt (st.H ++ [st.L]) lv s = some o → ¬ (lv = st.H.length ∧ s ∉ ls) → ∃ o', objAt ((st.keep0 ts ls).H ++ [(st.keep0 ts ls).L]) lv s = some o' ∧ (o' = o ∨ o' = o.holdC) := by
    intro lv s o ho hn
    show ∃ o', objAt (st.H ++ [(st.keep0 ts ls).L]) lv s = some o' ∧ _
    rcases Nat.lt_or_ge lv st.H.length with h1 | h1
    · rw [objAt_old h1] at ho; exact ⟨o, by rw [objAt_old h1]; exact ho, .inl rfl⟩
    · have hlt := objAt_lt ho
      simp at hlt
      obtain rfl : lv = st.H.length := by omega
      rw [objAt_now] at ho
      refine ⟨o.holdC, ?_, .inr rfl⟩
      rw [objAt_now, hL, if_pos (by by_cases h3 : s ∈ ls; exact h3; exact absurd ⟨rfl, h3⟩ hn), ho]; rfl
  refine ⟨h.gok, ⟨fun lv s o' ho => ?_, fun lv s cs c l ho hc => ?_⟩, ⟨fun i => ?_, fun i => ?_, fun i l s hi => ?_, fun i l lv s c hi => ?_⟩, h.n, h.df⟩
  · obtain ⟨-, o, ho, he⟩ := hobj lv s o' ho
    obtain ⟨hu, b, e1, e2, e3⟩ := h.hr.ob lv s o ho
    rcases he with ⟨-, rfl⟩ | rfl
    · exact ⟨hu, b, e1, e2, e3⟩
    · cases o with
      | map es ck => exact ⟨hu, b, e1, e2, e3⟩
      | cells cs =>
        refine ⟨?_, b, e1, e2, ?_⟩
        · simp only [Ob.holdC, Ob.under, List.all_map, List.all_eq_true] at hu ⊢
          exact fun x hx => under_holdC (hu x hx)
        · obtain ⟨ccs, e, f1, f2⟩ := e3
          exact ⟨ccs, e, f1, F2.map _ f2 fun x v _ hv => hv.holdC⟩
  · obtain ⟨-, o, ho2, he⟩ := hobj lv s _ ho
    rcases he with ⟨-, rfl⟩ | he
    · exact h.hr.own lv s cs c l ho2 hc
    · cases o with
      | map es ck => cases he
      | cells cs0 =>
        simp only [Ob.holdC, Ob.cells.injEq] at he
        subst he
        rw [List.getElem?_map] at hc
        obtain ⟨x, hx, hxe⟩ := Option.map_eq_some_iff.1 hc
        rcases holdC_cases x with ⟨e, -⟩ | ⟨l', t, rfl, ht, e⟩
        · rw [e] at hxe; subst hxe
          exact h.hr.own lv s cs0 c l ho2 hx
        · rw [e] at hxe; cases hxe
          obtain ⟨hu, b, e1, e2, ccs, e3, f1, f2⟩ := h.hr.ob lv s _ ho2
          obtain ⟨v, hv, hr⟩ := F2.get f2 c _ hx
          exact ⟨b, ccs, e3, v, e1, f1, by simpa using hv, own_free hr ht⟩
  · rcases hT i with e | ⟨k, e⟩
    · rw [e]; exact CR.any _
    · rw [e]
      match k with
      | 0 => exact (h.tr.v i).bare
      | 1 => exact (h.tr.v i).strip _
      | d + 2 =>
        simp only [V.kp]
        split
        · rename_i l e2; have := h.tr.v i; rw [e2] at this; exact CR.vr (CR.retag (this.cr (fun _ e => by cases e) (fun _ e => by cases e)) fun _ _ _ _ => trivial)
        · rename_i l e2; have := h.tr.v i; rw [e2] at this; exact CR.vr (CR.retag (this.cr (fun _ e => by cases e) (fun _ e => by cases e)) fun _ _ _ _ => trivial)
        · exact (h.tr.v i).strip _
  · rcases hT i with e | ⟨k, e⟩
    · rw [e]; rfl
    · rw [e]
      match k with
      | 0 => exact V.bare_under (h.tr.un i)
      | 1 => exact strip_under (h.tr.un i)
      | d + 2 =>
        simp only [V.kp]
        split
        · rfl
        · rfl
        · exact strip_under (h.tr.un i)
  · rcases hT i with e | ⟨k, e⟩
    · rw [e] at hi; cases hi
    · rw [e] at hi
      match k, hi with
      | 0, hi => exact absurd hi bare_own
      | 1, hi => exact h.tr.own i l s (strip_own hi).1
      | d + 2, hi =>
        simp only [V.kp] at hi
        split at hi
        · rename_i l' e2; cases hi; have := h.tr.v i; rw [e2] at this; exact own_free (this.cr (fun _ e => by cases e) (fun _ e => by cases e)) (.inl rfl)
        · rename_i l' e2; cases hi; have := h.tr.v i; rw [e2] at this; exact own_free (this.cr (fun _ e => by cases e) (fun _ e => by cases e)) (.inr rfl)
        · exact h.tr.own i l s (strip_own hi).1
  · rcases hT i with e | ⟨k, e⟩
    · rw [e] at hi; cases hi
    · rw [e] at hi
      have fin : (st.T.get i).strip (cellLost st.H.length ls) = .sl l (.cell lv s c) → ∃ cs b ccs e, objAt ((st.keep0 ts ls).H ++ [(st.keep0 ts ls).L]) lv s = some (.cells cs) ∧ cs[c]? = some (.sl l .held) ∧ g.mu lv s = some b ∧ w.heap[b]? = some (.cells ccs e (0, 0)) ∧ ccs[c]? = some (a.tmps.getD i Go.undef) := by
        intro hi
        obtain ⟨e1, e2⟩ := strip_cell hi
        obtain ⟨cs, b, ccs, e, f1, f2, f3⟩ := h.tr.cell i l lv s c e1
        have hn : ¬ (lv = st.H.length ∧ s ∉ ls) := by
          rintro ⟨rfl, hs⟩
          simp [cellLost, hs] at e2
        obtain ⟨o', q1, q2⟩ := hkeep lv s _ f1 hn
        rcases q2 with rfl | rfl
        · exact ⟨cs, b, ccs, e, q1, f2, f3⟩
        · exact ⟨_, b, ccs, e, q1, by rw [List.getElem?_map, f2]; rfl, f3⟩
      match k, hi with
      | 0, hi => exact absurd hi bare_cell
      | 1, hi => exact fin hi
      | d + 2, hi =>
        simp only [V.kp] at hi
        split at hi
        · cases hi
        · cases hi
        · exact fin hi
theorem VR.ren {w : World} {g : Gh} {x : V} {v : Value} (h : VR w g x v) (c d : Nat) : VR w g (x.ren c d) v := by
  unfold V.ren
  split
  · exact CR.vr (CR.retag (h.cr (fun _ e => by cases e) (fun _ e => by cases e)) fun _ _ _ _ => trivial)
  · exact h
theorem ren_under {x : V} {n c d : Nat} (h : x.under n = true) : (x.ren c d).under n = true := by
  unfold V.ren
  split
  · rfl
  · exact h
theorem ren_own {x : V} {c d s : Nat} {l : List V} (h : x.ren c d = .sl l (.own s)) : ∃ s0, x = .sl l (.own s0) ∧ s = if s0 = c then d else s0 := by
  unfold V.ren at h
  split at h
  · rename_i l' s0
    cases h
    refine ⟨s0, rfl, ?_⟩
    by_cases e : s0 = c
    · subst e; simp
    · rw [nbeq e, if_neg e]; rfl
  · rename_i hx; subst h; exact absurd rfl (hx _ _)
theorem ren_cell {x : V} {c d lv s k : Nat} {l : List V} (h : x.ren c d = .sl l (.cell lv s k)) : x = .sl l (.cell lv s k) := by
  unfold V.ren at h
  split at h
  · cases h
  · exact h
theorem SR.ren {st : St} {g : Gh} {a : Act} {w : World} {lk : Nat} (h : SR st g N a w) (hlk : lk ≤ st.H.length) (x d : Nat) : ∃ g', SR { st with T := st.T.mapV (V.ren x d) } g' N a w ∧ Fr lk st.H.length w g w g' := by
  obtain ⟨g', hg'⟩ : ∃ g' : Gh, g' = { g with owner := fun b => if g.owner b = some (.tmp st.H.length x) then some (.tmp st.H.length d) else g.owner b } := ⟨_, rfl⟩
  have how : ∀ b, g'.owner b = if g.owner b = some (.tmp st.H.length x) then some (.tmp st.H.length d) else g.owner b := fun b => by rw [hg']
  have hk : ∀ n, Keeps n w g w g' := fun n => ⟨fun _ _ => by rw [hg']; exact Nat.le_refl _, fun _ _ _ _ => rfl, fun _ _ _ _ e => by rw [hg']; exact e⟩
  have hgok : GOK w g' := ⟨fun a b c d e => by rw [hg']; exact h.gok.inj a b c d e, fun a b c => by rw [hg']; exact h.gok.lt a b c, fun b k e => by
    have e1 : ∃ k', g.owner b = some k' := by
      rw [how] at e; split at e
      · exact ⟨_, by assumption⟩
      · exact ⟨_, e⟩
    obtain ⟨k', e1⟩ := e1
    have := h.gok.ow b k' e1
    rw [hg']; exact this, fun b o e => by
    rw [hg'] at e
    obtain ⟨e1, e2, e3⟩ := h.gok.pin b o e
    refine ⟨e1, by rw [how, e2]; rfl, by rw [hg']; exact e3⟩⟩
  refine ⟨g', ⟨hgok, ⟨fun lv s o ho => ?_, fun lv s cs c l ho hc => ?_⟩, ⟨fun i => ?_, fun i => ?_, fun i l s hi => ?_, fun i l lv s c hi => ?_⟩, h.n, h.df⟩, ⟨Nat.le_refl _, hk _, fun b hb ht => ⟨rfl, by rw [hg'], ?_⟩, fun lv s b e => .inl (by rw [hg'] at e; exact e), fun lv s _ => by rw [hg'], fun b lv s hl e => ?_, hgok, rfl, rfl, rfl⟩⟩
  · obtain ⟨hu, b, e1, e2, e3⟩ := h.hr.ob lv s o ho
    exact ⟨hu, b, by rw [hg']; exact e1, by rw [hg']; exact e2, e3.keep (hk _) rfl hu⟩
  · obtain ⟨b, ccs, e, v, e1, e2, e3, e4⟩ := h.hr.own lv s cs c l ho hc
    exact ⟨b, ccs, e, v, by rw [hg']; exact e1, e2, e3, e4.keep fun b hb => ⟨rfl, by rw [hg'], by rw [how, hb, if_neg (by simp)]⟩⟩
  · show VR w g' ((st.T.mapV (V.ren x d)).get i) _
    rw [Tm.get_mapV _ rfl]
    exact ((h.tr.v i).keep (hk (st.H.length + 1)) (h.tr.un i)).ren _ _
  · show ((st.T.mapV (V.ren x d)).get i).under _ = true
    rw [Tm.get_mapV _ rfl]
    exact ren_under (h.tr.un i)
  · have hi : (st.T.mapV (V.ren x d)).get i = .sl l (.own s) := hi
    rw [Tm.get_mapV _ rfl] at hi
    obtain ⟨s0, e1, e2⟩ := ren_own hi
    obtain ⟨A, c, e3, e4⟩ := h.tr.own i l s0 e1
    refine ⟨A, c, e3, e4.imp id ?_⟩
    rintro ⟨a', sz, f1, f2, f3, f4, f5, f6, f7, f8⟩
    refine ⟨a', sz, f1, f2, f3, f4, f5, by rw [hg']; exact f6, ?_, f8⟩
    rw [how, f7]
    by_cases e : s0 = x
    · subst e; rw [if_pos rfl, e2, if_pos rfl]
    · rw [if_neg (by intro e'; cases e'; exact e rfl), e2, if_neg e]
  · have hi : (st.T.mapV (V.ren x d)).get i = .sl l (.cell lv s c) := hi
    rw [Tm.get_mapV _ rfl] at hi
    obtain ⟨cs, b, ccs, e, f1, f2, f3, f4⟩ := h.tr.cell i l lv s c (ren_cell hi)
    exact ⟨cs, b, ccs, e, f1, f2, by rw [hg']; exact f3, f4⟩
  · rw [how, if_neg fun e => ht (.inr (.inr ⟨_, _, Nat.le_refl _, e⟩))]
  · rw [how] at e
    split at e
    · cases e; omega
    · exact e
theorem SR.canon {lk : Nat} : ∀ (ts : List Nat) {st : St} {g : Gh} {a : Act} {w : World}, SR st g N a w → lk ≤ st.H.length → ∃ g', SR { st with T := st.T.canon ts } g' N a w ∧ Fr lk st.H.length w g w g'
  | [], st, g, a, w, h, hlk => ⟨g, h, .refl _ _ h.gok⟩
  | i :: l, st, g, a, w, h, hlk => by
    simp only [Tm.canon]
    cases Nat.blt i 20000 with
    | true => exact SR.canon l h hlk
    | false =>
      simp only [cond_false]
      generalize i / 10000 - 2 = d
      generalize ownT (st.T.get (i % 10000)) = o
      cases o with
      | none => exact SR.canon l h hlk
      | some x =>
        simp only [Tm.canon1]
        cases Nat.beq x d with
        | true => exact SR.canon l h hlk
        | false =>
          obtain ⟨g1, h1, f1⟩ := h.ren hlk x d
          obtain ⟨g2, h2, f2⟩ := SR.canon l h1 hlk
          exact ⟨g2, h2, f1.trans f2⟩
theorem SR.forget {st : St} {g : Gh} {a : Act} {w : World} {lk : Nat} (h : SR st g N a w) (hlk : lk ≤ st.H.length) (ts ls : List Nat) : ∃ g', SR (st.keep ts ls) g' N a w ∧ Fr lk st.H.length w g w g' := by
  obtain ⟨g', h1, f1⟩ := SR.canon ts h hlk
  exact ⟨g', h1.forget0 ts ls, f1⟩
def Then (N lk : Nat) (st : St) (g : Gh) (w : World) (ex : AEx) (st' : St) (Q : Exit → Act → World → Prop) : Prop :=
  ∀ g' a' w', SR st' g' N a' w' → Fr lk st.H.length w g w' g' → Q (exOf ex) a' w'
theorem cond_val {x : Operand} {X : Am.X} (hx : opd x = some X) {st : St} {g : Gh} {a : Act} {w : World} (h : SR st g N a w) {t : Bool} (ht : X.ev st.T = .bool t) : a.eval x = .bool t := by
  have := (opd_sound (fun i => h.tr.ok i) hx).vr
  rw [ht] at this; exact this.bool
theorem run_sound (hC : CallSound P call) (hmix : P.follows .mixedOrders = true) (hN : nt ≤ N) : ∀ (n : Nat),
    (∀ {c : Go.Code} {ac : ACode} {st st' : St} {ex : AEx} {g : Gh} {a : Act} {w : World} {Q : Exit → Act → World → Prop}, codeOf P eff nt c = some ac.bare → SR st g N a w → lk ≤ st.H.length → run call lk n ac st = some (ex, st') → Then N lk st g w ex st' Q → c.wp P Q a w) ∧
    (∀ {c : Go.Code} {ac : ACode} {st st' : St} {ex : AEx} {g : Gh} {a : Act} {w : World} {Q : Exit → Act → World → Prop}, codeOf P eff nt c = some ac.bare → SR st g N a w → lk ≤ st.H.length → run call lk n (.loop ac) st = some (ex, st') → Then N lk st g w ex st' Q → Code.rounds P c Q n a w)
  | 0 => ⟨fun _ _ _ h => by simp [run] at h, fun _ _ _ h => by simp [run] at h⟩
  | n + 1 => by
    obtain ⟨ihA, ihB⟩ := run_sound hC hmix hN n
    have hB : ∀ {c : Go.Code} {ac : ACode} {st st' : St} {ex : AEx} {g : Gh} {a : Act} {w : World} {Q : Exit → Act → World → Prop}, codeOf P eff nt c = some ac.bare → SR st g N a w → lk ≤ st.H.length → run call lk (n + 1) (.loop ac) st = some (ex, st') → Then N lk st g w ex st' Q → Code.rounds P c Q (n + 1) a w := by
      intro c ac st st' ex g a w Q hc h hlk hr hk
      rw [rounds_succ]
      simp only [run] at hr
      split at hr
      · rename_i s1 h1
        have l1 := run_lock hC n hlk h1
        refine ihA hc h hlk h1 fun g1 a1 w1 hs1 hf1 => ?_
        exact ihB hc hs1 (by rw [l1.1]; exact hlk) hr fun g2 a2 w2 hs2 hf2 => hk g2 a2 w2 hs2 (hf1.trans (by rw [l1.1] at hf2; exact hf2))
      · rename_i hne
        have hr : run call lk n ac st = some (ex, st') := hr
        refine ihA hc h hlk hr fun g1 a1 w1 hs1 hf1 => ?_
        have := hk g1 a1 w1 hs1 hf1
        cases ex with
        | nrm => exact absurd hr (hne _)
        | exit id => exact this
        | ret => exact this
    refine ⟨?_, hB⟩
    intro c ac st st' ex g a w Q hc h hlk hr hk
    by_cases hkp : ∃ ts ls ac', ac = .keep ts ls ac'
    · obtain ⟨ts, ls, ac', rfl⟩ := hkp
      simp only [run] at hr
      obtain ⟨g0, h0, f0⟩ := h.forget hlk ts ls
      exact ihA (ac := ac') hc h0 hlk hr fun g2 a2 w2 hs2 hf2 => hk g2 a2 w2 hs2 (f0.trans hf2)
    have hkp : ∀ ts ls ac', ac ≠ .keep ts ls ac' := fun ts ls ac' e => hkp ⟨ts, ls, ac', e⟩
    cases c with
    | skip =>
      obtain rfl := bare_same hkp (by simpa using (Option.some.inj hc).symm) (by simp) (by simp) (by simp) (by simp) (by simp)
      simp only [run, Option.some.injEq, Prod.mk.injEq] at hr
      obtain ⟨rfl, rfl⟩ := hr
      exact wp_skip (hk g a w h (.refl _ _ h.gok))
    | label l =>
      obtain rfl := bare_same hkp (by simpa using (Option.some.inj hc).symm) (by simp) (by simp) (by simp) (by simp) (by simp)
      simp only [run, Option.some.injEq, Prod.mk.injEq] at hr
      obtain ⟨rfl, rfl⟩ := hr
      exact wp_label (hk g a w h (.refl _ _ h.gok))
    | exit id =>
      obtain rfl := bare_same hkp (by simpa using (Option.some.inj hc).symm) (by simp) (by simp) (by simp) (by simp) (by simp)
      simp only [run, Option.some.injEq, Prod.mk.injEq] at hr
      obtain ⟨rfl, rfl⟩ := hr
      exact wp_exit (hk g a w h (.refl _ _ h.gok))
    | ret =>
      obtain rfl := bare_same hkp (by simpa using (Option.some.inj hc).symm) (by simp) (by simp) (by simp) (by simp) (by simp)
      simp only [run, Option.some.injEq, Prod.mk.injEq] at hr
      obtain ⟨rfl, rfl⟩ := hr
      exact wp_ret (hk g a w h (.refl _ _ h.gok))
    | region id ops draw =>
      obtain ⟨m, asn, e⟩ := code_isReg hc
      obtain rfl := bare_same hkp e (by simp) (by simp) (by simp) (by simp) (by simp)
      simp only [run] at hr
      obtain ⟨s1, h1, h2⟩ := Option.map_eq_some_iff.1 hr
      cases h2
      exact region_sound hC hmix hN hc h hlk h1 hk
    | seq x y =>
      simp only [codeOf] at hc
      split at hc
      case h_2 => cases hc
      rename_i ax' ay' hx hy
      obtain ⟨ax, ay, rfl, rfl, rfl⟩ := bare_seq hkp (Option.some.inj hc).symm
      simp only [run] at hr
      refine wp_seq ?_
      split at hr
      · rename_i s1 h1
        have l1 := run_lock hC n hlk h1
        refine ihA hx h hlk h1 fun g1 a1 w1 hs1 hf1 => ?_
        exact ihA hy hs1 (by rw [l1.1]; exact hlk) hr fun g2 a2 w2 hs2 hf2 => hk g2 a2 w2 hs2 (hf1.trans (by rw [l1.1] at hf2; exact hf2))
      · rename_i hne
        have hr : run call lk n ax st = some (ex, st') := hr
        refine ihA hx h hlk hr fun g1 a1 w1 hs1 hf1 => ?_
        have := hk g1 a1 w1 hs1 hf1
        cases ex with
        | nrm => exact absurd hr (hne _)
        | exit id => exact this
        | ret => exact this
    | cond x y z =>
      simp only [codeOf] at hc
      split at hc
      case h_2 => cases hc
      rename_i ax ay' az' hx hy hz
      obtain ⟨ay, az, rfl, rfl, rfl⟩ := bare_cond hkp (Option.some.inj hc).symm
      simp only [run] at hr
      split at hr
      case h_2 => cases hr
      rename_i t ht
      refine wp_cond (cond_val hx h ht) ?_
      cases t with
      | true => exact ihA hy h hlk hr hk
      | false => exact ihA hz h hlk hr hk
    | block id c =>
      obtain ⟨ac0, hc', e⟩ := Option.map_eq_some_iff.1 hc
      obtain ⟨ac', rfl, rfl⟩ := bare_block hkp e.symm
      simp only [run] at hr
      refine wp_block ?_
      split at hr
      · rename_i i s1 h1
        refine ihA hc' h hlk h1 fun g1 a1 w1 hs1 hf1 => ?_
        show (if i = id then Q .normal a1 w1 else Q (.exit i) a1 w1)
        by_cases e : i = id
        · subst e
          simp only [Nat.beq_refl, cond_true, Option.some.injEq, Prod.mk.injEq] at hr
          obtain ⟨rfl, rfl⟩ := hr
          rw [if_pos rfl]; exact hk g1 a1 w1 hs1 hf1
        · simp only [nbeq e, cond_false, Option.some.injEq, Prod.mk.injEq] at hr
          obtain ⟨rfl, rfl⟩ := hr
          rw [if_neg e]; exact hk g1 a1 w1 hs1 hf1
      · rename_i hne
        have hr : run call lk n ac' st = some (ex, st') := hr
        refine ihA hc' h hlk hr fun g1 a1 w1 hs1 hf1 => ?_
        have := hk g1 a1 w1 hs1 hf1
        cases ex with
        | nrm => exact this
        | exit id => exact absurd hr (hne _ _)
        | ret => exact this
    | loop c =>
      obtain ⟨ac0, hc', e⟩ := Option.map_eq_some_iff.1 hc
      obtain ⟨ac', rfl, rfl⟩ := bare_loop hkp e.symm
      exact wp_loop_rounds (n + 1) (hB hc' h hlk hr hk)
    | scope c =>
      obtain ⟨ac0, hc', e⟩ := Option.map_eq_some_iff.1 hc
      obtain ⟨ac', rfl, rfl⟩ := bare_scope hkp e.symm
      simp only [run] at hr
      refine wp_scope_straight (ihA hc' h hlk hr fun g1 a1 w1 hs1 hf1 => ?_)
      have := hk g1 a1 w1 hs1 hf1
      cases ex <;> exact this
    | rangeFunc f ps asn b => cases hc
    | goto l => cases hc
    | refuse w => cases hc
end
end Go.Proofs.YtlacnkjkcikodaaDoor.Am
end
section
set_option linter.unusedVariables false
set_option linter.unusedSimpArgs false
set_option linter.constructorNameAsVariable false
namespace Go.Proofs.YtlacnkjkcikodaaDoor.Am
open Go
structure Freeze (n : Nat) (g g' : Gh) : Prop where
  mu : g'.mu = g.mu
  ow : g'.owner = g.owner
  le : ∀ b, g.fix b ≤ g'.fix b
  only : ∀ b, g'.fix b ≠ g.fix b → ∃ s, g.mu n s = some b
  pin : g'.pin = g.pin
theorem Freeze.refl (n : Nat) (g : Gh) : Freeze n g g := ⟨rfl, rfl, fun _ => Nat.le_refl _, fun _ h => absurd rfl h, rfl⟩
theorem Freeze.trans {n : Nat} {g g1 g2 : Gh} (h : Freeze n g g1) (h' : Freeze n g1 g2) : Freeze n g g2 := by
  refine ⟨h'.mu.trans h.mu, h'.ow.trans h.ow, fun b => Nat.le_trans (h.le b) (h'.le b), fun b hb => ?_, h'.pin.trans h.pin⟩
  by_cases e : g1.fix b = g.fix b
  · have := h'.only b (by rw [e]; exact hb)
    rw [h.mu] at this; exact this
  · exact h.only b e
section
variable {P : Program} {n : Nat} {w : World} {g g1 : Gh}
theorem Freeze.keeps (h : Freeze n g g1) (q : Nat) : Keeps q w g w g1 := ⟨fun b _ => h.le b, fun _ _ _ _ => rfl, fun _ _ _ _ e => by rw [h.mu]; exact e⟩
theorem Freeze.gok (h : Freeze n g g1) (hg : GOK w g) : GOK w g1 := ⟨fun a b c d e => by rw [h.mu]; exact hg.inj a b c d e, fun a b c => by rw [h.mu]; exact hg.lt a b c, fun b k => by rw [h.mu, h.ow]; exact hg.ow b k, fun b o e => by rw [h.pin] at e; rw [h.mu, h.ow]; exact hg.pin b o e⟩
theorem Freeze.fr (h : Freeze n g g1) (hg : GOK w g) {lk : Nat} (hlk : lk ≤ n) : Fr lk n w g w g1 :=
  ⟨Nat.le_refl _, h.keeps n, fun b hb ht => ⟨rfl, by
    by_cases e : g1.fix b = g.fix b
    · exact e
    · obtain ⟨s, hs⟩ := h.only b e
      exact absurd (.inl ⟨n, s, hlk, hs⟩) ht, by rw [h.ow]⟩, fun lv s b e => .inl (by rw [h.mu] at e; exact e), fun lv s _ => by rw [h.mu], fun b lv s _ e => by rw [h.ow] at e; exact e, h.gok hg, rfl, rfl, rfl⟩
theorem Freeze.own (h : Freeze n g g1) (hg : GOK w g) {k : Key} {l : List V} {v : Value} (ho : OwnOK w g k l v) : OwnOK w g1 k l v := by
  refine ho.keep fun b hb => ⟨rfl, ?_, by rw [h.ow]⟩
  by_cases e : g1.fix b = g.fix b
  · exact e
  · obtain ⟨s, hs⟩ := h.only b e
    exact absurd hs ((hg.ow b k hb).2 _ _)
theorem Freeze.hr (h : Freeze n g g1) (hg : GOK w g) {H : List Tab} (hH : HR w g H) (hl : H.length ≤ n) : HR w g1 H := by
  refine ⟨fun lv s o ho => ?_, fun lv s cs c l ho hc => ?_⟩
  · obtain ⟨hu, b, e1, e2, e3⟩ := hH.ob lv s o ho
    have hlv := objAt_lt ho
    have hb : g1.fix b = g.fix b := by
      by_cases e : g1.fix b = g.fix b
      · exact e
      · obtain ⟨s', hs⟩ := h.only b e
        have := (hg.inj _ _ _ _ _ hs e1).1
        omega
    exact ⟨hu, b, by rw [h.mu]; exact e1, hb.trans e2, e3.keep (h.keeps (lv + 1)) rfl hu⟩
  · obtain ⟨b, ccs, e, v, e1, e2, e3, e4⟩ := hH.own lv s cs c l ho hc
    exact ⟨b, ccs, e, v, by rw [h.mu]; exact e1, e2, e3, h.own hg e4⟩
theorem datas_len : ∀ {l m : List V}, datas l = some m → m.length = l.length
  | [], m, h => by cases h; rfl
  | v :: l, m, h => by
    simp only [datas] at h
    split at h
    · rename_i v' l' h1 h2
      cases h
      simp [datas_len h2]
    · cases h
theorem datas_one : ∀ {l m : List V}, datas l = some m → ∀ x ∈ m, x.cells = [x]
  | [], m, h => by cases h; simp
  | v :: l, m, h => by
    simp only [datas] at h
    split at h
    · rename_i v' l' h1 h2
      cases h
      intro x hx
      rcases List.mem_cons.1 hx with rfl | hx
      · have h3 := (data1_under 0 h1).2.2
        cases x <;> first | rfl | exact absurd rfl (h3 _)
      · exact datas_one h2 x hx
    · cases h
theorem cap_under {x : V} {b : Nat} (h : x.under1 b = true) (h1 : ∀ l, x ≠ .agg l) (h2 : ∀ l, x ≠ .tup l) : x.under0 b = true := by
  cases x <;> first | exact h | exact absurd rfl (h1 _) | exact absurd rfl (h2 _)
theorem outRow_sound {H : List Tab} {L : Tab} (hn : H.length = n) {g0 : Gh} (hH : HR w g0 (H ++ [L])) (hf : Freeze n g0 g) {x y : V} {v : Value} (hx : CR w g x v) (hu : x.under1 (n + 1) = true) (ho : outRow L n x = some y) :
    ∃ g', Freeze n g g' ∧ CR w g' y v ∧ y.under1 n = true ∧ (y = x ∨ ∃ l, y = .sl l .no) := by
  have dflt : (if x.under1 n then some x else none) = some y → ∃ g', Freeze n g g' ∧ CR w g' y v ∧ y.under1 n = true ∧ (y = x ∨ ∃ l, y = .sl l .no) := by
    intro h
    split at h
    · rename_i hq; cases h; exact ⟨g, .refl _ _, hx, hq, .inl rfl⟩
    · cases h
  unfold outRow at ho
  split at ho
  · rename_i lv s off len
    by_cases hlv : lv = n
    · subst hlv
      simp only [Nat.beq_refl, cond_true] at ho
      split at ho
      case h_2 => cases ho
      rename_i cs hL
      split at ho
      case isFalse => cases ho
      rename_i hlen
      obtain ⟨l, hd, rfl⟩ := Option.map_eq_some_iff.1 ho
      have hob : objAt (H ++ [L]) H.length s = some (.cells cs) := by rw [objAt_now]; exact hL
      obtain ⟨hun, b, hmu, hfix, ccs, e, hb, hcr⟩ := hH.ob _ _ _ hob
      rw [← hn] at hf hu ⊢
      have hll := datas_len hd
      simp only [List.length_take, List.length_drop] at hll
      have hll : l.length = len := by omega
      have hsub : CRs w g ((cs.drop off).take len) ((ccs.toList.drop off).take len) := F2.take (F2.drop (F2.imp hcr fun x v hx hr => hr.keep (hf.keeps (H.length + 1)) (List.all_eq_true.1 hun x hx)) off) len
      obtain ⟨h1, h2⟩ := datas_sound hd hsub
      obtain ⟨g', hg'⟩ : ∃ g' : Gh, g' = { g with fix := fun x => if x = b then max (g.fix b) (off + len) else g.fix x } := ⟨_, rfl⟩
      have hfr : Freeze H.length g g' := by
        refine ⟨by rw [hg'], by rw [hg'], fun x => ?_, fun x hx => ⟨s, ?_⟩, by rw [hg']⟩
        · rw [hg']; show _ ≤ (if x = b then _ else _); split
          · rename_i e; subst e; exact Nat.le_max_left _ _
          · exact Nat.le_refl _
        · by_cases e : x = b
          · subst e; rw [hf.mu]; exact hmu
          · rw [hg'] at hx; exact absurd (by show (if x = b then _ else _) = _; rw [if_neg e]) hx
      refine ⟨g', hfr, ?_, rfl, .inr ⟨l, rfl⟩⟩
      cases hx with
      | row _ _ _ _ c b' hm hc =>
        rw [← hn, hf.mu, hmu] at hm
        cases hm
        rw [← hll]
        refine RowR.slAt (sz := 1) (cs := ((ccs.toList.drop off).take len).toArray) ⟨?_, fun i x hx => ?_⟩ (by omega) (fun k v hv => ?_) ?_ (by rw [hll]; exact hc) trivial
        · have := h1.length
          simp only [List.size_toArray]
          omega
        · have hxm := List.mem_of_getElem? hx
          have h3 := datas_one hd x hxm
          refine ⟨by rw [h3]; rfl, fun y hy => by rw [h3] at hy; obtain rfl := List.mem_singleton.1 hy; exact h2 y hxm, fun j y hy => ?_⟩
          rw [h3] at hy
          cases j with
          | zero =>
            simp only [List.getElem?_cons_zero, Option.some.injEq] at hy; subst hy
            obtain ⟨u, hu1, hu2⟩ := h1.get i x hx
            exact ⟨u, by simpa using hu1, hu2.keep (hfr.keeps 0) (V.pure_under (h2 x hxm) 0)⟩
          | succ j => simp at hy
        · simp only [List.getElem?_toArray] at hv
          rw [List.getElem?_take] at hv
          split at hv
          · rw [List.getElem?_drop] at hv
            unfold World.cell?
            simp only [hb]
            simpa using hv
          · cases hv
        · rw [hg']; show _ ≤ (if b = b then _ else _)
          rw [if_pos rfl, hll]; simp only [Nat.mul_one]; exact Nat.le_max_right _ _
    · rw [nbeq hlv, cond_false] at ho
      cases ho
      refine ⟨g, .refl _ _, hx, ?_, .inl rfl⟩
      simp only [V.under1, Nat.blt_eq] at hu ⊢
      omega
  · exact dflt ho
theorem outRows_sound {H : List Tab} {L : Tab} (hn : H.length = n) {g0 : Gh} (hH : HR w g0 (H ++ [L])) : ∀ {xs ys : List V} {vs : List Value} {g : Gh}, Freeze n g0 g → CRs w g xs vs → xs.all (V.under1 (n + 1)) = true → outRows L n xs = some ys → ∃ g', Freeze n g g' ∧ CRs w g' ys vs ∧ ys.all (V.under1 n) = true
  | [], ys, vs, g, hf, hx, hu, ho => by cases ho; cases hx; exact ⟨g, .refl _ _, .nil, rfl⟩
  | x :: xs, ys, _, g, hf, hx, hu, ho => by
    cases hx with
    | cons h t =>
      simp only [outRows] at ho
      split at ho
      case h_2 => cases ho
      rename_i y ys' h1 h2
      cases ho
      simp only [List.all_cons, Bool.and_eq_true] at hu
      obtain ⟨g1, f1, r1, u1, -⟩ := outRow_sound hn hH hf h hu.1 h1
      obtain ⟨g2, f2, r2, u2⟩ := outRows_sound hn hH (hf.trans f1) (F2.imp t fun a b ha hr => hr.keep (f1.keeps (n + 1)) (List.all_eq_true.1 hu.2 a ha)) hu.2 h2
      exact ⟨g2, f1.trans f2, .cons (r1.keep (f2.keeps n) u1) r2, by simp [u1, u2]⟩
structure ResOK (w : World) (g : Gh) (n : Nat) (y : V) (v : Value) : Prop where
  vr : VR0 w g y v
  un : y.under0 n = true
  tup : ∀ l, y ≠ .tup l
  own : ∀ l s, y = .sl l (.own s) → OwnOK w g (.tmp n s) l v
  cell : ∀ l lv s c, y ≠ .sl l (.cell lv s c)
theorem ResOK.keep {y : V} {v : Value} (h : ResOK w g n y v) (hg : GOK w g) (hf : Freeze n g g1) : ResOK w g1 n y v :=
  ⟨h.vr.keep (hf.keeps n) h.un, h.un, h.tup, fun l s e => hf.own hg (h.own l s e), h.cell⟩
theorem out_sound {H : List Tab} {L : Tab} (hn : H.length = n) {g0 : Gh} (hg0 : GOK w g0) (hH : HR w g0 (H ++ [L])) (hf : Freeze n g0 g) {keep : Bool} {x y : V} {v : Value} (hx : VR w g x v) (hu : x.under (n + 1) = true) (hown : ∀ l s, x = .sl l (.own s) → OwnOK w g (.tmp n s) l v) (ho : x.out keep L n = some y) : ∃ g', Freeze n g g' ∧ ResOK w g' n y v := by
  have hg := hf.gok hg0
  unfold V.out at ho
  split at ho
  · rename_i l
    obtain ⟨ys, h1, rfl⟩ := Option.map_eq_some_iff.1 ho
    obtain ⟨vs, rfl, hc⟩ : ∃ vs : List Value, v = .agg vs.toArray ∧ CRs w g l vs := hx
    have hu' : (l.map V.bare1).all (V.under1 (n + 1)) = true := by
      have hu : l.all (V.under1 (n + 1)) = true := hu
      rw [List.all_eq_true] at hu ⊢
      intro y hy
      obtain ⟨z, hz, rfl⟩ := List.mem_map.1 hy
      exact V.bare1_under (hu z hz)
    obtain ⟨g', f1, r1, u1⟩ := outRows_sound hn hH hf (F2.map V.bare1 hc fun a b _ h => h.bare1) hu' h1
    exact ⟨g', f1, ⟨vs, rfl, r1⟩, u1, (by intro l e; cases e), (by intro l s e; cases e), (by intro l lv s c e; cases e)⟩
  · cases ho
  · rename_i hna hnt
    have hcr : CR w g x v := hx.cr (fun l e => hnt l e) (fun l e => hna l e)
    have hu1 : x.under1 (n + 1) = true := by
      cases x <;> first | exact hu | exact absurd rfl (hna _) | exact absurd rfl (hnt _)
    obtain ⟨z, hz, hzc, hzu, hzo, hzk, hza, hzt⟩ : ∃ z, (bif keep then x.leave else x.bare1) = z ∧ CR w g z v ∧ z.under1 (n + 1) = true ∧ (∀ l s, z = .sl l (.own s) → OwnOK w g (.tmp n s) l v) ∧ (∀ l lv s c, z ≠ .sl l (.cell lv s c)) ∧ (∀ l, z ≠ .agg l) ∧ ∀ l, z ≠ .tup l := by
      have hbare : CR w g x.bare1 v ∧ x.bare1.under1 (n + 1) = true ∧ (∀ l s, x.bare1 = .sl l (.own s) → OwnOK w g (.tmp n s) l v) ∧ (∀ l lv s c, x.bare1 ≠ .sl l (.cell lv s c)) ∧ (∀ l, x.bare1 ≠ .agg l) ∧ ∀ l, x.bare1 ≠ .tup l := by
        refine ⟨hcr.bare1, V.bare1_under hu1, fun l s e => ?_, fun l lv s c e => ?_, fun l e => ?_, fun l e => ?_⟩ <;> cases x <;> first | exact absurd rfl (hna _) | exact absurd rfl (hnt _) | (cases e; done)
      cases keep with
      | false => exact ⟨_, rfl, hbare⟩
      | true =>
        simp only [cond_true]
        unfold V.leave
        split
        · rename_i l s
          exact ⟨_, rfl, hcr, hu1, fun l' s' e => by cases e; exact hown l s rfl, (by intro l lv s c e; cases e), (by intro l e; cases e), (by intro l e; cases e)⟩
        · rename_i hno
          refine ⟨_, rfl, hcr.low1, V.low1_under hu1, fun l s e => ?_, fun l lv s c e => ?_, fun l e => ?_, fun l e => ?_⟩ <;> cases x <;> first | exact absurd rfl (hna _) | exact absurd rfl (hnt _) | (cases e; done) | (rename_i l' t; cases t <;> cases e)
    rw [hz] at ho
    obtain ⟨g', f1, r1, u1, hyz⟩ := outRow_sound hn hH hf hzc hzu ho
    rcases hyz with rfl | ⟨l, rfl⟩
    · refine ⟨g', f1, ?_, cap_under u1 hza hzt, hzt, fun l s e => f1.own hg (hzo l s e), hzk⟩
      cases y <;> first | exact r1 | exact absurd rfl (hza _)
    · exact ⟨g', f1, r1, rfl, (by intro l e; cases e), (by intro l s e; cases e), (by intro l lv s c e; cases e)⟩
theorem run_asAddr {P : Program} {w : World} (a : Addr) : (asAddr (.pointer (some a))).run P w = .ok a w := rfl
theorem resV_sound {N : Nat} {st : St} {a : Act} (h : SR st g N a w) {r : ResultVar} {R : Res} (hr : resOf P r = some R) {x : V} (hx : resV st R = some x) :
    ∃ v, ((match r with | .tmp t => pure (a.tmps.getD t undef) | .cell b t => do loadVar t (← asAddr (a.tmps.getD b undef))) : Sem Value).run P w = .ok v w ∧ VR w g x v ∧ x.under (st.H.length + 1) = true ∧ ∀ l s, x = .sl l (.own s) → OwnOK w g (.tmp st.H.length s) l v := by
  cases r with
  | tmp t =>
    cases hr; cases hx
    exact ⟨_, rfl, h.tr.v t, h.tr.un t, h.tr.own t⟩
  | cell b t =>
    simp only [resOf] at hr
    split at hr
    case h_2 => cases hr
    rename_i sz ag hs ha
    split at hr
    case isFalse => cases hr
    rename_i hc
    cases hr
    simp only [resV] at hx
    split at hx
    case h_2 => cases hx
    rename_i lv s off hT
    split at hx
    case h_2 => cases hx
    rename_i cs hob
    rw [St.obj_eq] at hob
    have hp := h.tr.v b
    rw [hT] at hp
    obtain ⟨blk, hmu, hv⟩ := hp.ptr
    obtain ⟨hun, b', hmu', hfix, cs', e, hb, hcr⟩ := h.hr.ob lv s _ hob
    rw [hmu] at hmu'; cases hmu'
    have hlv := objAt_lt hob
    simp only [List.length_append, List.length_singleton] at hlv
    have h4 : ag = false → sz = 1 := fun e => by subst e; simpa using hc
    obtain ⟨us, hus, hl, hvr⟩ := part_sound hcr hx h4
    refine ⟨bif ag then .agg us.toArray else us.getD 0 undef, ?_, hvr, V.under_mono (by omega) (part_under hcr hx hun), fun l s e => ?_⟩
    · simp only [hv, Sem.run_bind, run_asAddr, Result.andThen_ok]
      exact run_loadVar' ha hs blk off us hl (by rw [hus]; exact rangeAt_block hb off sz) h4
    · have := part_free hx
      subst e; cases this
theorem results_sound {N : Nat} {st : St} {a : Act} (h : SR st g N a w) {keep : Bool} : ∀ {rs : List ResultVar} {Rs : List Res} {ys : List V}, ressOf P rs = some Rs → resVs keep st Rs = some ys → ∀ {g1}, Freeze st.H.length g g1 →
    ∃ vs g', (rs.mapM (fun | .tmp t => pure (a.tmps.getD t undef) | .cell b t => do loadVar t (← asAddr (a.tmps.getD b undef)) : ResultVar → Sem Value)).run P w = .ok vs w ∧ Freeze st.H.length g1 g' ∧ F2 (ResOK w g' st.H.length) ys vs
  | [], Rs, ys, hr, hy, g1, hf => by
    cases hr; cases hy
    exact ⟨[], g1, by simp [List.mapM_nil], .refl _ _, .nil⟩
  | r :: rs, Rs, ys, hr, hy, g1, hf => by
    simp only [ressOf] at hr
    split at hr
    case h_2 => cases hr
    rename_i R Rs' h1 h2
    cases hr
    simp only [resVs] at hy
    split at hy
    case h_2 => cases hy
    rename_i y ys' h3 h4
    cases hy
    obtain ⟨x, hx, ho⟩ := Option.bind_eq_some_iff.1 h3
    obtain ⟨v, hrun, hv, hu, hown⟩ := resV_sound h h1 hx
    obtain ⟨g2, f2, r2⟩ := out_sound rfl h.gok h.hr hf (hv.keep (hf.keeps _) hu) hu (fun l s e => hf.own h.gok (hown l s e)) ho
    obtain ⟨vs, g3, hrun3, f3, r3⟩ := results_sound h h2 h4 (hf.trans f2)
    refine ⟨v :: vs, g3, ?_, f2.trans f3, .cons (r2.keep ((hf.trans f2).gok h.gok) f3) r3⟩
    rw [List.mapM_cons]
    simp only [Sem.run_bind, hrun, hrun3, Result.andThen_ok, Sem.run_pure]
end
end Go.Proofs.YtlacnkjkcikodaaDoor.Am
end
section
set_option linter.unusedVariables false
set_option linter.unusedSimpArgs false
set_option linter.constructorNameAsVariable false
namespace Go.Proofs.YtlacnkjkcikodaaDoor.Am
open Go
def GivenOK (P : Program) (f : FuncId) (G : Nat → List V → List Tab → Option (V × List Tab)) : Prop := ∀ lk args H r H', G lk args H = some (r, H') → lk ≤ H.length →
  H'.length = H.length ∧ (∀ i, i < lk → H'[i]? = H[i]?) ∧
  ∀ g w vals, GOK w g → HR w g H → F2 (VR w g) args vals → (∀ x ∈ args, x.under H.length = true ∧ x.free = true) → Enters P f vals.toArray w fun v w' => ∃ g', CallRes H.length w g lk H' r v w' g'
structure MachOK (P : Program) (M : Mach) : Prop where
  mix : P.follows .mixedOrders = true
  fns : ∀ f fn, M.fns f = some fn → ∃ eff keep, fnOf P eff keep f = some fn.bare
  given : ∀ f G, M.given f = some G → GivenOK P f G
theorem argsT_get : ∀ (l : List V) (k i : Nat), (argsT k l).get i = if k ≤ i then (l[i - k]?).getD .any else .any
  | [], k, i => by simp [argsT, Tm.get]
  | v :: l, k, i => by
    simp only [argsT, Tm.get]
    by_cases h : i = k
    · subst h; simp
    · rw [nbeq h, cond_false, argsT_get l (k + 1) i]
      by_cases h1 : k + 1 ≤ i
      · rw [if_pos h1, if_pos (by omega), show i - k = (i - (k + 1)) + 1 by omega, List.getElem?_cons_succ]
      · rw [if_neg h1, if_neg (by omega)]
section
variable {P : Program}
theorem enter_SR {w : World} {g : Gh} {H : List Tab} {args : List V} {vals : List Value} (hg : GOK w g) (hH : HR w g H) (hA : F2 (VR w g) args vals) (hU : ∀ x ∈ args, x.under H.length = true ∧ x.free = true) (k : Nat) :
    SR ⟨argsT 0 args, [], H⟩ g (vals.length + k) { tmps := vals.toArray ++ Array.replicate k undef, defers := [] } w := by
  have hT : ∀ i, (argsT 0 args).get i = (args[i]?).getD .any := fun i => by rw [argsT_get]; simp
  have hV : ∀ i, (vals.toArray ++ Array.replicate k undef).getD i undef = (vals[i]?).getD undef := fun i => by
    rw [Array.getD_eq_getD_getElem?, Array.getElem?_append]
    split
    · simp
    · rename_i hlt
      simp only [List.size_toArray] at hlt
      rw [Array.getElem?_replicate, List.getElem?_eq_none (l := vals) (by omega)]
      split <;> rfl
  have hfr : ∀ i, ((argsT 0 args).get i).free = true := fun i => by
    rw [hT]
    cases h : args[i]? with
    | none => rfl
    | some x => exact (hU x (List.mem_of_getElem? h)).2
  refine ⟨hg, hH.sub fun lv s o ho => ?_, ⟨fun i => ?_, fun i => ?_, fun i l s e => ?_, fun i l lv s c e => ?_⟩, by simp, rfl⟩
  · have hl := objAt_lt ho
    simp only [List.length_append, List.length_singleton] at hl
    rcases Nat.lt_or_ge lv H.length with h1 | h1
    · rw [objAt_old h1] at ho; exact ho
    · obtain rfl : lv = H.length := by omega
      rw [objAt_now] at ho
      simp [Tab.get] at ho
  · show VR _ _ ((argsT 0 args).get i) ((vals.toArray ++ Array.replicate k undef).getD i undef)
    rw [hT, hV]
    cases h : args[i]? with
    | none =>
      rw [List.getElem?_eq_none (l := vals) (by rw [← hA.length]; exact List.getElem?_eq_none_iff.1 h)]
      exact CR.any _
    | some x =>
      obtain ⟨v, hv, hr⟩ := hA.get i x h
      rw [hv]; exact hr
  · show ((argsT 0 args).get i).under _ = true
    rw [hT]
    cases h : args[i]? with
    | none => rfl
    | some x => exact V.under_mono (by show H.length ≤ H.length + 1; omega) (hU x (List.mem_of_getElem? h)).1
  · have h1 := hfr i
    have e : (argsT 0 args).get i = .sl l (.own s) := e
    rw [e] at h1; cases h1
  · have h1 := hfr i
    have e : (argsT 0 args).get i = .sl l (.cell lv s c) := e
    rw [e] at h1; cases h1
theorem fnOf_spec {eff keep : List FuncId} {f : FuncId} {fn : Fn} (h : fnOf P eff keep f = some fn.bare) : ∃ F c, P.funcs[f]? = some F ∧ F.body = some c ∧ codeOf P eff F.ntmps c = some fn.code.bare ∧ ressOf P F.results.toList = some fn.res ∧ (F.name == "runtime.NumGoroutine") = false := by
  unfold fnOf at h
  split at h
  case h_2 => cases h
  rename_i F hF
  split at h
  case h_2 => cases h
  rename_i c hc
  split at h
  case h_2 => cases h
  rename_i ac rs h1 h2
  split at h
  · cases h
  · rename_i hn
    have h := Option.some.inj h
    have e1 : fn.code.bare = ac := (congrArg Fn.code h).symm
    have e2 : fn.res = rs := (congrArg Fn.res h).symm
    exact ⟨F, c, hF, hc, by rw [e1]; exact h1, by rw [e2]; exact h2, by simpa using hn⟩
theorem run_enter {f : FuncId} {F : Func} {c : Go.Code} (hF : P.funcs[f]? = some F) (hc : F.body = some c) (hn : (F.name == "runtime.NumGoroutine") = false) (args : Array Value) (w : World) : (callFunc f args).run P w = .ok (.enter f args) w := by
  have h1 : F.name ≠ "runtime.NumGoroutine" := by simpa using hn
  simp [callFunc, program, Sem.run, hF, h1, hc]
theorem CallRes.nilOwn {n lk : Nat} {w w' : World} {g g' : Gh} {H' : List Tab} {v : Value} {t u : Tag} {r : V} (h : CallRes n w g lk H' (.sl [] t) v w' g') (key : t = .no ∧ u = .no ∧ r = .sl [] .no ∨ t = .nil ∧ ∃ s, u = .own s ∧ r = .sl [] (.own s)) : CallRes n w g lk H' r v w' g' := by
  rcases key with ⟨rfl, -, rfl⟩ | ⟨rfl, s, -, rfl⟩
  · exact h
  · have hc := h.vr.cr (fun _ e => by cases e) (fun _ e => by cases e)
    obtain ⟨A, c, e, h0⟩ : ∃ A c, v = .slice A 0 c ∧ c = 0 := by
      cases hc with
      | sl _ _ A c sz vs hc hn ht hp hz hd ha hr => exact ⟨A, c, rfl, ht.2.2⟩
    refine ⟨h.fr, h.hr, (CR.retag (t' := .own s) hc fun _ _ _ _ => trivial).vr, rfl, fun l s' e' => ?_, fun l lv s' c' e' => by cases e'⟩
    cases e'
    exact ⟨A, c, e, .inl h0⟩
theorem enter_sound {call : ACall} (ih : CallSound P call) (hmix : P.follows .mixedOrders = true) {f : FuncId} {fn : Fn} (hfn : ∃ eff keep, fnOf P eff keep f = some fn.bare) (k lk : Nat) (args : List V) (H : List Tab) (r : V) (H' : List Tab) (h : enter call lk k fn args H = some (r, H')) (hlk : lk ≤ H.length) :
    H'.length = H.length ∧ (∀ i, i < lk → H'[i]? = H[i]?) ∧
    ∀ g w vals, GOK w g → HR w g H → F2 (VR w g) args vals → (∀ x ∈ args, x.under H.length = true ∧ x.free = true) → Enters P f vals.toArray w fun v w' => ∃ g', CallRes H.length w g lk H' r v w' g' := by
  obtain ⟨eff, keep, hof⟩ := hfn
  unfold enter at h
  obtain ⟨F, c, hF, hb, hcode, hress, hname⟩ := fnOf_spec hof
  obtain ⟨ex, st, hrun, hex, l, hl, hrl, hH'⟩ : ∃ ex st, run call lk k fn.code ⟨argsT 0 args, [], H⟩ = some (ex, st) ∧ (ex = .nrm ∨ ex = .ret) ∧ ∃ l, resVs fn.keep st fn.res = some l ∧ ((∃ v, l = [v] ∧ r = v) ∨ (l.length ≠ 1 ∧ r = .tup l)) ∧ H' = st.H := by
    have fin : ∀ (ex : AEx) (st : St), (match resVs fn.keep st fn.res with
        | some [v] => some (v, st.H)
        | some l => some (.tup l, st.H)
        | none => none) = some (r, H') → ∃ l, resVs fn.keep st fn.res = some l ∧ ((∃ v, l = [v] ∧ r = v) ∨ (l.length ≠ 1 ∧ r = .tup l)) ∧ H' = st.H := by
      intro ex st h
      split at h
      · rename_i v hv; cases h; exact ⟨_, hv, .inl ⟨_, rfl, rfl⟩, rfl⟩
      · rename_i l hne hv; cases h
        refine ⟨_, hv, .inr ⟨fun e => ?_, rfl⟩, rfl⟩
        obtain ⟨x, rfl⟩ := List.length_eq_one_iff.1 e
        exact hne x rfl
      · cases h
    split at h
    · rename_i st hr; exact ⟨_, st, hr, .inl rfl, fin .nrm st h⟩
    · rename_i st hr; exact ⟨_, st, hr, .inr rfl, fin .ret st h⟩
    · cases h
  have hlock := run_lock ih k (st := ⟨argsT 0 args, [], H⟩) hlk hrun
  subst hH'
  refine ⟨hlock.1, hlock.2, fun g w vals hg hHR hA hU => ?_⟩
  refine .inl ⟨f, vals.toArray, run_enter hF hb hname _ _, calls_of_wp hF hb ?_⟩
  have hs := enter_SR hg hHR hA hU (F.ntmps - vals.toArray.size)
  refine (run_sound ih hmix (by simp; omega) k).1 hcode hs hlk hrun fun g1 a1 w1 hs1 hf1 => ?_
  have hlen : st.H.length = H.length := hlock.1
  obtain ⟨vs, g2, hrs, f2, r2⟩ := results_sound hs1 hress hl (.refl _ _)
  have hres : (results F a1.tmps).run P w1 = .ok (if h : vs.toArray.size = 1 then vs.toArray[0] else .tuple vs.toArray) w1 := by
    unfold results
    rw [Array.mapM_eq_mapM_toList]
    simp only [Sem.run_bind, Sem.run_map]
    erw [hrs]
    simp only [Result.andThen_ok, Sem.run_pure]
  have hgok2 := f2.gok hs1.gok
  have hfr2 : Fr lk H.length w g w1 g2 := hf1.trans (by have := f2.fr hs1.gok (lk := lk) (by rw [hlen]; exact hlk); rw [hlen] at this; exact this)
  have hHR2 : HR w1 g2 st.H := f2.hr hs1.gok (hs1.hr.sub fun lv s o ho => by rw [objAt_old (objAt_lt ho)]; exact ho) (Nat.le_refl _)
  have key : a1.defers = [] ∧ ∃ v, (results F a1.tmps).run P w1 = .ok v w1 ∧ ∃ v', Ending.returned v = Ending.returned v' ∧ ∃ g', CallRes H.length w g lk st.H r v' w1 g' := by
    refine ⟨hs1.df, _, hres, _, rfl, g2, ?_⟩
    have hlv := r2.length
    rw [hlen] at r2
    rcases hrl with ⟨v, rfl, rfl⟩ | ⟨hne, rfl⟩
    · cases r2 with
      | cons hv ht =>
        cases ht
        simp only [List.size_toArray, List.length_singleton, dite_true, List.getElem_toArray, List.getElem_cons_zero]
        refine ⟨hfr2, hHR2, hv.vr.vr hv.tup, ?_, hv.own, hv.cell⟩
        rw [V.under_eq hv.tup]; exact hv.un
    · rw [dif_neg (by simp only [List.size_toArray]; rw [← hlv]; exact hne)]
      refine ⟨hfr2, hHR2, ⟨vs, rfl, F2.imp r2 fun y v _ h => h.vr⟩, ?_, (by intro l s e; cases e), (by intro l lv s c e; cases e)⟩
      show l.all (V.under0 H.length) = true
      rw [List.all_eq_true]
      intro y hy
      obtain ⟨i, hi⟩ := List.getElem?_of_mem hy
      obtain ⟨v, -, hv⟩ := r2.get i y hi
      exact hv.un
  rcases hex with rfl | rfl <;> exact key
theorem CR.nilOr {w : World} {g : Gh} {v : Value} (h : CR w g (.sl [] .no) v) : CR w g (.sl [] .nil) v ∨ CR w g (.sl [] .nn) v := by
  have h0 := h
  cases h with
  | sl _ _ A c sz vs hc hn ht hp hz hd ha hr =>
    cases A with
    | none =>
      refine .inl (h0.retag fun A' c' e _ => ?_)
      cases e
      exact ⟨rfl, rfl, hn rfl⟩
    | some a =>
      refine .inr (h0.retag fun A' c' e _ => ?_)
      cases e
      intro e; cases e
theorem acall_sound {M : Mach} (hM : MachOK P M) : ∀ k, CallSound P (acall M k)
  | 0 => fun lk f args H r H' h => by simp [acall] at h
  | k + 1 => by
    have ih := acall_sound hM k
    intro lk f args H r H' h hlk
    simp only [acall] at h
    split at h
    · rename_i G hG
      exact hM.given f G hG lk args H r H' h hlk
    · split at h
      · cases h
      · rename_i fn hfn
        have hE := fun args r H' h => enter_sound ih hM.mix (hM.fns f fn hfn) k lk args H r H' h hlk
        unfold enterS at h
        cases hs : (fn.split && noRow args) with
        | false => rw [hs] at h; exact hE args r H' h
        | true =>
          rw [hs, cond_true] at h
          simp only [Bool.and_eq_true] at hs
          obtain ⟨rest, rfl⟩ : ∃ rest, args = .sl [] .no :: rest := by
            have := hs.2
            unfold noRow at this
            split at this
            · exact ⟨_, rfl⟩
            · cases this
          simp only [List.tail_cons] at h
          unfold joinN at h
          split at h
          case h_2 => cases h
          rename_i t H1 u H2 h1 h2
          obtain ⟨a1, b1, c1⟩ := hE _ _ _ h1
          obtain ⟨a2, b2, c2⟩ := hE _ _ _ h2
          cases hb : Nat.ble H.length lk with
          | false => rw [hb] at h; cases h
          | true =>
            rw [hb, cond_true] at h
            have hle : H.length ≤ lk := Nat.le_of_ble_eq_true hb
            have e1 : H1 = H := List.ext_getElem? fun i => by
              by_cases hi : i < lk
              · exact b1 i hi
              · rw [List.getElem?_eq_none (by omega), List.getElem?_eq_none (by omega)]
            have e2 : H2 = H := List.ext_getElem? fun i => by
              by_cases hi : i < lk
              · exact b2 i hi
              · rw [List.getElem?_eq_none (by omega), List.getElem?_eq_none (by omega)]
            have key : (t = .no ∧ u = .no ∧ r = .sl [] .no ∨ t = .nil ∧ ∃ s, u = .own s ∧ r = .sl [] (.own s)) ∧ H' = H := by
              split at h
              · cases h; exact ⟨.inl ⟨rfl, rfl, rfl⟩, rfl⟩
              · cases h; exact ⟨.inr ⟨rfl, _, rfl, rfl⟩, rfl⟩
              · cases h
            obtain ⟨key, e3⟩ := key
            rw [e1] at c1; rw [e2] at c2; rw [← e3] at c1 c2
            subst e3
            refine ⟨rfl, fun _ _ => rfl, fun g w vals hg hH hA hU => ?_⟩
            have hU' : ∀ t', (t' = Tag.nil ∨ t' = .nn) → ∀ x ∈ V.sl [] t' :: rest, x.under H'.length = true ∧ x.free = true := fun t' ht x hx => by
              rcases List.mem_cons.1 hx with rfl | hx
              · rcases ht with rfl | rfl <;> exact ⟨rfl, rfl⟩
              · exact hU x (List.mem_cons_of_mem _ hx)
            cases hA with
            | cons hv hrest =>
              rcases CR.nilOr (hv.cr (fun _ e => by cases e) (fun _ e => by cases e)) with hn | hn
              · refine (c1 g w _ hg hH (.cons hn.vr hrest) (hU' _ (.inl rfl))).imp ?_ ?_
                · rintro ⟨m, asn, q1, q2⟩
                  refine ⟨m, asn, q1, q2.mono ?_⟩
                  rintro e w' ⟨v, rfl, g', hr⟩
                  exact ⟨v, rfl, g', hr.nilOwn key⟩
                · rintro ⟨v, w', q1, g', hr⟩
                  exact ⟨v, w', q1, g', hr.nilOwn key⟩
              · refine (c2 g w _ hg hH (.cons hn.vr hrest) (hU' _ (.inr rfl))).imp ?_ ?_
                · rintro ⟨m, asn, q1, q2⟩
                  refine ⟨m, asn, q1, q2.mono ?_⟩
                  rintro e w' ⟨v, rfl, g', hr⟩
                  refine ⟨v, rfl, g', ?_⟩
                  rcases key with ⟨-, rfl, rfl⟩ | ⟨-, s, rfl, rfl⟩ <;> exact hr
                · rintro ⟨v, w', q1, g', hr⟩
                  refine ⟨v, w', q1, g', ?_⟩
                  rcases key with ⟨-, rfl, rfl⟩ | ⟨-, s, rfl, rfl⟩ <;> exact hr
end
end Go.Proofs.YtlacnkjkcikodaaDoor.Am
end
section
set_option linter.unusedVariables false
set_option linter.unusedSimpArgs false
set_option linter.constructorNameAsVariable false
namespace Go.Proofs.YtlacnkjkcikodaaDoor.Am
open Go
def CLe (c c' : ACall) : Prop := ∀ lk f a H r, c lk f a H = some r → c' lk f a H = some r
theorem CLe.refl (c : ACall) : CLe c c := fun _ _ _ _ _ h => h
section
variable {call call' : ACall} {lk : Nat}
theorem sop_mono (hc : CLe call call') {st : St} {d : Option Nat} {op : AOp} {st' : St} (h : sop call lk st d op = some st') : sop call' lk st d op = some st' := by
  cases op with
  | call lock f args =>
    simp only [sop] at h ⊢
    split at h
    case h_2 => cases h
    rename_i m caps hF
    (try rw [hF])
    (try simp only)
    split at h
    case h_2 => cases h
    rename_i r H' hcall
    rw [hc _ _ _ _ _ hcall]; exact h
  | _ => exact h
theorem pop_mono (hc : CLe call call') {st : St} {T : Tm} {d : Option Nat} {op : AOp} {r : V × Option Ob} (h : pop call st T d op = some r) : pop call' st T d op = some r := by
  cases op with
  | call lock f args =>
    simp only [pop] at h ⊢
    split at h
    case h_2 => cases h
    rename_i m caps hF
    (try rw [hF])
    (try simp only)
    split at h
    case h_2 => cases h
    rename_i r' H' hcall
    rw [hc _ _ _ _ _ hcall]; exact h
  | _ => exact h
theorem seqOps_mono (hc : CLe call call') : ∀ {l : List AOper} {st st' : St}, seqOps call lk l st = some st' → seqOps call' lk l st = some st'
  | [], st, st', h => h
  | o :: l, st, st', h => by
    simp only [seqOps] at h ⊢
    split at h
    · rename_i hw
      (try rw [hw])
      (try simp only)
      split at h
      · rename_i s1 h1
        rw [sop_mono hc h1]; exact seqOps_mono hc h
      · cases h
    · rename_i hw
      (try rw [hw]); exact seqOps_mono hc h
    · cases h
theorem parOps_mono (hc : CLe call call') {st : St} : ∀ {l : List AOper} {T : Tm} {N : Tab} {r : Tm × Tab}, parOps call st l T N = some r → parOps call' st l T N = some r
  | [], T, N, r, h => h
  | o :: l, T, N, r, h => by
    simp only [parOps] at h ⊢
    split at h
    · rename_i hw
      (try rw [hw])
      (try simp only)
      split at h
      · rename_i v ob h1
        rw [pop_mono hc h1]; exact parOps_mono hc h
      · cases h
    · rename_i hw
      (try rw [hw]); exact parOps_mono hc h
    · cases h
theorem runReg_mono (hc : CLe call call') {m : Nat} {ops : List AOper} {st st' : St} (h : runReg call lk m ops st = some st') : runReg call' lk m ops st = some st' := by
  unfold runReg at h ⊢
  simp only at h ⊢
  split at h
  · exact seqOps_mono hc h
  · split at h
    · rename_i T L h1
      rw [parOps_mono hc h1]; exact seqOps_mono hc h
    · cases h
theorem run_mono (hc : CLe call call') : ∀ {n m : Nat}, n ≤ m → ∀ {c : ACode} {st : St} {r : AEx × St}, run call lk n c st = some r → run call' lk m c st = some r
  | 0, m, _, c, st, r, h => by simp [run] at h
  | n + 1, 0, hnm, c, st, r, h => by omega
  | n + 1, m + 1, hnm, c, st, r, h => by
    have hnm : n ≤ m := by omega
    cases c with
    | skip => exact h
    | reg k ops =>
      simp only [run] at h ⊢
      obtain ⟨s, h1, rfl⟩ := Option.map_eq_some_iff.1 h
      rw [runReg_mono hc h1]; rfl
    | seq a b =>
      simp only [run] at h ⊢
      split at h
      · rename_i s h1
        rw [run_mono hc hnm h1]; exact run_mono hc hnm h
      · rename_i hne
        have h : run call lk n a st = some r := h
        rw [run_mono hc hnm h]
        obtain ⟨ex, s⟩ := r
        cases ex with
        | nrm => exact absurd h (hne _)
        | exit id => rfl
        | ret => rfl
    | cond c a b =>
      simp only [run] at h ⊢
      split at h
      · rename_i t ht
        (try rw [ht])
        cases t with
        | true => exact run_mono hc hnm h
        | false => exact run_mono hc hnm h
      · cases h
    | block id c =>
      simp only [run] at h ⊢
      split at h
      · rename_i i s h1
        rw [run_mono hc hnm h1]; exact h
      · rename_i hne
        have h : run call lk n c st = some r := h
        rw [run_mono hc hnm h]
        obtain ⟨ex, s⟩ := r
        cases ex with
        | nrm => rfl
        | exit id => exact absurd h (hne _ _)
        | ret => rfl
    | loop c =>
      simp only [run] at h ⊢
      split at h
      · rename_i s h1
        rw [run_mono hc hnm h1]; exact run_mono hc hnm h
      · rename_i hne
        have h : run call lk n c st = some r := h
        rw [run_mono hc hnm h]
        obtain ⟨ex, s⟩ := r
        cases ex with
        | nrm => exact absurd h (hne _)
        | exit id => rfl
        | ret => rfl
    | exit id => exact h
    | ret => exact h
    | scope c => simp only [run] at h ⊢; exact run_mono hc hnm h
    | keep ts ls c => simp only [run] at h ⊢; exact run_mono hc hnm h
end
theorem enter_mono {call call' : ACall} (hc : CLe call call') {n m : Nat} (hnm : n ≤ m) {lk : Nat} {fn : Fn} {a : List V} {H : List Tab} {r : V × List Tab} (h : enter call lk n fn a H = some r) : enter call' lk m fn a H = some r := by
  unfold enter at h ⊢
  split at h
  · rename_i st hr
    rw [run_mono hc hnm hr]; exact h
  · rename_i st hr
    rw [run_mono hc hnm hr]; exact h
  · cases h
theorem joinN_mono {lk : Nat} {H : List Tab} {a b a' b' : Option (V × List Tab)} (ha : ∀ r, a = some r → a' = some r) (hb : ∀ r, b = some r → b' = some r) {r : V × List Tab} (h : joinN lk H a b = some r) : joinN lk H a' b' = some r := by
  cases a with
  | none => simp [joinN] at h
  | some x =>
    cases b with
    | none => unfold joinN at h; split at h <;> simp_all
    | some y => rw [ha x rfl, hb y rfl]; exact h
theorem enterS_mono {call call' : ACall} (hc : CLe call call') {n m : Nat} (hnm : n ≤ m) {lk : Nat} {fn : Fn} {a : List V} {H : List Tab} {r : V × List Tab} (h : enterS call lk n fn a H = some r) : enterS call' lk m fn a H = some r := by
  unfold enterS at h ⊢
  cases hs : (fn.split && noRow a) with
  | false => rw [hs] at h; exact enter_mono hc hnm h
  | true => rw [hs] at h; exact joinN_mono (fun _ h => enter_mono hc hnm h) (fun _ h => enter_mono hc hnm h) h
theorem acall_mono (M : Mach) : ∀ {n m : Nat}, n ≤ m → CLe (acall M n) (acall M m)
  | 0, m, _ => fun lk f a H r h => by simp [acall] at h
  | n + 1, 0, h => by omega
  | n + 1, m + 1, hnm => by
    intro lk f a H r h
    have hnm : n ≤ m := by omega
    simp only [acall] at h ⊢
    split at h
    · rename_i G hG; (try rw [hG]); exact h
    · rename_i hG
      (try rw [hG])
      (try simp only)
      split at h
      · cases h
      · rename_i fn hfn
        (try rw [hfn])
        (try simp only)
        exact enterS_mono (acall_mono M hnm) hnm h
def Ans (M : Mach) (lk : Nat) (f : FuncId) (args : List V) (H : List Tab) (r : V) (H' : List Tab) : Prop := ∃ k, acall M k lk f args H = some (r, H')
def Runs (M : Mach) (lk : Nat) (c : ACode) (st : St) (ex : AEx) (st' : St) : Prop := ∃ k, run (acall M k) lk k c st = some (ex, st')
def RegR (M : Mach) (lk m : Nat) (ops : List AOper) (st st' : St) : Prop := ∃ k, runReg (acall M k) lk m ops st = some st'
section
variable {M : Mach} {lk : Nat}
theorem Runs.up {c : ACode} {st st' : St} {ex : AEx} {k : Nat} (h : run (acall M k) lk k c st = some (ex, st')) {m : Nat} (hm : k ≤ m) : run (acall M m) lk m c st = some (ex, st') := run_mono (acall_mono M hm) hm h
theorem Runs.skip {st : St} : Runs M lk .skip st .nrm st := ⟨1, rfl⟩
theorem Runs.ret {st : St} : Runs M lk .ret st .ret st := ⟨1, rfl⟩
theorem Runs.exit {st : St} {id : Nat} : Runs M lk (.exit id) st (.exit id) st := ⟨1, rfl⟩
theorem Runs.reg {m : Nat} {ops : List AOper} {st st' : St} (h : RegR M lk m ops st st') : Runs M lk (.reg m ops) st .nrm st' := by
  obtain ⟨k, h⟩ := h
  exact ⟨k + 1, by simp only [run]; rw [runReg_mono (acall_mono M (Nat.le_succ k)) h]; rfl⟩
theorem Runs.seq {a b : ACode} {st s1 st' : St} {ex : AEx} (h : Runs M lk a st .nrm s1) (h' : Runs M lk b s1 ex st') : Runs M lk (.seq a b) st ex st' := by
  obtain ⟨k, h⟩ := h
  obtain ⟨k', h'⟩ := h'
  refine ⟨max k k' + 1, ?_⟩
  simp only [run]
  rw [run_mono (acall_mono M (by omega)) (by omega : k ≤ max k k') h]
  exact run_mono (acall_mono M (by omega)) (by omega : k' ≤ max k k') h'
theorem Runs.cond {c : X} {a b : ACode} {st st' : St} {ex : AEx} {t : Bool} (hc : c.ev st.T = .bool t) (h : Runs M lk (bif t then a else b) st ex st') : Runs M lk (.cond c a b) st ex st' := by
  obtain ⟨k, h⟩ := h
  refine ⟨k + 1, ?_⟩
  simp only [run, hc]
  cases t <;> exact run_mono (acall_mono M (Nat.le_succ k)) (Nat.le_refl k) h
theorem Runs.block {id : Nat} {c : ACode} {st st' : St} {ex : AEx} (h : Runs M lk c st ex st') : Runs M lk (.block id c) st (match ex with | .exit i => bif Nat.beq i id then .nrm else .exit i | e => e) st' := by
  obtain ⟨k, h⟩ := h
  refine ⟨k + 1, ?_⟩
  simp only [run]
  rw [run_mono (acall_mono M (Nat.le_succ k)) (Nat.le_refl k) h]
  cases ex with
  | nrm => rfl
  | ret => rfl
  | exit i => simp only; cases Nat.beq i id <;> rfl
theorem Runs.loop {c : ACode} {st s1 st' : St} {ex : AEx} (h : Runs M lk c st .nrm s1) (h' : Runs M lk (.loop c) s1 ex st') : Runs M lk (.loop c) st ex st' := by
  obtain ⟨k, h⟩ := h
  obtain ⟨k', h'⟩ := h'
  refine ⟨max k k' + 1, ?_⟩
  simp only [run]
  rw [run_mono (acall_mono M (by omega)) (by omega : k ≤ max k k') h]
  exact run_mono (acall_mono M (by omega)) (by omega : k' ≤ max k k') h'
theorem Runs.scope {c : ACode} {st st' : St} {ex : AEx} (h : Runs M lk c st ex st') : Runs M lk (.scope c) st ex st' := by
  obtain ⟨k, h⟩ := h
  exact ⟨k + 1, by simp only [run]; exact run_mono (acall_mono M (Nat.le_succ k)) (Nat.le_refl k) h⟩
theorem Runs.keep {ts ls : List Nat} {c : ACode} {st st' : St} {ex : AEx} (h : Runs M lk c (st.keep ts ls) ex st') : Runs M lk (.keep ts ls c) st ex st' := by
  obtain ⟨k, h⟩ := h
  exact ⟨k + 1, by simp only [run]; exact run_mono (acall_mono M (Nat.le_succ k)) (Nat.le_refl k) h⟩
theorem RegR.of {m : Nat} {ops : List AOper} {st st' : St} (h : ∀ call, runReg call lk m ops st = some st') : RegR M lk m ops st st' := ⟨0, h _⟩
def tupOf : List V → V
  | [v] => v
  | l => .tup l
theorem Ans.of {f : FuncId} {fn : Fn} (hg : M.given f = none) (hf : M.fns f = some fn) (hsp : fn.split = false) {args : List V} {H : List Tab} {ex : AEx} {st : St} (h : Runs M lk fn.code ⟨argsT 0 args, [], H⟩ ex st) (hx : ex = .nrm ∨ ex = .ret) {l : List V} (hl : resVs fn.keep st fn.res = some l) :
    Ans M lk f args H (tupOf l) st.H := by
  obtain ⟨k, h⟩ := h
  refine ⟨k + 1, ?_⟩
  simp only [acall, hg, hf, enterS, hsp, Bool.false_and, cond_false, enter]
  rw [h]
  rcases hx with rfl | rfl <;> simp only [hl] <;> (match l with | [] => rfl | [_] => rfl | _ :: _ :: _ => rfl)
theorem Ans.given {f : FuncId} {G : Nat → List V → List Tab → Option (V × List Tab)} (hg : M.given f = some G) {args : List V} {H H' : List Tab} {r : V} (h : G lk args H = some (r, H')) : Ans M lk f args H r H' := ⟨1, by simp only [acall, hg]; exact h⟩
end
end Go.Proofs.YtlacnkjkcikodaaDoor.Am
end
section
set_option linter.unusedVariables false
set_option linter.unusedSimpArgs false
namespace Go.Proofs.YtlacnkjkcikodaaDoor.Am
open Go Go.RowKit
def topPin (w : World) (h : Laid w) : Pin := ⟨fun b => w.heap[b]?, fun w' hw => by
  unfold Laid Lib.TabIs World.var? at h ⊢
  cases hg : Program.globalNamed Tryd.prog "internal/strconv.uint64pow10" with
  | none => rw [hg] at h; cases h
  | some g =>
    rw [hg] at h
    simp only [Option.bind_some] at h ⊢
    split at h
    · rename_i c e f hc
      rw [hw _ _ hc]; exact h
    · cases h⟩
def topG (w : World) (h : Laid w) : Gh := { pin := topPin w h, mu := fun _ _ => none, fix := fun b => match w.heap[b]? with | some (.cells cs _ _) => cs.size | _ => 0, owner := fun _ => none }
theorem topG_ok (w : World) (hL : Laid w) : GOK w (topG w hL) := ⟨fun _ _ _ _ _ h => (by cases h), fun _ _ _ h => (by cases h), fun _ _ h => (by cases h), fun _ _ h => ⟨h, rfl, fun _ _ h => (by cases h)⟩⟩
theorem topG_hr (w : World) (hL : Laid w) : HR w (topG w hL) [] := ⟨fun _ _ _ h => (by simp [objAt] at h), fun _ _ _ _ _ h => (by simp [objAt] at h)⟩
theorem topG_fix {w : World} {hL : Laid w} {b o : Nat} {v : Value} (h : w.cell? ⟨b, o, none⟩ = some v) : o < (topG w hL).fix b := by
  unfold World.cell? at h
  split at h
  · rename_i cs e fr hx
    simp only at hx
    simp only [topG, hx]
    split at h
    · cases h
    · exact (Array.getElem?_eq_some_iff.1 h).1
  · cases h
section
variable {P : Program}
theorem top_calls {M : Mach} (hM : MachOK P M) {f : FuncId} {F : Func} {c : Go.Code} (hF : P.funcs[f]? = some F) (hc : F.body = some c) (hn : (F.name == "runtime.NumGoroutine") = false) {args : List V} {r : V} {H' : List Tab} (h : Ans M 0 f args [] r H') {w : World} (hL : Laid w) {vals : List Value} (hA : F2 (VR w (topG w hL)) args vals) (hU : ∀ x ∈ args, x.under 0 = true ∧ x.free = true) :
    Calls P f vals.toArray w fun e w' => ∃ v g', e = .returned v ∧ VR w' g' r v ∧ Below w.heap.size w w' := by
  obtain ⟨k, h⟩ := h
  obtain ⟨-, -, hE⟩ := acall_sound hM k 0 f args [] r H' h (Nat.le_refl _)
  rcases hE (topG w hL) w vals (topG_ok w hL) (topG_hr w hL) hA hU with ⟨m, asn, h1, h2⟩ | ⟨v, w', h1, -⟩
  · rw [run_enter hF hc hn] at h1
    cases h1
    refine h2.mono ?_
    rintro e w' ⟨v, rfl, g', hr⟩
    refine ⟨v, g', rfl, hr.vr, hr.fr.io.1, hr.fr.io.2.1, hr.fr.io.2.2, hr.fr.size, fun b hb => (hr.fr.same b hb ?_).1⟩
    rintro (⟨lv, s, -, h⟩ | ⟨lv, s, c, -, h⟩ | ⟨lv, s, -, h⟩) <;> cases h
  · rw [run_enter hF hc hn] at h1; cases h1
theorem top_true {M : Mach} (hM : MachOK P M) {f : FuncId} {F : Func} {c : Go.Code} (hF : P.funcs[f]? = some F) (hc : F.body = some c) (hn : (F.name == "runtime.NumGoroutine") = false) {args : List V} {H' : List Tab} (h : Ans M 0 f args [] (.bool true) H') {w : World} (hL : Laid w) {vals : List Value} (hA : F2 (VR w (topG w hL)) args vals) (hU : ∀ x ∈ args, x.under 0 = true ∧ x.free = true) :
    Calls P f vals.toArray w fun e w' => e = .returned (.bool true) ∧ Below w.heap.size w w' := by
  refine (top_calls hM hF hc hn h hL hA hU).mono ?_
  rintro e w' ⟨v, g', rfl, hv, hb⟩
  rw [hv.bool]; exact ⟨rfl, hb⟩
theorem top_sl {α : Type} {R : α → List Value → Prop} {sz : Nat} {w : World} {hL : Laid w} {A : Option Addr} {n : Nat} {ps : List α} (enc : α → V) (h1 : ps.length = n) (h2 : 0 < n → ∃ ad, A = some ad ∧ ∀ j p, ps[j]? = some p → ∃ c : List Value, c.length = sz ∧ R p c ∧ ∀ i u, c[i]? = some u → w.cell? (ad.add (j * sz + i)) = some u) (hsz : 0 < sz) (henc : ∀ p c, R p c → c.length = sz → CRs w (topG w hL) (enc p).cells c ∧ ∀ y ∈ (enc p).cells, y.pure = true) {c : Nat} (hc : n ≤ c) (hA : A = none → c = 0) : CR w (topG w hL) (.sl (ps.map enc) .no) (.slice A n c) := by
  have hlen : (ps.map enc).length = n := by simp [h1]
  by_cases h0 : n = 0
  · subst h0
    have hps : ps = [] := List.eq_nil_of_length_eq_zero h1
    subst hps
    exact .sl [] .no A c 1 (fun _ _ => undef) (Nat.zero_le _) hA trivial (by omega) (by simp) (by simp) (fun h => absurd rfl h) (by simp)
  · obtain ⟨ad, rfl, hcell⟩ := h2 (by omega)
    have hsp : ad.spot = none := by
      have hp : 0 < ps.length := by omega
      obtain ⟨c0, e1, -, e3⟩ := hcell 0 ps[0] (List.getElem?_eq_getElem hp)
      have hc0 : 0 < c0.length := by omega
      have := e3 0 c0[0] (List.getElem?_eq_getElem hc0)
      obtain ⟨b, o, s⟩ := ad
      cases s with
      | none => rfl
      | some s =>
        exfalso
        unfold World.cell? at this
        split at this
        · rename_i hx
          have hs : ((⟨b, o, some s⟩ : Addr).add (0 * sz + 0)).spot.isSome = true := by simp [Addr.add]
          rw [if_pos hs] at this; cases this
        · cases this
    have hex : ∀ j, j < ps.length → ∃ cj : List Value, cj.length = sz ∧ (∀ p, ps[j]? = some p → R p cj) ∧ ∀ i u, cj[i]? = some u → w.cell? ⟨ad.block, ad.off + (j * sz + i), none⟩ = some u := fun j hj => by
      obtain ⟨cj, e1, e2, e3⟩ := hcell j ps[j] (List.getElem?_eq_getElem hj)
      refine ⟨cj, e1, fun p hp => ?_, fun i u hu => ?_⟩
      · rw [List.getElem?_eq_getElem hj] at hp; cases hp; exact e2
      · rw [← addr_eta hsp]; exact e3 i u hu
    let cs : Nat → List Value := fun j => if hj : j < ps.length then (hex j hj).choose else []
    have hcs : ∀ j, j < ps.length → (cs j).length = sz ∧ (∀ p, ps[j]? = some p → R p (cs j)) ∧ ∀ i u, (cs j)[i]? = some u → w.cell? ⟨ad.block, ad.off + (j * sz + i), none⟩ = some u := fun j hj => by
      simp only [cs, dif_pos hj]; exact (hex j hj).choose_spec
    have hel : ∀ (i : Nat) (x : V), (ps.map enc)[i]? = some x → ∃ p, ps[i]? = some p ∧ x = enc p ∧ i < ps.length ∧ R p (cs i) := fun i x hx => by
      rw [List.getElem?_map] at hx
      obtain ⟨p, hp, rfl⟩ := Option.map_eq_some_iff.1 hx
      have hi := (List.getElem?_eq_some_iff.1 hp).1
      exact ⟨p, hp, rfl, hi, (hcs i hi).2.1 p hp⟩
    have hm : ∀ x ∈ ps.map enc, x.cells.length = sz ∧ ∀ y ∈ x.cells, y.pure = true := fun x hx => by
      obtain ⟨i, hi⟩ := List.getElem?_of_mem hx
      obtain ⟨p, hp, rfl, hlt, hr⟩ := hel i x hi
      obtain ⟨q1, q2⟩ := henc p _ hr (hcs i hlt).1
      exact ⟨by rw [q1.length]; exact (hcs i hlt).1, q2⟩
    rw [← hlen]
    refine .sl (ps.map enc) .no (some ad) c sz (fun i j => (cs i).getD j undef) (by rw [hlen]; exact hc) (fun h => by cases h) trivial hsz (fun x hx => (hm x hx).1) (fun x hx => (hm x hx).2) (fun _ => ⟨ad, rfl, hsp, ?_, fun i j hi hj => ?_⟩) (fun i x hx j y hy => ?_)
    · have hl : n - 1 < ps.length := by omega
      obtain ⟨q1, -, q3⟩ := hcs (n - 1) hl
      have hz : sz - 1 < (cs (n - 1)).length := by omega
      have := topG_fix (hL := hL) (q3 (sz - 1) _ (List.getElem?_eq_getElem hz))
      rw [hlen]
      have h3 : n * sz = (n - 1) * sz + sz := by rw [← Nat.succ_mul]; congr 1; omega
      omega
    · have hi : i < ps.length := by simpa using hi
      obtain ⟨q1, -, q3⟩ := hcs i hi
      have hj' : j < (cs i).length := by omega
      have := q3 j _ (List.getElem?_eq_getElem hj')
      rw [Nat.add_assoc, this]
      simp [List.getD_eq_getElem?_getD, List.getElem?_eq_getElem hj']
    · obtain ⟨p, hp, rfl, hlt, hr⟩ := hel i x hx
      obtain ⟨q1, -⟩ := henc p _ hr (hcs i hlt).1
      obtain ⟨u, hu, hcr⟩ := q1.get j y hy
      simp only [List.getD_eq_getElem?_getD, hu, Option.getD_some]
      exact hcr
end
end Go.Proofs.YtlacnkjkcikodaaDoor.Am
end
section
set_option linter.unusedVariables false
set_option linter.unusedSimpArgs false
namespace Go.Proofs.YtlacnkjkcikodaaDoor.Am
open Go
structure Rule where
  left : Int
  right : List Int
  deriving DecidableEq, Inhabited
structure Gram where
  names : List ByteArray
  terms : List ByteArray
  start : Int
  rules : List Rule
  deriving DecidableEq, Inhabited
theorem digit_inj {a b : Nat} (ha : a < 10) (hb : b < 10) (h : UInt8.ofNat (48 + a) = UInt8.ofNat (48 + b)) : a = b := by
  have := congrArg UInt8.toNat h
  simp only [UInt8.toNat_ofNat'] at this
  omega
theorem decDigits_ne (u : Nat) : Lib.decDigits u ≠ [] := by
  intro h
  have := Lib.decDigits_length u
  have h2 := Lib.nDigits_pos u
  rw [h] at this
  simp at this; omega
theorem decDigits_inj : ∀ (u v : Nat), Lib.decDigits u = Lib.decDigits v → u = v := by
  intro u
  induction u using Nat.strongRecOn with
  | _ u ih =>
    intro v h
    by_cases hu : u < 10
    · by_cases hv : v < 10
      · rw [Lib.decDigits_one hu, Lib.decDigits_one hv] at h
        exact digit_inj hu hv (by simpa using h)
      · exfalso
        rw [Lib.decDigits_one hu, Lib.decDigits, dif_neg hv] at h
        have h1 := congrArg List.length h
        have h2 := List.length_pos_iff.2 (decDigits_ne (v / 10))
        rw [List.length_append, List.length_singleton, List.length_singleton] at h1; omega
    · by_cases hv : v < 10
      · exfalso
        rw [Lib.decDigits_one hv, Lib.decDigits, dif_neg hu] at h
        have h1 := congrArg List.length h
        have h2 := List.length_pos_iff.2 (decDigits_ne (u / 10))
        rw [List.length_append, List.length_singleton, List.length_singleton] at h1; omega
      · rw [Lib.decDigits, dif_neg hu] at h
        rw [show Lib.decDigits v = Lib.decDigits (v / 10) ++ [UInt8.ofNat (48 + v % 10)] by rw [Lib.decDigits, dif_neg hv]] at h
        obtain ⟨h1, h2⟩ := List.append_inj' h rfl
        have e1 := ih (u / 10) (by omega) _ h1
        have e2 := digit_inj (Nat.mod_lt u (by omega)) (Nat.mod_lt v (by omega)) (by simpa using h2)
        omega
theorem decDigits_byte : ∀ (u : Nat) (b : UInt8), b ∈ Lib.decDigits u → 48 ≤ b.toNat ∧ b.toNat ≤ 57 := by
  intro u
  induction u using Nat.strongRecOn with
  | _ u ih =>
    intro b hb
    by_cases hu : u < 10
    · rw [Lib.decDigits_one hu] at hb
      obtain rfl := List.mem_singleton.1 hb
      simp only [UInt8.toNat_ofNat']; omega
    · rw [Lib.decDigits, dif_neg hu] at hb
      rcases List.mem_append.1 hb with h | h
      · exact ih (u / 10) (by omega) b h
      · obtain rfl := List.mem_singleton.1 h
        simp only [UInt8.toNat_ofNat']; omega
theorem itoa_byte (n : Int) (b : UInt8) (h : b ∈ Lib.itoa n) : b ≠ 32 := by
  intro e
  subst e
  unfold Lib.itoa at h
  split at h
  · rcases List.mem_cons.1 h with h | h
    · exact absurd h (by decide)
    · have := (decDigits_byte _ _ h).1; revert this; decide
  · have := (decDigits_byte _ _ h).1; revert this; decide
theorem itoa_inj {a b : Int} (h : Lib.itoa a = Lib.itoa b) : a = b := by
  have head : ∀ (n : Nat), (Lib.decDigits n).head? ≠ some 45 := by
    intro n e
    have : (45 : UInt8) ∈ Lib.decDigits n := by
      cases hl : Lib.decDigits n with
      | nil => rw [hl] at e; cases e
      | cons x r => rw [hl] at e; simp at e; subst e; simp
    have := (decDigits_byte _ _ this).1; revert this; decide
  unfold Lib.itoa at h
  by_cases ha : a < 0 <;> by_cases hb : b < 0
  · rw [if_pos ha, if_pos hb] at h
    have := decDigits_inj _ _ (by simpa using h); omega
  · rw [if_pos ha, if_neg hb] at h
    exact absurd (by rw [← h]; rfl) (head b.toNat)
  · rw [if_neg ha, if_pos hb] at h
    exact absurd (by rw [h]; rfl) (head a.toNat)
  · rw [if_neg ha, if_neg hb] at h
    have := decDigits_inj _ _ h; omega
theorem itoa_len (n : Int) (h0 : -9223372036854775808 ≤ n) (h1 : n ≤ 9223372036854775807) : (Lib.itoa n).length ≤ 20 := by
  have hd : ∀ u : Nat, u ≤ 9223372036854775808 → (Lib.decDigits u).length ≤ 19 := by
    intro u hu
    rw [Lib.decDigits_length]
    rcases Nat.lt_or_ge 19 (Lib.nDigits u) with h | h
    · exfalso
      have key : ∀ (k u : Nat), k + 1 ≤ Lib.nDigits u → u ≠ 0 → 10 ^ k ≤ u := by
        intro k
        induction k with
        | zero => intro u _ h0; simp; omega
        | succ k ih =>
          intro u h h0
          by_cases hu : u < 10
          · rw [Lib.nDigits_small hu] at h; omega
          · rw [Lib.nDigits_big hu] at h
            have := ih (u / 10) (by omega) (by omega)
            rw [Nat.pow_succ]; omega
      by_cases hz : u = 0
      · subst hz; rw [Lib.nDigits_small (by omega)] at h; omega
      · have := key 19 u (by omega) hz
        omega
    · exact h
  unfold Lib.itoa
  split
  · have := hd n.natAbs (by omega); simp only [List.length_cons]; omega
  · have := hd n.toNat (by omega); omega
def keyW (l : List Int) : List UInt8 := l.flatMap fun s => 32 :: Lib.itoa s
def keyL (r : Rule) : List UInt8 := Lib.itoa r.left ++ keyW r.right
theorem split32 {x y X Y : List UInt8} (hx : ∀ b ∈ x, b ≠ 32) (hy : ∀ b ∈ y, b ≠ 32) (hX : X = [] ∨ X.head? = some 32) (hY : Y = [] ∨ Y.head? = some 32) (h : x ++ X = y ++ Y) : x = y ∧ X = Y := by
  induction x generalizing y with
  | nil =>
    cases y with
    | nil => exact ⟨rfl, h⟩
    | cons b y =>
      exfalso
      rw [List.nil_append] at h
      rcases hX with e | e
      · rw [e] at h; cases h
      · rw [h] at e; simp at e; exact hy b (by simp) e
  | cons a x ih =>
    cases y with
    | nil =>
      exfalso
      rw [List.nil_append] at h
      rcases hY with e | e
      · rw [e] at h; cases h
      · rw [← h] at e; simp at e; exact hx a (by simp) e
    | cons b y =>
      injection h with h1 h2
      obtain ⟨e1, e2⟩ := ih (y := y) (fun b hb => hx b (List.mem_cons_of_mem _ hb)) (fun b hb => hy b (List.mem_cons_of_mem _ hb)) h2
      exact ⟨by rw [h1, e1], e2⟩
theorem keyW_head (l : List Int) : keyW l = [] ∨ (keyW l).head? = some 32 := by
  cases l with
  | nil => exact .inl rfl
  | cons a l => exact .inr rfl
theorem keyW_inj : ∀ {l m : List Int}, keyW l = keyW m → l = m := by
  intro l
  induction l with
  | nil => intro m h; cases m with
    | nil => rfl
    | cons a m => cases h
  | cons a l ih =>
    intro m h
    cases m with
    | nil => cases h
    | cons b m =>
      have h2 : Lib.itoa a ++ keyW l = Lib.itoa b ++ keyW m := by
        simp only [keyW, List.flatMap_cons, List.cons_append] at h
        injection h
      obtain ⟨e1, e2⟩ := split32 (itoa_byte a) (itoa_byte b) (keyW_head l) (keyW_head m) h2
      rw [itoa_inj e1, ih e2]
theorem keyL_inj {r s : Rule} (h : keyL r = keyL s) : r = s := by
  obtain ⟨e1, e2⟩ := split32 (itoa_byte _) (itoa_byte _) (keyW_head _) (keyW_head _) h
  cases r; cases s
  have h1 := itoa_inj e1
  have h2 := keyW_inj e2
  simp only at h1 h2
  rw [h1, h2]
theorem keyW_len (l : List Int) (h : ∀ s ∈ l, -9223372036854775808 ≤ s ∧ s ≤ 9223372036854775807) : (keyW l).length ≤ 21 * l.length := by
  induction l with
  | nil => simp [keyW]
  | cons a l ih =>
    have h1 := itoa_len a (h a (by simp)).1 (h a (by simp)).2
    have h2 := ih (fun s hs => h s (List.mem_cons_of_mem _ hs))
    simp only [keyW, List.flatMap_cons, List.length_append, List.length_cons] at h2 ⊢
    omega
def symOk (n : Int) : Bool := decide (-9223372036854775808 ≤ n ∧ n ≤ 9223372036854775807)
def ruleOk (r : Rule) : Bool := symOk r.left && decide (r.right.length ≤ 1000000) && r.right.all symOk
def hexd (n : Nat) : UInt8 := UInt8.ofNat (if n < 10 then 48 + n else 87 + n)
def escB (b : UInt8) : List UInt8 := if b.toNat = 10 then [92, 110] else if b.toNat = 9 then [92, 116] else if b.toNat < 32 ∨ 126 < b.toNat then [92, 120, hexd (b.toNat / 16), hexd (b.toNat % 16)] else if b.toNat = 34 ∨ b.toNat = 92 then [92, b] else [b]
def quoteL (l : List UInt8) : List UInt8 := 34 :: (l.flatMap escB ++ [34])
theorem escB_le (b : UInt8) : (escB b).length ≤ 4 := by unfold escB; split <;> (try split) <;> (try split) <;> (try split) <;> simp
theorem escL_le (l : List UInt8) : (l.flatMap escB).length ≤ 4 * l.length := by
  induction l with
  | nil => simp
  | cons b l ih => have := escB_le b; simp only [List.flatMap_cons, List.length_append, List.length_cons]; omega
theorem take_snocB (s : ByteArray) (k : Nat) (h : k < s.size) : s.data.toList.take (k + 1) = s.data.toList.take k ++ [s[k]] := by
  rw [List.take_succ_eq_append_getElem (by simpa using h)]; rfl
def quoteP (s : ByteArray) (k : Nat) : List UInt8 := 34 :: (s.data.toList.take k).flatMap escB
theorem quoteP_le (s : ByteArray) (k : Nat) (h : k ≤ s.size) : (quoteP s k).length ≤ 4 * k + 1 := by
  unfold quoteP
  have := escL_le (s.data.toList.take k)
  have h2 : (s.data.toList.take k).length ≤ k := List.length_take_le ..
  simp only [List.length_cons]; omega
theorem quoteP_succ (s : ByteArray) (k : Nat) (h : k < s.size) : quoteP s (k + 1) = quoteP s k ++ escB s[k] := by
  unfold quoteP; rw [take_snocB s k h]; simp
theorem digit_at : ∀ n : Fin 16, ((⟨#[48, 49, 50, 51, 52, 53, 54, 55, 56, 57, 97, 98, 99, 100, 101, 102]⟩ : ByteArray)[n.val]'n.isLt) = hexd n.val := by decide
def quoteB (s : ByteArray) : ByteArray := ⟨(quoteL s.data.toList).toArray⟩
def itoaB (n : Int) : ByteArray := ⟨(Lib.itoa n).toArray⟩
def keyB (r : Rule) : ByteArray := ⟨(keyL r).toArray⟩
end Go.Proofs.YtlacnkjkcikodaaDoor.Am
end
section
set_option linter.unusedVariables false
set_option linter.unusedSimpArgs false
namespace Go.Proofs.YtlacnkjkcikodaaDoor.Am
open Go Go.RowKit Go.ChangeShapes Go.WideShapes Go.Deep
def OpensA {α : Type} (P : Program) (W : World) (hL : Laid W) (t : TypeId) (enc : α → V) (sz : Nat) (G : α → Prop) : Prop :=
  ∀ (H : Type) (ec : TypeId × Value → H) (base : Nat) (sp : Nat → Bool) (held : Bool) (fuel : Nat) (cs : List Value) (x : DataW H × List MemPlace), DataW.trod ec P W base sp held fuel t cs = some x →
    (∀ n ∈ x.1.weights P t, n ≤ reachBytes) → ∃ y, cs.length = sz ∧ CRs W (topG W hL) (enc y).cells cs ∧ (∀ z ∈ (enc y).cells, z.pure = true) ∧ G y
section
variable {P : Program} {W : World} {hL : Laid W} {t : TypeId}
theorem pure1 {x : V} (h : x.pure = true) (hc : x.cells = [x] := by rfl) : ∀ z ∈ x.cells, z.pure = true := fun z hz => by
  rw [hc] at hz
  rcases List.mem_cons.1 hz with rfl | hz
  · exact h
  · cases hz
theorem crs1 {w : World} {g : Gh} {x : V} {v : Value} (h : CR w g x v) : CRs w g [x] [v] := .cons h .nil
theorem opensA_string (ht : P.underlying t = some .string) : OpensA P W hL t V.str 1 (fun s => s.size ≤ reachBytes) := by
  intro H enc base sp held fuel cs x h hw
  obtain ⟨s, rfl, rfl, hs⟩ := DataW.trod_string ht h
  exact ⟨s, rfl, crs1 (.str s), pure1 rfl, by have := hw s.data.toList.length (by simp [DataW.weights]); rwa [Array.length_toList] at this⟩
theorem opensA_int {k : IntKind} (ht : P.underlying t = some (.int k)) : OpensA P W hL t (V.int k) 1 (fun n => (Lit.int k n).wf = true) := by
  intro H enc base sp held fuel cs x h hw
  obtain ⟨n, rfl, _, hn⟩ := DataW.trod_int ht h
  exact ⟨n, rfl, crs1 (.int k n), pure1 rfl, hn⟩
theorem memA_weights {H : Type} {e : TypeId} {d : DataW H} : ∀ {l : List (DataW H)}, d ∈ l → ∀ n ∈ d.weights P e, n ∈ DataW.weightsAll P e l
  | [], h, _, _ => (List.not_mem_nil h).elim
  | x :: r, h, n, hn => by
    simp only [DataW.weightsAll, List.mem_append]
    rcases List.mem_cons.1 h with rfl | h
    · exact .inl hn
    · exact .inr (memA_weights h n hn)
theorem opensA_slice {α : Type} [Inhabited α] {e : TypeId} {enc : α → V} {sz : Nat} {G : α → Prop} (ht : P.underlying t = some (.slice e)) (hc : P.cellsOf e = sz) (hsz : 0 < sz) (he : OpensA P W hL e enc sz G) :
    OpensA P W hL t (fun l : List α => V.sl (l.map enc) .no) 1 (fun l => (∀ y ∈ l, G y) ∧ l.length * P.bytesOf e ≤ reachBytes ∧ l.length ≤ maxLen) := by
  intro H ec base sp held fuel cs x h hw
  rcases Deep.open_slice ht h with ⟨rfl, _⟩ | ⟨a, len, cap, m, n, D, Pl, rfl, hb, hl, hm, hmm, rfl, hx⟩
  · exact ⟨[], rfl, crs1 (top_sl (α := α) (R := fun _ _ => False) (sz := 1) enc rfl (fun h => absurd h (by simp)) (by omega) (fun _ _ h => h.elim) (Nat.le_refl _) (fun _ => rfl)), pure1 rfl, fun y hy => (List.not_mem_nil hy).elim, by simp, Nat.zero_le _⟩
  have hlm : len ≤ m := by rw [hmm]; split <;> omega
  simp only [DataW.weights, ht] at hw
  have hsz2 : len * P.bytesOf e ≤ reachBytes := by
    have h1 := hw _ List.mem_cons_self
    rw [List.length_map, List.length_map, List.length_range, List.length_range] at h1
    exact Nat.le_trans (Nat.mul_le_mul_right _ (by omega)) h1
  obtain ⟨Y, hY⟩ := Deep.choose_lt (α := α) (n := len) (p := fun i y => (∃ c : List Value, c.length = sz ∧ (CRs W (topG W hL) (enc y).cells c ∧ ∀ z ∈ (enc y).cells, z.pure = true) ∧ ∀ j u, c[j]? = some u → W.cell? (a.add (i * sz + j)) = some u) ∧ G y) (fun i hi => by
    obtain ⟨cs', h1, h2⟩ := hx i (by omega)
    rw [hc] at h1
    obtain ⟨_, hlen, hcell⟩ := World.cells?_some h1
    obtain ⟨y, hy0, hy, hp, hg⟩ := he H ec base sp held n cs' _ h2 (fun k hk => hw k (List.mem_cons_of_mem _ (List.mem_append_left _ (memA_weights (d := D i) (List.mem_map.2 ⟨i, List.mem_range.2 hi, rfl⟩) k hk))))
    refine ⟨y, ⟨cs', hlen, ⟨hy, hp⟩, fun j u hj => ?_⟩, hg⟩
    have hjl : j < sz := by rw [← hlen]; exact (List.getElem?_eq_some_iff.1 hj).1
    have := hcell j hjl
    rw [Deep.add_add] at this
    rw [this]; exact hj)
  have hl2 : ((List.range len).map Y).length = len := by simp
  refine ⟨(List.range len).map Y, rfl, crs1 ?_, pure1 rfl, fun y hy => ?_, by rw [hl2]; exact hsz2, ?_⟩
  · refine top_sl (R := fun y c => c.length = sz ∧ CRs W (topG W hL) (enc y).cells c ∧ ∀ z ∈ (enc y).cells, z.pure = true) (sz := sz) enc hl2 (fun _ => ⟨a, rfl, fun j p hj => ?_⟩) hsz (fun p c hr _ => hr.2) hl (fun h => by cases h)
    have hjl : j < len := by have := (List.getElem?_eq_some_iff.1 hj).1; simpa using this
    rw [List.getElem?_map, List.getElem?_range hjl] at hj
    obtain rfl := Option.some.inj hj
    obtain ⟨c, q1, q2, q3⟩ := (hY j hjl).1
    exact ⟨c, q1, ⟨q1, q2⟩, q3⟩
  · obtain ⟨i, hi, rfl⟩ := List.mem_map.1 hy
    exact (hY i (List.mem_range.1 hi)).2
  · rw [hl2]; omega
theorem opensA_mono {α : Type} {enc : α → V} {sz : Nat} {G G' : α → Prop} (h : OpensA P W hL t enc sz G) (hg : ∀ y, G y → G' y) : OpensA P W hL t enc sz G' := by
  intro H ec base sp held fuel cs x hx hw
  obtain ⟨y, h1, h2, h3, hG⟩ := h H ec base sp held fuel cs x hx hw
  exact ⟨y, h1, h2, h3, hg y hG⟩
theorem opensA_two {α β γ : Type} {f0 f1 : Field} {ea : α → V} {eb : β → V} {Ga : α → Prop} {Gb : β → Prop} (ht : P.underlying t = some (.struct #[f0, f1])) (hone : oneCellFields P #[f0, f1] = true) (hC : P.cellsOf t = 2)
    (ha : OpensA P W hL f0.type ea 1 Ga) (hb : OpensA P W hL f1.type eb 1 Gb) (c1 : ∀ x, (ea x).cells = [ea x]) (c2 : ∀ x, (eb x).cells = [eb x]) (g : α → β → γ) (eg : γ → V) (hfg : ∀ x y, eg (g x y) = .agg [ea x, eb y]) : OpensA P W hL t eg 2 (fun z => ∃ x y, z = g x y ∧ Ga x ∧ Gb y) := by
  intro H enc base sp held fuel cs x h hw
  obtain ⟨y0, y1, n, rfl, hl, h0, h1⟩ := trod_struct2 ht h
  obtain ⟨o0, k0⟩ := Deep.hone_of hone 0 f0 rfl
  obtain ⟨o1, k1⟩ := Deep.hone_of hone 1 f1 rfl
  rw [hC] at hl
  obtain ⟨v0, v1, rfl⟩ : ∃ c0 c1, cs = [c0, c1] := by
    match cs, hl with
    | [c0, c1], _ => exact ⟨c0, c1, rfl⟩
  simp only [DataW.weights, ht, List.map_cons, List.map_nil, DataW.weightsEach, List.append_nil, List.mem_append] at hw
  obtain ⟨x0, -, hx0, p0, g0⟩ := ha H enc base sp held n [v0] y0 (by simpa [o0, k0] using h0) (fun k hk => hw k (.inl hk))
  obtain ⟨x1, -, hx1, p1, g1⟩ := hb H enc base sp held n [v1] y1 (by simpa [o1, k1] using h1) (fun k hk => hw k (.inr hk))
  rw [c1] at hx0 p0
  rw [c2] at hx1 p1
  refine ⟨g x0 x1, rfl, ?_, ?_, x0, x1, rfl, g0, g1⟩
  · rw [hfg]
    cases hx0 with
    | cons a _ => cases hx1 with
      | cons b _ => exact .cons a (.cons b .nil)
  · rw [hfg]
    intro z hz
    simp only [V.cells, List.mem_cons, List.not_mem_nil, or_false] at hz
    rcases hz with rfl | rfl
    · exact p0 _ List.mem_cons_self
    · exact p1 _ List.mem_cons_self
theorem weigh {H : Type} {ts : List TypeId} {ds : List (DataW H)} (h : (DataW.weightsEach P ts ds).all (· ≤ reachBytes) = true) {j : Nat} {d : DataW H} (ht : ts[j]? = some t) (hd : ds[j]? = some d) : ∀ n ∈ d.weights P t, n ≤ reachBytes := fun n hn =>
  of_decide_eq_true (List.all_eq_true.1 h n (DataW.weights_mem_each ht hd n hn))
end
end Go.Proofs.YtlacnkjkcikodaaDoor.Am
end
section
set_option linter.unusedVariables false
set_option linter.unusedSimpArgs false
namespace Go.Proofs.YtlacnkjkcikodaaDoor.Am
open Go
theorem nbq (m n : Nat) : Nat.beq m n = decide (m = n) := by
  by_cases h : m = n
  · subst h; simp
  · simp [nbeq h, h]
theorem nblt (m n : Nat) : Nat.blt m n = decide (m < n) := by
  by_cases h : m < n
  · simp [h, Nat.blt_eq]
  · rw [decide_eq_false h]
    cases e : Nat.blt m n with
    | false => rfl
    | true => rw [Nat.blt_eq] at e; exact absurd e h
theorem nble (m n : Nat) : Nat.ble m n = decide (m ≤ n) := by
  by_cases h : m ≤ n
  · simp [h, Nat.ble_eq]
  · rw [decide_eq_false h]
    cases e : Nat.ble m n with
    | false => rfl
    | true => exact absurd (Nat.le_of_ble_eq_true e) h
theorem wrap_i64 {n : Int} (h : -9223372036854775808 ≤ n) (h2 : n ≤ 9223372036854775807) : IntKind.i64.wrap n = n := IntWalk.i64_in n ⟨h, h2⟩
def leaveF (fn : Fn) : Option (AEx × St) → Option (V × List Tab)
  | some (.nrm, st) => (resVs fn.keep st fn.res).map fun l => (tupOf l, st.H)
  | some (.ret, st) => (resVs fn.keep st fn.res).map fun l => (tupOf l, st.H)
  | _ => none
theorem decT {p : Prop} [Decidable p] (h : p) : decide p = true := decide_eq_true h
theorem decF {p : Prop} [Decidable p] (h : ¬p) : decide p = false := decide_eq_false h
theorem Ob.kill_cells {n : Nat} {ds : List Nat} {l : List V} : Ob.kill n ds (.cells l) = .cells (l.map (V.kill1 n ds)) := rfl
section
variable {call : ACall} {lk : Nat}
def seqS (call : ACall) (lk : Nat) (x : Option St) (l : List AOper) : Option St := match x with
  | some st => seqOps call lk l st
  | none => none
def seqW (call : ACall) (lk : Nat) (w : Option Bool) (o : AOper) (l : List AOper) (st : St) : Option St := match w with
  | some true => seqS call lk (sop call lk st o.d o.op) l
  | some false => seqOps call lk l { st with T := putD st.T o.d .undef }
  | none => none
theorem seqOps_nil {st : St} : seqOps call lk [] st = some st := rfl
theorem seqOps_cons {o : AOper} {l : List AOper} {st : St} : seqOps call lk (o :: l) st = seqW call lk (wants st.T o.g) o l st := by
  simp only [seqOps, seqW]
  split <;> rename_i h <;> simp only [h] <;> rfl
theorem seqW_true {o : AOper} {l : List AOper} {st : St} : seqW call lk (some true) o l st = seqS call lk (sop call lk st o.d o.op) l := rfl
theorem seqW_false {o : AOper} {l : List AOper} {st : St} : seqW call lk (some false) o l st = seqOps call lk l { st with T := putD st.T o.d .undef } := rfl
theorem seqS_some {l : List AOper} {st : St} : seqS call lk (some st) l = seqOps call lk l st := rfl
def parS (call : ACall) (st : St) (x : Option (V × Option Ob)) (d : Option Nat) (l : List AOper) (T : Tm) (N : Tab) : Option (Tm × Tab) := match x with
  | some (v, ob) => parOps call st l (putD T d v) (putL N d ob)
  | none => none
def parW (call : ACall) (st : St) (w : Option Bool) (o : AOper) (l : List AOper) (T : Tm) (N : Tab) : Option (Tm × Tab) := match w with
  | some true => parS call st (pop call st T o.d o.op) o.d l T N
  | some false => parOps call st l (putD T o.d .undef) N
  | none => none
theorem parOps_nil {st : St} {T : Tm} {N : Tab} : parOps call st [] T N = some (T, N) := rfl
theorem parOps_cons {o : AOper} {l : List AOper} {st : St} {T : Tm} {N : Tab} : parOps call st (o :: l) T N = parW call st (wants T o.g) o l T N := by
  simp only [parOps, parW]
  split <;> rename_i h <;> simp only [h] <;> rfl
theorem parW_true {o : AOper} {l : List AOper} {st : St} {T : Tm} {N : Tab} : parW call st (some true) o l T N = parS call st (pop call st T o.d o.op) o.d l T N := rfl
theorem parW_false {o : AOper} {l : List AOper} {st : St} {T : Tm} {N : Tab} : parW call st (some false) o l T N = parOps call st l (putD T o.d .undef) N := rfl
theorem parS_some {v : V} {ob : Option Ob} {d : Option Nat} {l : List AOper} {st : St} {T : Tm} {N : Tab} : parS call st (some (v, ob)) d l T N = parOps call st l (putD T d v) (putL N d ob) := rfl
def regK (call : ACall) (lk : Nat) (x : Option (Tm × Tab)) (l : List AOper) (st : St) : Option St := match x with
  | some (T, L) => seqOps call lk l { st with T := T, L := L }
  | none => none
def regP (call : ACall) (lk m : Nat) (ops : List AOper) (st : St) : Option St := regK call lk (parOps call st (ops.take m) st.T st.L) (ops.drop m) st
def regB (call : ACall) (lk : Nat) (b : Bool) (m : Nat) (ops : List AOper) (st : St) : Option St := bif b then seqOps call lk ops st else regP call lk m ops (st.prep (prods m ops))
theorem runReg_eq {m : Nat} {ops : List AOper} {st : St} : runReg call lk m ops st = regB call lk (decide (m = 0)) m ops st := by
  unfold runReg regB regP
  cases m with
  | zero => simp [prods, St.prep]
  | succ m => simp [regK]; rfl
theorem regB_true {m : Nat} {ops : List AOper} {st : St} : regB call lk true m ops st = seqOps call lk ops st := rfl
theorem regB_false {m : Nat} {ops : List AOper} {st : St} : regB call lk false m ops st = regP call lk m ops (st.prep (prods m ops)) := rfl
theorem regP_eq {m : Nat} {ops : List AOper} {st : St} : regP call lk m ops st = regK call lk (parOps call st (ops.take m) st.T st.L) (ops.drop m) st := rfl
theorem regK_some {T : Tm} {L : Tab} {l : List AOper} {st : St} : regK call lk (some (T, L)) l st = seqOps call lk l { st with T := T, L := L } := rfl
def leaveR (x : Option (List V)) (H : List Tab) : Option (V × List Tab) := x.map fun l => (tupOf l, H)
theorem leaveR_some {l : List V} {H : List Tab} : leaveR (some l) H = some (tupOf l, H) := rfl
def leaveG (keep : Bool) (res : List Res) : Option (AEx × St) → Option (V × List Tab)
  | some (.nrm, st) => leaveR (resVs keep st res) st.H
  | some (.ret, st) => leaveR (resVs keep st res) st.H
  | _ => none
theorem leaveG_nrm {keep : Bool} {res : List Res} {st : St} : leaveG keep res (some (.nrm, st)) = leaveR (resVs keep st res) st.H := rfl
theorem leaveG_ret {keep : Bool} {res : List Res} {st : St} : leaveG keep res (some (.ret, st)) = leaveR (resVs keep st res) st.H := rfl
theorem leaveG_eq {fn : Fn} {x : Option (AEx × St)} : leaveF fn x = leaveG fn.keep fn.res x := by
  match x with
  | none => rfl
  | some (.nrm, _) => rfl
  | some (.ret, _) => rfl
  | some (.exit _, _) => rfl
theorem leaveF_nrm {fn : Fn} {st : St} : leaveF fn (some (.nrm, st)) = leaveR (resVs fn.keep st fn.res) st.H := rfl
theorem leaveF_ret {fn : Fn} {st : St} : leaveF fn (some (.ret, st)) = leaveR (resVs fn.keep st fn.res) st.H := rfl
def resK (x : Option V) (y : Option (List V)) : Option (List V) := match x, y with
  | some v, some l => some (v :: l)
  | _, _ => none
theorem resK_some {v : V} {l : List V} : resK (some v) (some l) = some (v :: l) := rfl
theorem resVs_nil {keep : Bool} {st : St} : resVs keep st [] = some [] := rfl
theorem resVs_cons {keep : Bool} {st : St} {r : Res} {l : List Res} : resVs keep st (r :: l) = resK ((resV st r).bind (V.out keep st.L st.H.length)) (resVs keep st l) := rfl
end
section
variable {sz : Nat} {v : V} {l m : List V} {k : IntKind}
theorem szOK_nil : szOK sz [] = true := rfl
theorem szOK_cons : szOK sz (v :: l) = (v.cells.length == sz && szOK sz l) := rfl
theorem szOK_app : szOK sz (l ++ m) = (szOK sz l && szOK sz m) := by simp [szOK]
theorem szOK_map {α : Type} {f : α → V} {q : List α} (h : ∀ a, (f a).cells.length = sz) : szOK sz (q.map f) = true := by
  unfold szOK; rw [List.all_eq_true]; intro x hx; obtain ⟨a, -, rfl⟩ := List.mem_map.1 hx; simp [h a]
theorem szOK_int {q : List Int} : szOK 1 (q.map (V.int k)) = true := szOK_map fun _ => rfl
theorem szOK_str {q : List ByteArray} : szOK 1 (q.map V.str) = true := szOK_map fun _ => rfl
theorem szOK_bool {q : List Bool} : szOK 1 (q.map V.bool) = true := szOK_map fun _ => rfl
theorem szOK_take {n : Nat} (h : szOK sz l = true) : szOK sz (l.take n) = true := by
  unfold szOK at h ⊢; rw [List.all_eq_true] at h ⊢; exact fun x hx => h x (List.mem_of_mem_take hx)
theorem szOK_drop {n : Nat} (h : szOK sz l = true) : szOK sz (l.drop n) = true := by
  unfold szOK at h ⊢; rw [List.all_eq_true] at h ⊢; exact fun x hx => h x (List.mem_of_mem_drop hx)
end
theorem iteT {α : Sort _} {p : Prop} [Decidable p] {a b : α} (h : p) : (if p then a else b) = a := if_pos h
theorem iteF {α : Sort _} {p : Prop} [Decidable p] {a b : α} (h : ¬p) : (if p then a else b) = b := if_neg h
theorem toList_loop (bs : ByteArray) : ∀ (n i : Nat) (r : List UInt8), bs.size - i = n → ByteArray.toList.loop bs i r = r.reverse ++ bs.data.toList.drop i := by
  intro n
  induction n with
  | zero =>
    intro i r h
    unfold ByteArray.toList.loop
    have hs : bs.data.toList.length = bs.size := by simp
    rw [if_neg (by omega), List.drop_eq_nil_of_le (by omega)]; simp
  | succ n ih =>
    intro i r h
    unfold ByteArray.toList.loop
    have hs : bs.data.toList.length = bs.size := by simp
    rw [if_pos (by omega), ih (i + 1) _ (by omega), List.drop_eq_getElem_cons (by omega : i < bs.data.toList.length)]
    have e : bs.get! i = bs.data.toList[i]'(by omega) := by
      simp [ByteArray.get!]
      have hl : i < bs.data.size := by simpa using (by omega : i < bs.data.toList.length)
      rw [getElem!_pos bs.data i hl]
    rw [e]; simp
theorem toList_data (bs : ByteArray) : bs.toList = bs.data.toList := by
  unfold ByteArray.toList
  rw [toList_loop bs _ 0 [] rfl]; simp
theorem bytes_eq (a b : ByteArray) : (a.toList == b.toList) = decide (a = b) := by
  by_cases h : a = b
  · subst h; simp
  · rw [decide_eq_false h, beq_eq_false_iff_ne]
    intro e
    rw [toList_data, toList_data] at e
    exact h (by cases a; cases b; simp_all)
section
variable {k : IntKind} {a b : Int}
theorem bi_add : V.bin .add (.int k a) (.int k b) = some (.int k (k.wrap (a + b))) := by simp [V.bin, intBin]
theorem bi_sub : V.bin .sub (.int k a) (.int k b) = some (.int k (k.wrap (a - b))) := by simp [V.bin, intBin]
theorem bi_mul : V.bin .mul (.int k a) (.int k b) = some (.int k (k.wrap (a * b))) := by simp [V.bin, intBin]
theorem bi_quo : V.bin .quo (.int k a) (.int k b) = if b = 0 then none else some (.int k (k.wrap (a.tdiv b))) := by simp [V.bin, intBin]
theorem bi_rem : V.bin .rem (.int k a) (.int k b) = if b = 0 then none else some (.int k (a.tmod b)) := by simp [V.bin, intBin]
theorem bi_eql : V.bin .eql (.int k a) (.int k b) = some (.bool (decide (a = b))) := by simp [V.bin, intBin]; rfl
theorem bi_neq : V.bin .neq (.int k a) (.int k b) = some (.bool (!decide (a = b))) := by simp [V.bin, intBin]; rfl
theorem bi_lss : V.bin .lss (.int k a) (.int k b) = some (.bool (decide (a < b))) := by simp [V.bin, intBin]
theorem bi_leq : V.bin .leq (.int k a) (.int k b) = some (.bool (decide (a ≤ b))) := by simp [V.bin, intBin]
theorem bi_gtr : V.bin .gtr (.int k a) (.int k b) = some (.bool (decide (b < a))) := by simp [V.bin, intBin]
theorem bi_geq : V.bin .geq (.int k a) (.int k b) = some (.bool (decide (b ≤ a))) := by simp [V.bin, intBin]
theorem bs_add {x y : ByteArray} (h : x.size + y.size ≤ 9223372036854775807) : V.bin .add (.str x) (.str y) = some (.str (x ++ y)) := by
  simp only [V.bin, strBin]
  rw [if_neg]
  show ¬ ((x.size + y.size : Nat) : Int) > 9223372036854775807
  omega
theorem bs_eql {x y : ByteArray} : V.bin .eql (.str x) (.str y) = some (.bool (decide (x = y))) := by simp only [V.bin, strBin, bytes_eq]
theorem bs_neq {x y : ByteArray} : V.bin .neq (.str x) (.str y) = some (.bool (!decide (x = y))) := by simp only [V.bin, strBin, bytes_eq]
theorem al_i : V.alike .i (.int k a) (.int k b) = some (decide (a = b)) := by simp [V.alike]; rfl
theorem al_s {x y : ByteArray} : V.alike .s (.str x) (.str y) = some (decide (x = y)) := by simp only [V.alike, bytes_eq]
theorem al_b {x y : Bool} : V.alike .b (.bool x) (.bool y) = some (x == y) := rfl
theorem al_p0 : V.alike .p .nilp .nilp = some true := rfl
theorem al_p1 {l s o : Nat} : V.alike .p .nilp (.ptr l s o) = some false := rfl
theorem al_p2 {l s o : Nat} : V.alike .p (.ptr l s o) .nilp = some false := rfl
theorem al_f0 : V.alike .f .nilf .nilf = some true := rfl
theorem al_f1 {f : FuncId} {c : List V} : V.alike .f .nilf (.fn f c) = some false := rfl
theorem al_f2 {f : FuncId} {c : List V} : V.alike .f (.fn f c) .nilf = some false := rfl
theorem al_m0 : V.alike .m .nilm .nilm = some true := rfl
theorem al_m1 {l s : Nat} : V.alike .m .nilm (.map l s) = some false := rfl
theorem al_m2 {l s : Nat} : V.alike .m (.map l s) .nilm = some false := rfl
theorem al_s0 : V.alike .sl (.sl [] .nil) (.sl [] .nil) = some true := rfl
theorem al_s1 {x : V} {l : List V} {t : Tag} : V.alike .sl (.sl (x :: l) t) (.sl [] .nil) = some false := rfl
theorem al_s2 : V.alike .sl (.sl [] .nn) (.sl [] .nil) = some false := rfl
end
theorem get_raw {α : Type} {a : α} {l : List α} : (a :: l)[nat_lit 0]? = some a := rfl
theorem Tm.get_self {i : Nat} {v : V} {r : Tm} : Tm.get ((i, v) :: r) i = v := by simp [Tm.get]
def oo (d : Nat) (x : AOp) : AOper := ⟨some d, none, x⟩
def og (d s : Nat) (w : Bool) (x : AOp) : AOper := ⟨some d, some (s, w), x⟩
def ox (x : AOp) : AOper := ⟨none, none, x⟩
def ci (n : Int) : X := .c (.int .i64 n)
def cf (f : FuncId) : X := .c (.fn f [])
attribute [simp] oo og ox ci cf leaveG_nrm leaveG_ret leaveF_nrm leaveF_ret leaveR_some nbq nblt nble runReg_eq regB_true regB_false regP_eq regK_some seqOps_nil seqOps_cons seqW_true seqW_false seqS_some parOps_nil parOps_cons parW_true parW_false parS_some resK_some resVs_nil resVs_cons prods prod makes St.prep putL pop wants sop sopD made madeV vop X.ev Tm.get Tm.set Tab.get Tab.set Tab.del Tab.kill Tm.mapV V.kill V.kill0 V.kill1 Tag.kill Ob.kill_cells hitB V.hit V.solid V.bare V.bare1 V.cells V.kept V.low V.low1 Tag.low St.obj St.setObj setCells putAt lent V.un part putD ret V.strip isOwn isOwn2 isCell isCellAt isCellOwn storeStrip V.under0 V.under1 V.capU V.kp V.holdC Ob.holdC Tm.keep Tab.keep St.keep St.keep0 Tm.canon Tm.canon1 ownT V.ren cellLost argsT resV V.out V.leave outRow outRows fill fillS elOf V.data V.data1 datas bnd appL dropHeld tupOf V.capOk findV mapOf
attribute [simp] Tm.get_self get_raw List.getElem?_cons_zero List.getElem?_cons_succ szOK_nil szOK_cons szOK_app szOK_int szOK_str szOK_bool szOK_take szOK_drop bytes_eq bi_add bi_sub bi_mul bi_quo bi_rem bi_eql bi_neq bi_lss bi_leq bi_gtr bi_geq bs_add bs_eql bs_neq al_i al_s al_b al_p0 al_p1 al_p2 al_f0 al_f1 al_f2 al_m0 al_m1 al_m2 al_s0 al_s1 al_s2
attribute [simp low] iteT iteF decT decF
end Go.Proofs.YtlacnkjkcikodaaDoor.Am
end
