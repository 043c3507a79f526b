/- An abstract machine over the loaded code, part M: a contract out of the code. -/
import Derived.Test.YtkpnlmainmlogaaVmL
set_option linter.unusedVariables false
set_option linter.unusedSimpArgs false
namespace Go.Vm

section
variable {P : Program} {E : Nat → Prop} {w : World} {ι : Inj} {N : Nat} {σ : St} {a : Act}

def resM (tmps : Array Value) : ResultVar → Sem Value
  | .tmp t => pure (tmps.getD t undef)
  | .cell a t => do loadVar t (← asAddr (tmps.getD a undef))

theorem loadAt_as {t : TypeId} {a v : Value} {w' : World} (h : (Instr.loadAt t a).run P w = .ok v w') : (do loadVar t (← asAddr a) : Sem Value).run P w = .ok v w' := by
  cases a with
  | pointer p =>
    cases p with
    | some q => simpa [Instr.loadAt, Instr.sureAddr, asAddr] using h
    | none => simp [Instr.loadAt, Instr.sureAddr, stuck] at h
  | _ => simp [Instr.loadAt, Instr.sureAddr, stuck] at h

theorem resL_sound (s : Sim N ι E σ a w) : ∀ {rs : List ResultVar} {K : List AV → Prop}, resL P σ rs K → ∃ vs xs, (rs.mapM (resM a.tmps)).run P w = .ok vs w ∧ RL E w ι xs vs.toArray ∧ K xs
  | [], K, h => ⟨[], [], by simp, rl_nil, h⟩
  | .tmp t :: r, K, h => by
    simp only [resL] at h
    split at h
    case h_2 => exact h.elim
    rename_i x hx
    obtain ⟨v, h1, h2⟩ := s.slots t x hx
    obtain ⟨vs, xs, g1, g2, g3⟩ := resL_sound s h
    refine ⟨v :: vs, x :: xs, ?_, ?_, g3⟩
    · simp [List.mapM_cons, resM, h1, g1]
    · have := RL.cons h2 g2
      simpa using this
  | .cell c t :: r, K, h => by
    simp only [resL] at h
    split at h
    case h_2 => exact h.elim
    rename_i x hx
    obtain ⟨v, h1, h2⟩ := s.slots c x hx
    obtain ⟨u, y, q1, q2, q3⟩ := ldQ_sound s.rep h2 h
    obtain ⟨vs, xs, g1, g2, g3⟩ := resL_sound s q3
    have q1' := loadAt_as q1
    refine ⟨u :: vs, y :: xs, ?_, ?_, g3⟩
    · simp only [List.mapM_cons, resM, show a.tmps.getD c undef = v by simp [h1], Sem.run_bind, q1', Result.andThen_ok, g1, Sem.run_pure]
    · have := RL.cons q2 g2
      simpa using this

theorem results_run {fn : Func} (s : Sim N ι E σ a w) {K : List AV → Prop} (h : resL P σ fn.results.toList K) : ∃ v xs, (results fn a.tmps).run P w = .ok v w ∧ Rel E w ι (one? xs) v ∧ K xs := by
  obtain ⟨vs, xs, h1, h2, h3⟩ := resL_sound s h
  have hr : (results fn a.tmps).run P w = .ok (if h : vs.toArray.size = 1 then vs.toArray[0] else .tuple vs.toArray) w := by
    have e : results fn a.tmps = (do
        let vs ← fn.results.mapM (resM a.tmps)
        pure (if h : vs.size = 1 then vs[0] else .tuple vs) : Sem Value) := by
      unfold results
      congr 2
    rw [e, Array.mapM_eq_mapM_toList]
    simp [h1]
  refine ⟨_, xs, hr, ?_, h3⟩
  have hl : xs.length = vs.length := h2.1
  cases vs with
  | nil =>
    cases xs with
    | nil => exact .tup _ _ h2.1 h2.2
    | cons x xs => simp at hl
  | cons v vs =>
    cases xs with
    | nil => simp at hl
    | cons x xs =>
      cases vs with
      | nil =>
        cases xs with
        | nil =>
          have := h2.2 0 x v (by simp) (by simp)
          simpa [one?] using this
        | cons x' xs => simp at hl
      | cons v' vs =>
        cases xs with
        | nil => simp at hl
        | cons x' xs =>
          simp only [List.size_toArray, List.length_cons, one?]
          rw [dif_neg (by omega)]
          exact .tup _ _ h2.1 h2.2

theorem frzR_sound {n : Nat} {h : Hp} (r : Rep ι E w n h) {x : AV} {v : Value} {K : AV → Prop} (hx : Rel E w ι x v) (hq : frzR h x K) : ∃ y, Rel (Eout ι h (fun i => i ∈ refsT x) E) w ι y v ∧ K y := by
  cases x with
  | tup vs =>
    cases hx with
    | tup _ c hs hc =>
      obtain ⟨ys, g1, g2, g3⟩ := frzAL_sound r (S := fun i => i ∈ refsAL vs) ⟨hs, hc⟩ (fun _ h => h) hq
      exact ⟨.tup ys, .tup _ _ g1.1 g1.2, g2⟩
  | _ =>
    obtain ⟨y, g1, g2, g3⟩ := frzA_sound r (S := fun i => i ∈ refsA _) hx (fun _ h => h) hq
    exact ⟨y, g1, g2⟩

theorem Rel.norefT {x : AV} {v : Value} {ι' : Inj} (hx : Rel E w ι x v) (hn : x.norefT = true) : Rel E w ι' x v := by
  cases x with
  | tup vs =>
    cases hx with
    | tup _ c hs hc =>
      have := RL.noref (ι' := ι') ⟨hs, hc⟩ hn
      exact .tup _ _ this.1 this.2
  | _ => exact hx.noref hn

theorem upTo_get : ∀ (p i : Nat), (upTo p)[i]? = if i < p then some i else none
  | 0, i => by simp [upTo]
  | k + 1, i => by
    have hl : (upTo k).length = k := by
      have : ∀ k, (upTo k).length = k := by
        intro k; induction k with
        | zero => rfl
        | succ k ih => simp [upTo, ih]
      exact this k
    simp only [upTo]
    rw [List.getElem?_append, hl, upTo_get k]
    by_cases h1 : i < k
    · simp [h1, show i < k + 1 by omega]
    · by_cases h2 : i = k
      · subst h2; simp
      · rw [if_neg h1, if_neg (by omega), List.getElem?_eq_none (by simp; omega)]
theorem upTo_len (p : Nat) : (upTo p).length = p := by
  induction p with
  | zero => rfl
  | succ k ih => simp [upTo, ih]
theorem upTo_nodup : ∀ (p : Nat), (upTo p).Nodup ∧ ∀ i, i ∈ upTo p → i < p
  | 0 => by simp [upTo]
  | k + 1 => by
    obtain ⟨h1, h2⟩ := upTo_nodup k
    refine ⟨?_, fun i hi => ?_⟩
    · simp only [upTo]
      rw [List.nodup_append]
      refine ⟨h1, by simp, fun a ha b hb => ?_⟩
      simp at hb; subst hb
      have := h2 a ha; omega
    · simp only [upTo, List.mem_append, List.mem_singleton] at hi
      rcases hi with hi | hi
      · have := h2 i hi; omega
      · omega

/-- the end: what was own at the beginning comes first -/
theorem fin_ext {p : Nat} {ι0 : Inj} {h0 : Hp} {E0 : Nat → Prop} {w0 : World} {h : Hp} {n : Nat} (r : Rep ι E w n h) (hf : ∀ id, p ≤ id → ι0 id = none) (x : Ex p ι0 h0 E0 w0 ι h E w) {ids : List Nat} {objs : List Obj}
    (hi : ∀ i, i < p → ids[i]? = some i) (hnd : ids.Nodup) (hl : ids.length = objs.length) (ho : ∀ (j : Nat) id o, ids[j]? = some id → objs[j]? = some o → get h id = some o) (hp : ∀ o, o ∈ objs → objPure o = true) :
    Rep (calleeInj ι ids) E w objs.length (enumH 0 objs) ∧ Ext ι0 h0 E0 w0 (calleeInj ι ids) (enumH 0 objs) E w := by
  have r0 := callee_rep r hnd hl ho hp
  refine ⟨r0, x.os, x.tape, x.output, x.size, fun id q hq => ?_, x.old, fun b hb hown => ?_, x.some, x.mark, x.drawn⟩
  · have hid : id < p := by
      rcases Nat.lt_or_ge id p with h | h
      · exact h
      · rw [hf id h] at hq; cases hq
    simp only [calleeInj, hi id hid]
    exact x.inj id q hid hq
  · refine x.own b hb ?_
    obtain ⟨id, o, base, g1, g2⟩ := hown
    rw [get_enum] at g1
    simp only [Nat.zero_le, if_true, Nat.sub_zero] at g1
    cases hq : ids[id]? with
    | none => simp [calleeInj, hq] at g2
    | some q =>
      simp only [calleeInj, hq] at g2
      exact ⟨q, o, base, ho _ _ _ hq g1, g2⟩

theorem finQ_sound {p : Nat} {ι0 : Inj} {h0 : Hp} {E0 : Nat → Prop} {w0 : World} {h : Hp} {n : Nat} (r : Rep ι E w n h) (hf : ∀ id, p ≤ id → ι0 id = none) (ex : Ex p ι0 h0 E0 w0 ι h E w) {x : AV} {v : Value} {K : AV → List Obj → Prop} (hx : Rel E w ι x v) (hq : finQ p h x K) :
    ∃ r hs' ι' E', K r hs' ∧ Rep ι' E' w hs'.length (enumH 0 hs') ∧ Rel E' w ι' r v ∧ Ext ι0 h0 E0 w0 ι' (enumH 0 hs') E' w := by
  have frozen : (frzR h x fun y => match objsOf (dels h (refsT x)) (upTo p) with
    | some hs => (match y.norefT && hs.all objPure with
      | true => K y hs
      | false => False)
    | none => False) → ∃ r hs' ι' E', K r hs' ∧ Rep ι' E' w hs'.length (enumH 0 hs') ∧ Rel E' w ι' r v ∧ Ext ι0 h0 E0 w0 ι' (enumH 0 hs') E' w := by
    intro hq
    obtain ⟨y, g1, g2⟩ := frzR_sound r hx hq
    split at g2
    case h_2 => exact g2.elim
    rename_i hs hhs
    split at g2
    case h_2 => exact g2.elim
    rename_i hb
    simp only [Bool.and_eq_true, List.all_eq_true] at hb
    obtain ⟨r1, x1⟩ := release r (fun id => id ∈ refsT x) (Sub.dels (refsT x)) (fun id o hg hm => by rw [get_dels, if_pos hm] at hg; cases hg)
    obtain ⟨hl, hget⟩ := objsOf_spec hhs
    obtain ⟨r2, x2⟩ := fin_ext r1 hf (ex.trans x1.ex) (ids := upTo p) (fun i hi => by rw [upTo_get, if_pos hi]) (upTo_nodup p).1 hl hget hb.2
    exact ⟨y, hs, _, _, g2, r2, g1.norefT hb.1, x2⟩
  unfold finQ at hq
  split at hq
  case h_2 => exact frozen hq
  rename_i id off
  split at hq
  case h_2 => exact hq.elim
  rename_i hple
  have hple := Nat.le_of_ble_eq_true hple
  split at hq
  case h_2 => exact hq.elim
  rename_i hs hhs
  split at hq
  case h_2 => exact hq.elim
  rename_i hb
  simp only [List.all_eq_true] at hb
  obtain ⟨hl, hget⟩ := objsOf_spec hhs
  have hnd : (upTo p ++ [id]).Nodup := by
    rw [List.nodup_append]
    refine ⟨(upTo_nodup p).1, by simp, fun a ha b hb => ?_⟩
    simp at hb; subst hb
    have := (upTo_nodup p).2 a ha; omega
  obtain ⟨r2, x2⟩ := fin_ext r hf ex (ids := upTo p ++ [id]) (fun i hi => by rw [List.getElem?_append_left (by rw [upTo_len]; exact hi), upTo_get, if_pos hi]) hnd hl hget hb
  refine ⟨_, hs, _, _, hq, r2, ?_, x2⟩
  cases hx with
  | op _ _ b base hι => exact .op p off b base (by simp [calleeInj, List.getElem?_append, upTo_len, hι])

theorem finB_sound {b : Bool} {p : Nat} {ι0 : Inj} {h0 : Hp} {E0 : Nat → Prop} {w0 : World} {h : Hp} {n : Nat} (r : Rep ι E w n h) (hf : ∀ id, p ≤ id → ι0 id = none) (ex : Ex p ι0 h0 E0 w0 ι h E w) {x : AV} {v : Value} {K : AV → List Obj → Prop} (hx : Rel E w ι x v) (hq : finB b p h x K) :
    ∃ r hs' ι' E', K r hs' ∧ Rep ι' E' w hs'.length (enumH 0 hs') ∧ Rel E' w ι' r v ∧ Ext ι0 h0 E0 w0 ι' (enumH 0 hs') E' w := by
  unfold finB at hq
  split at hq
  case h_2 => exact finQ_sound r hf ex hx hq
  rename_i id sz off len hs0
  have hxe : x = .os id sz off len := by
    unfold finS at hs0
    split at hs0
    · cases hs0
    · split at hs0
      · cases hs0; rfl
      · cases hs0
  subst hxe
  unfold finO at hq
  have ren : ∀ {ids : List Nat} {j : Nat}, ids[j]? = some id → Rel E w (calleeInj ι ids) (.os j sz off len) v := by
    intro ids j hj
    cases hx with
    | osz _ _ _ a => exact .osz _ _ _ _
    | os _ _ _ _ b base cap hι hc hcell => exact .os j sz off len b base cap (by simp only [calleeInj, hj]; exact hι) hc hcell
  split at hq
  · rename_i hple
    have hple := Nat.le_of_ble_eq_true hple
    split at hq
    case h_2 => exact hq.elim
    rename_i hs hhs
    split at hq
    case h_2 => exact hq.elim
    rename_i hb
    simp only [List.all_eq_true] at hb
    obtain ⟨hl, hget⟩ := objsOf_spec hhs
    have hnd : (upTo p ++ [id]).Nodup := by
      rw [List.nodup_append]
      refine ⟨(upTo_nodup p).1, by simp, fun a ha b hb => ?_⟩
      simp at hb; subst hb
      have := (upTo_nodup p).2 a ha; omega
    obtain ⟨r2, x2⟩ := fin_ext r hf ex (ids := upTo p ++ [id]) (fun i hi => by rw [List.getElem?_append_left (by rw [upTo_len]; exact hi), upTo_get, if_pos hi]) hnd hl hget hb
    exact ⟨_, hs, _, _, hq, r2, ren (by rw [List.getElem?_append_right (by rw [upTo_len]; exact Nat.le_refl _), upTo_len, Nat.sub_self]; rfl), x2⟩
  · rename_i hple
    have hlt : id < p := by
      rcases Nat.lt_or_ge id p with h | h
      · exact h
      · rw [Nat.ble_eq_true_of_le h] at hple; cases hple
    split at hq
    case h_2 => exact hq.elim
    rename_i hs hhs
    split at hq
    case h_2 => exact hq.elim
    rename_i hb
    simp only [List.all_eq_true] at hb
    obtain ⟨hl, hget⟩ := objsOf_spec hhs
    obtain ⟨r2, x2⟩ := fin_ext r hf ex (ids := upTo p) (fun i hi => by rw [upTo_get, if_pos hi]) (upTo_nodup p).1 hl hget hb
    exact ⟨_, hs, _, _, hq, r2, ren (by rw [upTo_get, if_pos hlt]), x2⟩

theorem get_slotsOf : ∀ (args : List AV) (k t : Nat), get (slotsOf k args) t = if k ≤ t then args[t - k]? else none
  | [], k, t => by simp [slotsOf, get]
  | x :: xs, k, t => by
    simp only [slotsOf, get_cons, get_slotsOf xs (k + 1) t]
    by_cases h1 : k = t
    · subst h1; simp
    · rw [if_neg h1]
      by_cases h2 : k ≤ t
      · rw [if_pos h2, if_pos (by omega), show t - k = (t - (k + 1)) + 1 by omega, List.getElem?_cons_succ]
      · rw [if_neg h2, if_neg (by omega)]

/-- A contract out of the code. -/
theorem ACall.of_code {Γ : Ctx} {f : FuncId} {fn : Func} {c : Code} {args : List AV} {hs : List Obj} {K : AV → List Obj → Prop} (hf : P.funcs[f]? = some fn) (hb : fn.body = some c) (hm : P.follows .mixedOrders = true)
    (hok : okFn P f = true) (hN : Γ.N = fn.ntmps) (hp : Γ.np = hs.length) (ha : Nat.ble args.length fn.ntmps = true)
    (hq : codeQ P Γ c ⟨hs.length, enumH 0 hs, slotsOf 0 args⟩ (retQ P Γ fn.results.toList K)) : ACall P f args hs K := by
  refine ACall.intro hok fun ι E w vals r hv => ?_
  have ha := Nat.le_of_ble_eq_true ha
  refine calls_of_wp hf hb ?_
  have s0 : Sim fn.ntmps ι E ⟨hs.length, enumH 0 hs, slotsOf 0 args⟩ { tmps := vals ++ Array.replicate (fn.ntmps - vals.size) undef, defers := [] } w := by
    refine ⟨r, fun t x hg => ?_, by simp [← hv.1]; omega, rfl⟩
    simp only [get_slotsOf, Nat.zero_le, if_true, Nat.sub_zero] at hg
    have ht : t < args.length := by
      rcases Nat.lt_or_ge t args.length with h | h
      · exact h
      · rw [List.getElem?_eq_none h] at hg; cases hg
    have ht' : t < vals.size := by rw [← hv.1]; exact ht
    refine ⟨vals[t], by rw [Array.getElem?_append_left ht']; simp [ht'], hv.2 t x _ hg (by simp [ht'])⟩
  have hstart : ∀ id, Γ.np ≤ id → ι id = none := fun id hid => r.fresh id (by rw [← hp]; exact hid)
  have fin : ∀ {σ' : St} {ι' : Inj} {E' : Nat → Prop} {a' : Act} {w' : World}, Sim fn.ntmps ι' E' σ' a' w' → Ex Γ.np ι (enumH 0 hs) E w ι' σ'.h E' w' → (resL P σ' fn.results.toList fun xs => finB Γ.res Γ.np σ'.h (one? xs) K) →
      a'.defers = [] ∧ ∃ v, (results fn a'.tmps).run P w' = .ok v w' ∧ ∃ v' rr hs' ι' E', Ending.returned v = .returned v' ∧ K rr hs' ∧ Rep ι' E' w' hs'.length (enumH 0 hs') ∧ Rel E' w' ι' rr v' ∧ Ext ι (enumH 0 hs) E w ι' (enumH 0 hs') E' w' := by
    intro σ' ι' E' a' w' s' x' hr
    obtain ⟨v, xs, g1, g2, g3⟩ := results_run s' hr
    obtain ⟨rr, hs', ι2, E2, k1, k2, k3, k4⟩ := finB_sound s'.rep hstart x' g2 g3
    exact ⟨s'.defers, v, g1, v, rr, hs', ι2, E2, rfl, k1, k2, k3, k4⟩
  refine wp_mono (codeQ_sound hN hm c s0 hq) ?_
  rintro e a' w' ⟨σ', ι', E', k, s', x'⟩
  cases e with
  | normal => exact fin s' x' k
  | ret => exact fin s' x' k
  | _ => exact k.elim

end
end Go.Vm
