/- An abstract machine over the loaded code, part N: a contract, seen from outside: what a law's statement wants of its run. -/
import Derived.Test.YtkpnlmainmlogaaVmK
import Derived.RowKit3
import Derived.WideKeyArgs
import Derived.Deep.Frames
import Derived.OpenShut
set_option linter.unusedVariables false
set_option linter.unusedSimpArgs false
namespace Go.Vm
open Go.RowKit

/-- what a call leaves as it was: all that was there -/
structure Stay (W w' : World) : Prop where
  kept : W.keptBut w' (fun _ => False)
  mark : ∀ a, a.block < W.heap.size → w'.frozen? a = W.frozen? a
  heap : ∀ b, b < W.heap.size → w'.heap[b]? = W.heap[b]?

/-- A function of which the contract says: it answers true. -/
theorem ACall.law {P : Program} {f : FuncId} {args : List AV} {vals : Array Value} {w : World} (h : ACall P f args [] fun r _ => r = .sb true ∨ r = .v (.bool true)) (hv : RL (fun _ => False) w noInj args vals) :
    Calls P f vals w fun e w' => e = .returned (.bool true) ∧ Stay w w' := by
  obtain ⟨_, h2⟩ := h.elim
  have r : Rep noInj (fun _ => False) w ([] : List Obj).length (enumH 0 []) := ⟨fun _ _ => rfl, fun id o hg => by simp [enumH, get] at hg, fun id id' o o' b base base' hg => by simp [enumH, get] at hg, fun b hb => hb.elim⟩
  refine (h2 noInj _ w vals r hv).mono ?_
  rintro e w' ⟨v, rv, hs', ι', E', rfl, hk, _, hr, x⟩
  have hno : ∀ b, ¬ Own noInj (enumH 0 []) b := fun b ⟨id, o, base, hg, _⟩ => by simp [enumH, get] at hg
  refine ⟨?_, ?_, x.mark, fun b hb => (x.old b hb (hno b)).1⟩
  · rcases hk with rfl | rfl
    · cases hr; rfl
    · cases hr; rfl
  · refine ⟨x.os, x.output, fun i hi => ?_⟩
    have e := (x.old i hi (hno i)).1
    rw [e]
    cases w.heap[i]? with
    | none => rfl
    | some o =>
      cases o with
      | cells c t fr => exact ⟨rfl, rfl, rfl, fun _ _ => rfl⟩
      | map es cl => exact .inr ⟨rfl, rfl⟩
      | _ => rfl

theorem Stay.sameAt {W w' : World} (h : Stay W w') {p : MemPlace} (hp : p.block < W.heap.size) : W.sameAt w' p := by
  cases p with
  | cell b o => exact cell_of_heap (a := ⟨b, o, none⟩) (h.heap b hp)
  | map b => exact h.heap b hp

section
open Go.ChangeShapes Go.WideShapes
variable {H : Type} {enc : TypeId × Value → H} {P : Program}

/-- the closed facts on the types of the parameters -/
def parsOk (P : Program) (ts : List TypeId) : Bool := ts.all fun t => P.readableRec t && decide (t < P.types.size)

theorem stay_args {W W' : World} (hst : Stay W W') (hl : laidOutB P = true) {sp : Nat → Bool} : ∀ {ts : List TypeId} {vs : List Value} {ds : List (DataW H)} {ps : List MemPlace}, parsOk P ts = true →
    DataW.TrodAll enc P W 0 (fun _ => true) true ts vs ds ps → (∀ p ∈ ps, p.block < W.heap.size ∧ sp p.block = true) → DataW.TrodAll enc P W' 0 sp true ts vs ds ps
  | [], vs, ds, ps, _, h, _ => by
    match vs, ds, h with
    | [], [], h => exact h
  | t :: ts, vs, ds, ps, hp, h, hs => by
    match vs, ds, h with
    | v :: vs, d :: ds, h =>
      obtain ⟨p, q, h1, h2, rfl⟩ := h
      simp only [parsOk, List.all_cons, Bool.and_eq_true, decide_eq_true_eq] at hp
      exact ⟨p, q, WideElems.Trod_stays hl hp.1.1 hp.1.2 h1 (fun x hx => hst.sameAt (hs x (List.mem_append_left _ hx)).1) (fun x hx => (hs x (List.mem_append_left _ hx)).2),
        stay_args hst hl hp.2 h2 (fun x hx => hs x (List.mem_append_right _ hx)), rfl⟩

/-- WHAT A LAW's STATEMENT WANTS: it answered true, everything stays. -/
theorem law_post {f : Func} {s : ChangeSpec} {W W' : World} {args : Array Value} {ds gs : List (DataW H)} {before : List MemPlace} {t : TypeId}
    (hW : DataW.Whole enc P f.params.toList s.vars false W args.toList ds gs before) (hst : Stay W W') (hl : laidOutB P = true) (hp : parsOk P f.params.toList = true) (hv : s.vars = [])
    (hs : s.fn H (ds ++ gs) = { results := [.lit (.bool true)], args := ds }) (hr : f.resultTypes = #[t]) (ht : P.underlying t = some .bool) :
    s.post enc P f false true false false W args (.bool true) W' := by
  have hlt := fun p hp => hW.lt (p := p) hp
  have hW1 := hW
  obtain ⟨pa, pv, hA, hV, hps, hz, hn⟩ := hW
  have hpv : pv = [] ∧ gs = [] := by
    rw [hv] at hV
    obtain ⟨rfl, rfl⟩ := trodVars_none hV
    exact ⟨rfl, rfl⟩
  obtain ⟨rfl, rfl⟩ := hpv
  simp only [List.append_nil] at hps hs
  subst hps
  have args' : ∀ sp : Nat → Bool, (∀ p ∈ before, sp p.block = true) → DataW.TrodAll enc P W' 0 sp true f.params.toList args.toList ds before :=
    fun sp hsp => stay_args hst hl hp hA fun p hp => ⟨hlt p hp, hsp p hp⟩
  have res : ∀ (b : Nat) (sp : Nat → Bool) (hd : Bool), DataW.TrodAll enc P W' b sp hd f.resultTypes.toList ((Value.bool true).resultList f.resultTypes.size) [.lit (.bool true)] [] := by
    intro b sp hd
    rw [hr]
    exact trodAll_cons_mk (shut_bool ht true) trodAll_mk0
  have vars : ∀ sp : Nat → Bool, DataW.TrodVars enc P W' sp s.vars ([] : List (DataW H)) [] := by
    intro sp; rw [hv]; exact rfl
  have hvars : (s.fn H (ds ++ [])).vars = [] := by rw [List.append_nil, hs]
  have e0 : s.fn H (ds ++ []) = { results := [.lit (.bool true)], args := ds } := by rw [List.append_nil]; exact hs
  refine ⟨ds, [], before, [], before, [], hW1, ?_, ?_, ?_, World.keptBut_mono (fun _ f => f.elim) hst.kept, fun _ => ?_⟩
  · rw [e0]; exact res _ _ _
  · rw [e0]; exact args' _ (fun p hp => by simpa using hlt p hp)
  · rw [e0]; exact vars _
  · refine ⟨ok_one hr rfl (okWide_bool_mk ht _), [.lit (.bool true)] ++ ds, [], ([] ++ before) ++ [], ⟨[] ++ before, [], trodAll_append (args' _ (fun _ _ => rfl)) (res _ _ _), vars _, rfl, ?_, ?_⟩, ?_⟩
    · intro b off hp
      simp only [List.nil_append, List.append_nil] at hp
      rw [hst.mark _ (hlt _ hp)]
      exact hz b off hp
    · intro ha; cases ha
    · intro p hp _
      simpa using hp

end
end Go.Vm
