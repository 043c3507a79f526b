/- An abstract machine over the loaded code, part S: the kit's slices.SortFunc as a contract of the machine's. slices.SortFunc of the library, laid at this program: which function is which. Written by the lay-plain tool of the kit. slices.SortFunc with canonical's closure: the library's contract at this program. The functions of the seat as the machine takes them: contexts, bodies, contracts out of the code. Printed by gsctx.py. interval: Union, Complement, Intersect, Subtract, Subset. -/
import Derived.Shelf.SlSortCmp.WholeK
import Derived.Shelf.SlLaysF0
import Derived.Test.YtgcplfplbcpemaaGreatProg
import Derived.Shelf.SlSortCmp.NoneTotal
import Derived.Test.YtgcplfplbcpemaaGreatM8
set_option linter.unusedVariables false
set_option linter.unusedSimpArgs false
namespace Go.Vm
open Go.Sort Go.Proofs Go.Shelf

theorem rep_none (W : World) : Rep noInj (fun _ => False) W ([] : List Obj).length (enumH 0 []) :=
  ⟨fun _ _ => rfl, fun id o hg => by simp [enumH, get] at hg, fun id id' o o' b base base' hg => by simp [enumH, get] at hg, fun b hb => hb.elim⟩

/-- what a call leaves that owns nothing: the world, drawn on, with blocks behind it -/
theorem grow_of_ext {W w' : World} {ι' : Inj} {h' : Hp} {E' : Nat → Prop} (x : Ext noInj (enumH 0 []) (fun _ => False) W ι' h' E' w') : ∃ q os', w' = grow (W.drewN q) os' := by
  have hno : ∀ b, ¬ Own noInj (enumH 0 []) b := fun b ⟨id, o, base, hg, _⟩ => by simp [enumH, get] at hg
  refine ⟨w'.drawn - W.drawn, w'.heap.extract W.heap.size w'.heap.size, ?_⟩
  have hh : w'.heap = W.heap ++ w'.heap.extract W.heap.size w'.heap.size := by
    apply Array.ext_getElem?
    intro i
    rw [Array.getElem?_append]
    split
    · rename_i hi
      exact (x.old i hi (hno i)).1
    · rename_i hi
      rw [Array.getElem?_extract]
      have hsz := x.size
      split
      · congr 1; omega
      · rw [Array.getElem?_eq_none]; omega
  have hd := x.drawn
  have h1 := x.os; have h2 := x.tape; have h3 := x.output
  cases w'
  cases W
  simp only [grow, World.drewN] at *
  subst h1; subst h2; subst h3
  congr 1
  omega

section
variable {P : Program} {α : Type} [Inhabited α]

/-- a closure of two arguments that compares -/
theorem cmpLays_of {g : Nat} {enc : α → List Value} {k : Nat} {cf : α → α → Int} {blk off size : Nat} {w : World}
    (h : ∀ x y : α, ACall P g [.agg ((enc x).map .v), .agg ((enc y).map .v)] [] fun r hs => r = .v (.int .i64 (cf x y)) ∧ hs = []) : CmpLays P g #[] enc k cf blk off size w := by
  intro m os dk _ x y
  generalize sortWorldK enc k w blk off m dk os = W
  obtain ⟨_, h2⟩ := (h x y).elim
  have one : ∀ z : α, Rel (fun _ => False) W noInj (.agg ((enc z).map .v)) (.agg (enc z).toArray) := fun z =>
    .agg _ _ (by simp) (fun i a b ha hb => by
      have hb' : (enc z)[i]? = some b := by simpa using hb
      rw [List.getElem?_map, hb'] at ha
      cases ha
      exact .v _)
  have hv : RL (fun _ => False) W noInj [.agg ((enc x).map .v), .agg ((enc y).map .v)] #[.agg (enc x).toArray, .agg (enc y).toArray] := RL.cons (one x) (RL.cons (one y) rl_nil)
  rw [Array.append_empty]
  refine (h2 noInj _ W _ (rep_none W) hv).mono ?_
  rintro e w' ⟨v, rv, hs', ι', E', rfl, ⟨rfl, rfl⟩, _, hr, x⟩
  cases hr
  exact ⟨rfl, grow_of_ext x⟩

variable {E : Nat → Prop} {w : World} {ι : Inj} {n : Nat} {h : Hp}

theorem rep_grow (r : Rep ι E w n h) (m : Nat) (os : Array Go.Obj) : Rep ι E (grow (Sort.ahead w m) os) n h ∧ Ext ι h E w ι h E (grow (Sort.ahead w m) os) := by
  have hh : ∀ b, b < w.heap.size → (grow (Sort.ahead w m) os).heap[b]? = w.heap[b]? := fun b hb => heap_grow_old (Sort.ahead w m) os hb
  have hsz : w.heap.size ≤ (grow (Sort.ahead w m) os).heap.size := by rw [size_grow]; exact Nat.le_add_right _ _
  have hc : ∀ a : Addr, a.block < w.heap.size → (grow (Sort.ahead w m) os).cell? a = w.cell? a := fun a ha => cell_of_heap (hh _ ha)
  have hf : ∀ a : Addr, a.block < w.heap.size → (grow (Sort.ahead w m) os).frozen? a = w.frozen? a := fun a ha => by simp only [World.frozen?, hh _ ha]
  have hk : Keeps E w E (grow (Sort.ahead w m) os) := ⟨hsz, fun b hb hE => ⟨hh b hb, hE⟩, fun a ha => by rw [hc a (lt_of_cell ha)]; exact ha, fun a ha => hf a (lt_of_cell ha)⟩
  exact ⟨⟨r.fresh, fun id o hg => (r.obj id o hg).keep hk (fun _ _ h => h) (fun b base hb => r.own_E ⟨id, o, base, hg, hb⟩) (fun b base hb => hh b (own_ne r hg hb)), r.sep, fun b hb => Nat.lt_of_lt_of_le (r.bound b hb) hsz⟩,
    ⟨rfl, rfl, rfl, hsz, fun _ _ h => h, fun b hb _ => ⟨hh b hb, Iff.rfl⟩, fun _ _ h => h, fun a ha => by rw [hc a (lt_of_cell ha)]; exact ha, fun a ha => hf a ha, by show w.drawn ≤ w.drawn + m; omega⟩⟩

theorem cell?_putCells (d : Array Value) (w : World) (b off : Nat) (a : Addr) (h : (w.cell? a).isSome = true) : ((putRow id w b off d).cell? a).isSome = true := by
  by_cases hb : a.block = b
  · subst hb
    unfold putRow mapBlock
    simp only [World.cell?, Array.getElem?_modify, if_true] at h ⊢
    cases hw : w.heap[a.block]? with
    | none => simp [hw] at h
    | some o =>
      cases o with
      | cells c e fr =>
        simp only [hw, Option.map_some, onCells] at h ⊢
        split at h
        · simp at h
        · rename_i hs
          simp only [hs]
          simp only [Bool.false_eq_true, if_false] at h ⊢
          rw [Option.isSome_iff_exists] at h ⊢
          obtain ⟨v, hv⟩ := h
          have hlt := (Array.getElem?_eq_some_iff.1 hv).1
          exact ⟨_, Array.getElem?_eq_getElem (by simpa [putCells] using hlt)⟩
      | _ => simp [hw] at h
  · rw [show (putRow id w b off d).cell? a = w.cell? a from cell?_putRow_other id w b off d a (Or.inl hb)]; exact h

theorem frozen_putRow (d : Array Value) (w : World) (b off : Nat) (a : Addr) : (putRow id w b off d).frozen? a = w.frozen? a := by
  unfold putRow mapBlock World.frozen?
  simp only [Array.getElem?_modify]
  by_cases hb : b = a.block
  · subst hb
    simp only [if_true]
    cases w.heap[a.block]? with
    | none => rfl
    | some o => cases o <;> rfl
  · simp [hb]

theorem writes_putRow (d : Array Value) (w : World) (b off : Nat) : Writes w b (putRow id w b off d) :=
  ⟨rfl, rfl, rfl, by simp, fun k hk => by simp [putRow, mapBlock, Array.getElem?_modify, Ne.symm hk], fun a ha => cell?_putCells d w b off a ha, fun a => frozen_putRow d w b off a, rfl⟩

/-- slices.SortFunc, given what the kit says of it: an own array of elements that hold plain values only. -/
theorem sort_of {f g k : Nat} {enc : α → List Value} {encA : α → AV} {cf : α → α → Int} (hok : okFn P f = true) (hk : ∀ x, (enc x).length = k) (henc : ∀ x, (encA x).cells = (enc x).map .v)
    (hsort : ∀ (blk off cap : Nat) (d : Array α) (w : World), HoldsK enc k w blk off d → blk < w.heap.size → d.size < 4611686018427387904 →
      Calls P f #[.slice (some ⟨blk, off, none⟩) d.size cap, .func (.func g) #[] #[]] w fun e w' => e = .returned (.tuple #[]) ∧ ∃ d' n os, PermIn 0 d.size d d' ∧ SortedIn (ltOf cf) 0 d.size d' ∧ w' = sortWorldK enc k w blk off n d' os)
    (hnone : ∀ (p : Option Addr) (cap : Nat) (fv : Value) (w : World), Calls P f #[.slice p 0 cap, fv] w fun e w' => e = .returned (.tuple #[]) ∧ w' = w)
    {d : List α} {len : Nat} (hlen : len = d.length) (hd : d.length < 4611686018427387904) {K : AV → List Obj → Prop}
    (hK : ∀ d' : List α, d'.Perm d → d'.Pairwise (fun x y => ltOf cf y x = false) → K (.tup []) [.arr k (d'.map encA)]) :
    ACall P f [.os 0 k 0 len, .fn (.func g) [] []] [.arr k (d.map encA)] K := by
  refine ACall.intro hok fun ι E w vals r hv => ?_
  obtain ⟨v0, vs, rfl, hv0, hv⟩ := hv.head
  obtain ⟨v1, vs, e1, hv1, hv2⟩ := hv.head
  cases e1
  have hvs : vs = [] := by have := hv2.nil; simpa using this
  subst hvs
  have hfn : v1 = .func (.func g) #[] #[] := by
    cases hv1 with
    | fn _ _ _ F C hF hC _ _ =>
      simp only [List.length_nil] at hF hC
      rw [Array.eq_empty_of_size_eq_zero hF.symm, Array.eq_empty_of_size_eq_zero hC.symm]
  subst hfn
  have hg : get (enumH 0 [.arr k (d.map encA)]) 0 = some (.arr k (d.map encA)) := rfl
  rcases Nat.eq_zero_or_pos d.length with h0 | h0
  · have hd0 : d = [] := List.eq_nil_of_length_eq_zero h0
    subst hd0
    have hz : ∃ p cap, v0 = .slice p 0 cap := by
      subst hlen
      cases hv0 with
      | osz _ _ _ a => exact ⟨a, 0, rfl⟩
      | os _ _ _ _ b base cap hι hc h => exact ⟨_, cap, rfl⟩
    obtain ⟨p, cap, rfl⟩ := hz
    refine (hnone p cap _ w).mono ?_
    rintro e w' ⟨rfl, rfl⟩
    exact ⟨_, .tup [], [.arr k []], ι, E, rfl, hK [] (List.Perm.refl _) List.Pairwise.nil, r, .tup [] #[] rfl (fun i x y hx _ => by simp at hx), Ext.refl⟩
  · have hpos : 0 < len := by omega
    cases hv0 with
    | osz _ _ _ a => omega
    | os _ _ _ _ b base cap hι hc hcell =>
      have hsz := sz_of r hg
      rcases r.obj 0 _ hg with ⟨h1, _⟩ | ⟨b', base', h1, h2, h3, h4, h5⟩
      · rw [hι] at h1; cases h1
      · rw [hι] at h1; cases h1
        have hbang : ∀ {l : List α} {i : Nat} (hi : i < l.length), l.toArray[i]! = l[i] := fun {l i} hi => by simp [hi]
        have hH : HoldsK enc k w b base d.toArray := by
          intro t ht
          have ht' : t < d.toArray.size * k := by simpa using ht
          have kp : 0 < k := by
            rcases Nat.eq_zero_or_pos k with h0 | h0
            · subst h0; simp at ht'
            · exact h0
          have hi : t / k < d.length := by
            rw [Nat.div_lt_iff_lt_mul kp]; simpa using ht'
          have hc := Nat.mod_lt t kp
          rw [get_flatK _ _ _ _ ht', hbang hi]
          have hxi : (d.map encA)[t / k]? = some (encA d[t / k]) := by simp [hi]
          have hcl : (enc d[t / k])[t % k]? = some ((enc d[t / k])[t % k]'(by rw [hk]; exact hc)) := List.getElem?_eq_getElem _
          have hcc : (encA d[t / k]).cells[t % k]? = some (.v ((enc d[t / k])[t % k]'(by rw [hk]; exact hc))) := by rw [henc, List.getElem?_map, hcl]; rfl
          obtain ⟨u, e1, e2, e3⟩ := h5 _ _ _ _ hxi hcc
          have hu : u = (enc d[t / k])[t % k]'(by rw [hk]; exact hc) := by cases e3; rfl
          have hoff : base + t / k * k + t % k = base + t := by
            have := Nat.div_add_mod t k
            rw [Nat.mul_comm] at this
            omega
          rw [hoff] at e1 e2
          refine ⟨?_, e2⟩
          rw [e1, hu, getElem!_pos (enc d[t / k]) (t % k) (by rw [hk]; exact hc)]
          rfl
        have h := hsort b base cap d.toArray w hH h3 (by simpa using hd)
        rw [show base + 0 * k = base by omega, hlen, show d.length = d.toArray.size by simp]
        refine h.mono ?_
        rintro e w' ⟨rfl, d', m, os, hp, hs, rfl⟩
        obtain ⟨p1, p2, p3⟩ := hp
        have hd' : d'.size = d.length := by simpa using p1
        have hH' := holdsK_sortWorldK_c enc k w b base d.toArray d' m os hH h3 p1
        have hperm : d'.toList.Perm d := by
          have e1 : (d'.extract 0 d.toArray.size) = d' := by rw [← p1]; simp
          rw [e1] at p3
          simpa using p3
        refine ⟨_, .tup [], [.arr k (d'.toList.map encA)], ι, E, rfl, hK _ hperm ?_, ?_⟩
        · rw [List.pairwise_iff_getElem]
          intro i j hi hj hij
          have := hs i j (Nat.zero_le _) hij (by simp at hj; simpa [← hd'] using hj)
          simp at hi hj
          rw [getElem!_pos d' i hi, getElem!_pos d' j hj] at this
          simpa using this
        · -- the world: drawn on, the row put, blocks laid behind
          have e0 : sortWorldK enc k w b base m d' os = grow (Sort.ahead (putRow id w b base (flatK enc k d')) m) os := rfl
          have ho : ORel E (putRow id w b base (flatK enc k d')) ι 0 (.arr k (d'.toList.map encA)) := by
            refine .inr ⟨b, base, hι, h2, by simpa using h3, fun i x hx => ?_, fun i x j c hx hc => ?_⟩
            · rw [List.getElem?_map, Option.map_eq_some_iff] at hx
              obtain ⟨y, _, rfl⟩ := hx
              rw [henc, List.length_map, hk]
            · rw [List.getElem?_map, Option.map_eq_some_iff] at hx
              obtain ⟨y, hy, rfl⟩ := hx
              rw [henc, List.getElem?_map, Option.map_eq_some_iff] at hc
              obtain ⟨u, hu, rfl⟩ := hc
              have hi : i < d'.size := by have := (List.getElem?_eq_some_iff.1 hy).1; simpa using this
              have hj : j < k := by have := (List.getElem?_eq_some_iff.1 hu).1; rwa [hk] at this
              have hHp := holdsK_putRowK enc k w b base d.toArray d' hH p1
              have := HoldsK.cell hHp hi hj
              have ey : d'[i]! = y := by
                rw [getElem!_pos d' i hi]
                have : d'.toList[i]? = some d'[i] := by simp [hi]
                rw [this] at hy; exact Option.some.inj hy
              rw [ey, getElem!_pos (enc y) j (by rw [hk]; exact hj)] at this
              have eu : (enc y)[j]'(by rw [hk]; exact hj) = u := by
                rw [List.getElem?_eq_getElem (by rw [hk]; exact hj)] at hu; exact Option.some.inj hu
              rw [eu] at this
              exact ⟨u, this.1, this.2, .v _⟩
          have hput := step_put (h0 := []) r (fun id o hg => by simp [get] at hg) hg hι rfl (writes_putRow (flatK enc k d') w b base) (fun _ _ h => h) hι (fun _ _ => rfl) (Nat.le_refl _) r.fresh ho rfl
          have hgr := rep_grow hput.1 m os
          rw [e0]
          exact ⟨hgr.1, .tup [] #[] rfl (fun i x y hx _ => by simp at hx), hput.2.trans hgr.2⟩

end
end Go.Vm

namespace Go.Proofs
open Go.Shelf
def Tryz.sortR_ren : Go.Shelf.Ren := ⟨fun | 6 => 88 | 15 => 97 | 14 => 96 | 28 => 94 | 29 => 109 | 20 => 101 | 21 => 102 | 22 => 103 | 23 => 104 | 24 => 105 | 25 => 106 | 26 => 107 | 27 => 108 | 46 => 110 | 47 => 111 | 48 => 112 | 49 => 113 | 50 => 114 | 57 => 115 | n => n, fun | 22 => 65 | 24 => 68 | 25 => 110 | 3 => 3 | 39 => 76 | 0 => 0 | 53 => 39 | 55 => 75 | 4 => 4 | 46 => 120 | 45 => 119 | 50 => 124 | 5 => 5 | 9 => 9 | 66 => 127 | 70 => 131 | 76 => 133 | 77 => 134 | n => n, fun | n => n⟩
theorem Tryz.sortR : Go.Proofs.SlLaysF0.n6 Tryz.prog Tryz.sortR_ren := {
  mixed := by kernel_rfl
  f6 := ⟨Tryz.f88.name, by decide, Tryz.func88.trans (congrArg some (by kernel_rfl))⟩
  f14 := ⟨Tryz.f96.name, by decide, Tryz.func96.trans (congrArg some (by kernel_rfl))⟩
  f15 := Tryz.func97.trans (congrArg some (by kernel_rfl))
  f20 := ⟨Tryz.f101.name, by decide, Tryz.func101.trans (congrArg some (by kernel_rfl))⟩
  f21 := ⟨Tryz.f102.name, by decide, Tryz.func102.trans (congrArg some (by kernel_rfl))⟩
  f22 := ⟨Tryz.f103.name, by decide, Tryz.func103.trans (congrArg some (by kernel_rfl))⟩
  f23 := ⟨Tryz.f104.name, by decide, Tryz.func104.trans (congrArg some (by kernel_rfl))⟩
  f24 := ⟨Tryz.f105.name, by decide, Tryz.func105.trans (congrArg some (by kernel_rfl))⟩
  f25 := ⟨Tryz.f106.name, by decide, Tryz.func106.trans (congrArg some (by kernel_rfl))⟩
  f26 := ⟨Tryz.f107.name, by decide, Tryz.func107.trans (congrArg some (by kernel_rfl))⟩
  f27 := ⟨Tryz.f108.name, by decide, Tryz.func108.trans (congrArg some (by kernel_rfl))⟩
  f28 := Tryz.func94.trans (congrArg some (by kernel_rfl))
  f29 := Tryz.func109.trans (congrArg some (by kernel_rfl))
  f46 := ⟨Tryz.f110.name, by decide, Tryz.func110.trans (congrArg some (by kernel_rfl))⟩
  f47 := Tryz.func111.trans (congrArg some (by kernel_rfl))
  f48 := Tryz.func112.trans (congrArg some (by kernel_rfl))
  f49 := ⟨Tryz.f113.name, by decide, Tryz.func113.trans (congrArg some (by kernel_rfl))⟩
  f50 := ⟨Tryz.f114.name, by decide, Tryz.func114.trans (congrArg some (by kernel_rfl))⟩
  f57 := ⟨Tryz.f115.name, by decide, Tryz.func115.trans (congrArg some (by kernel_rfl))⟩
  t0 := Tryz.underlying0
  a0 := Tryz.isAgg0
  z0 := Tryz.sizeOf0
  v0 := Tryz.zeroValue0
  t3 := Tryz.underlying3
  a3 := Tryz.isAgg3
  z3 := Tryz.sizeOf3
  v3 := Tryz.zeroValue3
  t4 := Tryz.underlying4
  a4 := Tryz.isAgg4
  z4 := Tryz.sizeOf4
  v4 := Tryz.zeroValue4
  t5 := Tryz.underlying5
  a5 := Tryz.isAgg5
  z5 := Tryz.sizeOf5
  v5 := Tryz.zeroValue5
  t9 := Tryz.underlying9
  a9 := Tryz.isAgg9
  z9 := Tryz.sizeOf9
  v9 := Tryz.zeroValue9
  t22 := Tryz.underlying65
  a22 := Tryz.isAgg65
  z22 := Tryz.sizeOf65
  v22 := Tryz.zeroValue65
  t25 := Tryz.underlying110
  a25 := Tryz.isAgg110
  z25 := Tryz.sizeOf110
  v25 := Tryz.zeroValue110
  t39 := Tryz.underlying76
  a39 := Tryz.isAgg76
  z39 := Tryz.sizeOf76
  v39 := Tryz.zeroValue76
  t45 := Tryz.underlying119
  a45 := Tryz.isAgg119
  z45 := Tryz.sizeOf119
  v45 := Tryz.zeroValue119
  t46 := Tryz.underlying120
  a46 := Tryz.isAgg120
  z46 := Tryz.sizeOf120
  v46 := Tryz.zeroValue120
  t50 := Tryz.underlying124
  a50 := Tryz.isAgg124
  z50 := Tryz.sizeOf124
  v50 := Tryz.zeroValue124
  t53 := Tryz.underlying39
  a53 := Tryz.isAgg39
  z53 := Tryz.sizeOf39
  v53 := Tryz.zeroValue39
  t55 := Tryz.underlying75
  a55 := Tryz.isAgg75
  z55 := Tryz.sizeOf75
  v55 := Tryz.zeroValue75
  t66 := Tryz.underlying127
  a66 := Tryz.isAgg127
  z66 := Tryz.sizeOf127
  v66 := Tryz.zeroValue127
  t70 := Tryz.underlying131
  a70 := Tryz.isAgg131
  z70 := Tryz.sizeOf131
  v70 := Tryz.zeroValue131
  t76 := Tryz.underlying133
  a76 := Tryz.isAgg133
  z76 := Tryz.sizeOf133
  v76 := Tryz.zeroValue133
  t77 := Tryz.underlying134
  a77 := Tryz.isAgg134
  z77 := Tryz.sizeOf134
  v77 := Tryz.zeroValue134 }
end Go.Proofs

set_option linter.unusedVariables false
set_option linter.unusedSimpArgs false
set_option maxRecDepth 20000
namespace Go.Proofs.YtgcplfplbcpemaaGreat
open Go Go.Vm Go.Sort Go.Shelf Go.Proofs

instance : Inhabited Rg := ⟨⟨0, 0, by decide, by decide, by decide, by decide⟩⟩
def encV (r : Rg) : List Value := [.int .u32 r.lo, .int .u32 r.hi]
def cmpR (r s : Rg) : Int := cmpI r.lo s.lo
theorem ltR (r s : Rg) : ltOf cmpR r s = decide (r.lo < s.lo) := by
  unfold ltOf cmpR cmpI
  by_cases h1 : r.lo < s.lo
  · simp [h1]
  · by_cases h2 : s.lo < r.lo <;> simp [h1, h2]
theorem swoR : SWO (ltOf cmpR) where
  irrefl x := by rw [ltR]; simp
  trans x y z h1 h2 := by rw [ltR] at *; simp at *; omega
  ntrans x y z h1 h2 := by rw [ltR] at *; simp at *; omega

theorem sorts : Sorts := by
  intro d n hn hd K hK
  have eg : ∀ args w, (callFunc 89 args).run Tryz.prog w = .ok (.enter 89 args) w := enters_of Tryz.func89 (by kernel_rfl) rfl
  refine sort_of (k := 2) (enc := encV) (encA := encR) (cf := cmpR) (by kernel_rfl) (fun _ => rfl) (fun _ => rfl) (fun blk off cap d w hH hb hs => ?_) (fun p cap fv w => ?_) hn (by omega) (fun d' hp hs => hK d' hp (hs.imp fun h => ?_))
  · exact AnyQ.slices_SortFunc Tryz.sortR 2 Tryz.isAgg68 Tryz.sizeOf68 encV (fun _ => rfl) (fun x v hv => by simp [encV] at hv; rcases hv with rfl | rfl <;> rfl) cmpR swoR 89 #[] blk off cap d w eg
      (cmpLays_of fun x y => c47 x y ⟨rfl, rfl⟩) hH hb hs
  · exact AnyF.slices_SortFunc_none Tryz.sortR p cap fv w
  · rw [ltR] at h; simp at h; omega
end Go.Proofs.YtgcplfplbcpemaaGreat

set_option linter.unusedVariables false
set_option maxRecDepth 20000
namespace Go.Proofs.YtgcplfplbcpemaaGreat
open Go Go.Vm

end Go.Proofs.YtgcplfplbcpemaaGreat

set_option linter.unusedVariables false
set_option linter.unusedSimpArgs false
set_option maxRecDepth 20000
namespace Go.Proofs.YtgcplfplbcpemaaGreat
open Go Go.Vm

/-- interval.canonical -/
theorem k39 (l : List Rg) (hl : l.length < 100000) {K : AV → List Vm.Obj → Prop} (hK : ∀ c, Canon c → (∀ v, has c v = has l v) → c.length ≤ l.length → K (encRs c) []) : ACall Tryz.prog 79 [encRs l] [] K := c39 sorts l hl hK

structure CInv (c : List Rg) (top : Int) (k : Nat) (out : List Rg) (nx : Int) : Prop where
  canon : Canon out
  n0 : 0 ≤ nx
  n1 : nx ≤ 4294967296
  ends : ∀ s, s ∈ out → s.hi + 1 < nx ∧ s.hi < top
  mem : ∀ v, has out v = (decide (0 ≤ v) && (decide (v < nx) && !has (c.take k) v))
  later : ∀ (i : Nat) r, k ≤ i → c[i]? = some r → nx ≤ r.lo
  lows : ∀ r, r ∈ c.take k → r.hi < nx
  len : out.length ≤ k
theorem cinv_zero (c : List Rg) (top : Int) : CInv c top 0 [] 0 where
  canon := canon_nil
  n0 := Int.le_refl _
  n1 := by omega
  ends := fun s hs => by simp at hs
  mem := fun v => by
    rw [has_nil, eq_comm, Bool.and_eq_false_iff, Bool.and_eq_false_iff]
    rcases Int.lt_or_le v 0 with h | h
    · exact .inl (decide_eq_false (by omega))
    · exact .inr (.inl (decide_eq_false (by omega)))
  later := fun i r _ hr => r.l0
  lows := fun r hr => by simp at hr
  len := Nat.le_refl _
theorem cinv_succ {c : List Rg} {top : Int} {k : Nat} {out : List Rg} {nx : Int} {r : Rg} (hc : Canon c) (h : CInv c top k out nx) (hr : c[k]? = some r) (ht : r.lo ≤ top) :
    CInv c top (k + 1) (if nx < r.lo then out ++ [mkR nx (r.lo - 1)] else out) (r.hi + 1) := by
  have b1 := r.l0; have b2 := r.l1; have b3 := r.h0; have b4 := r.h1
  have hle := hc.1 r (List.mem_of_getElem? hr)
  have hnx := h.later k r (Nat.le_refl _) hr
  have n0 := h.n0
  have hlater : ∀ (i : Nat) s, k + 1 ≤ i → c[i]? = some s → r.hi + 1 ≤ s.lo := fun i s hi hs => by
    have := List.pairwise_iff_getElem.1 hc.2 k i (List.getElem?_eq_some_iff.1 hr).1 (List.getElem?_eq_some_iff.1 hs).1 (by omega)
    rw [(List.getElem?_eq_some_iff.1 hr).2, (List.getElem?_eq_some_iff.1 hs).2] at this
    omega
  have htake : c.take (k + 1) = c.take k ++ [r] := by rw [List.take_add_one, hr]; rfl
  have hhas : ∀ v, has (c.take (k + 1)) v = (has (c.take k) v || (decide (r.lo ≤ v) && decide (v ≤ r.hi))) := fun v => has_succ hr
  have hlows : ∀ s, s ∈ c.take (k + 1) → s.hi < r.hi + 1 := fun s hs => by
    rw [htake] at hs
    rcases List.mem_append.1 hs with hs | hs
    · have := h.lows s hs; omega
    · simp at hs; subst hs; omega
  have hold : ∀ v, nx ≤ v → has (c.take k) v = false := fun v hv => by
    rw [Bool.eq_false_iff, ne_eq, has_iff]
    rintro ⟨s, hs, h1, h2⟩
    have := h.lows s hs; omega
  have memAt : ∀ v, (decide (0 ≤ v) && (decide (v < r.hi + 1) && !has (c.take (k + 1)) v)) = (has out v || (decide (nx ≤ v) && decide (v ≤ r.lo - 1))) := fun v => by
    rw [h.mem, hhas]
    rcases Int.lt_or_le v nx with h1 | h1
    · have e1 : decide (v < nx) = true := decide_eq_true h1
      have e2 : decide (v < r.hi + 1) = true := decide_eq_true (by omega)
      have e3 : decide (r.lo ≤ v) = false := decide_eq_false (by omega)
      have e4 : decide (nx ≤ v) = false := decide_eq_false (by omega)
      simp [e1, e2, e3, e4]
    · have e1 : decide (v < nx) = false := decide_eq_false (by omega)
      have e4 : decide (nx ≤ v) = true := decide_eq_true h1
      have e5 : decide (0 ≤ v) = true := decide_eq_true (by omega)
      rw [hold v h1, e1, e4, e5]
      rw [Bool.eq_iff_iff]
      simp
      omega
  rcases Int.lt_or_le nx r.lo with hlt | hge
  · rw [if_pos hlt]
    have q0 : 0 ≤ r.lo - 1 ∧ r.lo - 1 ≤ 4294967295 ∧ nx ≤ 4294967295 := by omega
    have e1 := mkR_lo n0 q0.2.2 q0.1 q0.2.1
    have e2 := mkR_hi n0 q0.2.2 q0.1 q0.2.1
    refine ⟨canon_append_one h.canon (by rw [e1, e2]; omega) (fun s hs => by rw [e1]; exact (h.ends s hs).1), by omega, by omega, fun s hs => ?_, fun v => ?_, hlater, hlows, by have := h.len; simp; omega⟩
    · rcases List.mem_append.1 hs with hs | hs
      · have := h.ends s hs; omega
      · simp at hs; subst hs; rw [e2]; omega
    · rw [memAt, has_append, has_one, e1, e2]
  · rw [if_neg (by omega)]
    refine ⟨h.canon, by omega, by omega, fun s hs => by have := h.ends s hs; omega, fun v => ?_, hlater, hlows, by have := h.len; omega⟩
    rw [memAt]
    have : (decide (nx ≤ v) && decide (v ≤ r.lo - 1)) = false := by
      rw [Bool.and_eq_false_iff]
      rcases Int.lt_or_le v nx with h1 | h1
      · exact .inl (decide_eq_false (by omega))
      · exact .inr (decide_eq_false (by omega))
    rw [this, Bool.or_false]
theorem cinv_end {c : List Rg} {top : Int} {k : Nat} {out : List Rg} {nx : Int} (h : CInv c top k out nx) (ht0 : 0 ≤ top) (ht : top ≤ 4294967295) (hrest : ∀ (i : Nat) r, k ≤ i → c[i]? = some r → top < r.lo) :
    Canon (if nx ≤ top then out ++ [mkR nx top] else out) ∧ (∀ v, has (if nx ≤ top then out ++ [mkR nx top] else out) v = (decide (0 ≤ v) && (decide (v ≤ top) && !has c v))) ∧ (if nx ≤ top then out ++ [mkR nx top] else out).length ≤ k + 1 := by
  have n0 := h.n0
  have hall : ∀ v, v ≤ top → has c v = has (c.take k) v := fun v hv => by
    rw [Bool.eq_iff_iff, has_iff, has_iff]
    constructor
    · rintro ⟨r, hr, h1, h2⟩
      obtain ⟨i, hi⟩ := List.getElem?_of_mem hr
      rcases Nat.lt_or_ge i k with hik | hik
      · exact ⟨r, List.mem_of_getElem? (by rw [List.getElem?_take_of_lt hik]; exact hi), h1, h2⟩
      · have := hrest i r hik hi; omega
    · rintro ⟨r, hr, h1, h2⟩
      exact ⟨r, List.mem_of_mem_take hr, h1, h2⟩
  have hold : ∀ v, nx ≤ v → has (c.take k) v = false := fun v hv => by
    rw [Bool.eq_false_iff, ne_eq, has_iff]
    rintro ⟨s, hs, h1, h2⟩
    have := h.lows s hs; omega
  have hbig : ∀ v, top < v → has out v = false := fun v hv => by
    rw [Bool.eq_false_iff, ne_eq, has_iff]
    rintro ⟨s, hs, h1, h2⟩
    have := (h.ends s hs).2; omega
  rcases Int.lt_or_le top nx with hlt | hle
  · rw [if_neg (by omega)]
    refine ⟨h.canon, fun v => ?_, Nat.le_succ_of_le h.len⟩
    rcases Int.lt_or_le top v with h1 | h1
    · rw [hbig v h1, show decide (v ≤ top) = false from decide_eq_false (by omega)]; simp
    · rw [h.mem, hall v h1, show decide (v ≤ top) = true from decide_eq_true h1, show decide (v < nx) = true from decide_eq_true (by omega)]
  · rw [if_pos hle]
    have e1 := mkR_lo n0 (by omega : nx ≤ 4294967295) ht0 ht
    have e2 := mkR_hi n0 (by omega : nx ≤ 4294967295) ht0 ht
    refine ⟨canon_append_one h.canon (by rw [e1, e2]; exact hle) (fun s hs => by rw [e1]; exact (h.ends s hs).1), fun v => ?_, by have := h.len; simp; omega⟩
    rw [has_append, has_one, e1, e2]
    rcases Int.lt_or_le top v with h1 | h1
    · rw [hbig v h1, show decide (v ≤ top) = false from decide_eq_false (by omega)]; simp
    · rw [h.mem, hall v h1, show decide (v ≤ top) = true from decide_eq_true h1]
      rcases Int.lt_or_le v nx with h2 | h2
      · rw [show decide (v < nx) = true from decide_eq_true h2, show decide (nx ≤ v) = false from decide_eq_false (by omega)]; simp
      · rw [show decide (v < nx) = false from decide_eq_false (by omega), show decide (nx ≤ v) = true from decide_eq_true h2, hold v h2, show decide (0 ≤ v) = true from decide_eq_true (by omega)]; simp

/-- interval.Complement -/
theorem c23 (l : List Rg) (top : Int) (ht0 : 0 ≤ top) (ht : top ≤ 4294967295) (hl : l.length < 10000) {K : AV → List Vm.Obj → Prop}
    (hK : ∀ out, Canon out → (∀ v, has out v = (decide (0 ≤ v) && (decide (v ≤ top) && !has l v))) → out.length ≤ l.length + 1 → K (encRs out) []) : ACall Tryz.prog 55 [encRs l, .v (.int .u32 top)] [] K := by
  refine of23 rfl rfl ?_
  (conv => whnf)
  refine k39 l (by omega) fun c g1 g2 g3 => ?_
  (conv => whnf)
  refine Lp.intro (Nat × List Rg × Int) (fun g => ⟨1, [(0, .arr 2 (g.2.1.map encR))], [(1, .v (.int .u32 top)), (5, .os 0 2 0 g.2.1.length), (6, .v (.int .u64 g.2.2)), (10, encRs c), (11, .v (.int .i64 (c.map encR).length)), (12, .v (.int .i64 g.1))]⟩)
    (fun g => g.1 ≤ c.length ∧ CInv c top g.1 g.2.1 g.2.2) (fun g => c.length - g.1) (0, [], 0) ?_ ?_ ?_
  · exact ⟨Nat.zero_le _, cinv_zero c top⟩
  · exact ⟨[(0, 0)], rfl, ⟨rfl, rfl, rfl, rfl, rfl, rfl, trivial⟩, ⟨rfl, trivial⟩⟩
  · rintro ⟨k, out, nx⟩ ⟨hk, hinv⟩
    simp only at hk hinv ⊢
    have n0 := hinv.n0; have n1 := hinv.n1
    have hlen := hinv.len
    have fin : (∀ (i : Nat) r, k ≤ i → c[i]? = some r → top < r.lo) → K (encRs (if nx ≤ top then out ++ [mkR nx top] else out)) [] := fun hrest => by
      obtain ⟨e1, e2, e3⟩ := cinv_end hinv ht0 ht hrest
      exact hK _ e1 (fun v => by rw [e2, g2]) (by omega)
    have last : (∀ (i : Nat) r, k ≤ i → c[i]? = some r → top < r.lo) → nx ≤ top → K (.lst (out.map encR ++ [.agg [.v (.int .u32 nx), .v (.int .u32 top)]])) [] := fun hrest hle => by
      have := fin hrest
      rw [if_pos hle] at this
      unfold encRs at this
      rw [List.map_append, List.map_cons, List.map_nil, enc_mkR n0 (by omega) ht0 ht] at this
      exact this
    have last' : (∀ (i : Nat) r, k ≤ i → c[i]? = some r → top < r.lo) → ¬ nx ≤ top → K (.lst (out.map encR)) [] := fun hrest hle => by
      have := fin hrest
      rw [if_neg hle] at this
      exact this
    rcases Nat.lt_or_ge k c.length with hkl | hkl
    · obtain ⟨r, hr⟩ : ∃ r, c[k]? = some r := ⟨_, List.getElem?_eq_getElem hkl⟩
      have b1 := r.l0; have b2 := r.l1; have b3 := r.h0; have b4 := r.h1
      have hle := g1.1 r (List.mem_of_getElem? hr)
      have hrest : top < r.lo → ∀ (i : Nat) s, k ≤ i → c[i]? = some s → top < s.lo := fun h i s hi hs => by
        rcases Nat.eq_or_lt_of_le hi with rfl | hlt
        · rw [hr] at hs; cases hs; exact h
        · have := List.pairwise_iff_getElem.1 g1.2 k i hkl (List.getElem?_eq_some_iff.1 hs).1 hlt
          rw [(List.getElem?_eq_some_iff.1 hr).2, (List.getElem?_eq_some_iff.1 hs).2] at this
          omega
      iterate 60 (all_goals ((conv => whnf); first | (with_reducible refine in_map hkl ?_) | (with_reducible refine ix_map hr ?_) | ((with_reducible refine sl_full ?ha ?_); (case ha => exact gA)) | ((with_reducible refine Ob.intro ?ha ?_); (case ha => exact gC)) | ((with_reducible refine br_lt ?_)) | ((with_reducible refine br_lf ?_)) | ((with_reducible refine br_pos ?ha ?_); (case ha => exact gB)) | ((with_reducible refine br_neg ?ha ?_); (case ha => exact gB)) | ((with_reducible refine br_t ?ha ?_); (case ha => with_reducible assumption)) | ((with_reducible refine br_f ?ha ?_); (case ha => with_reducible assumption)) | ((with_reducible refine br_dec (fun h => ?_) (fun h => ?_))) | ((with_reducible refine br_not ?_)) | ((with_reducible refine br_b (fun h => ?_) (fun h => ?_))) | ((with_reducible refine wr_i64 rfl ?ha ?hb ?_); (case ha => exact gB); (case hb => exact gB)) | ((with_reducible refine wr_u64 rfl ?ha ?hb ?_); (case ha => exact gB); (case hb => exact gB)) | ((with_reducible refine wr_u32 rfl ?ha ?hb ?_); (case ha => exact gB); (case hb => exact gB)) | ((with_reducible refine And.intro ?_ ?_)) | ((with_reducible refine True.intro)) | ((with_reducible refine Stp.go ?_)) | skip))
      · exact last (hrest (by assumption)) (by assumption)
      · exact last' (hrest (by assumption)) (by assumption)
      · have hs := cinv_succ g1 hinv hr (by omega)
        rw [if_pos (by assumption)] at hs
        refine ⟨(k + 1, out ++ [mkR nx (r.lo - 1)], r.hi + 1), ⟨by simp only; omega, hs⟩, by simp only; omega, ?_⟩
        simp only [List.map_append, List.map_cons, List.map_nil, List.length_append, List.length_cons, List.length_nil]
        rw [enc_mkR n0 (by omega) (by omega) (by omega)]
        exact ⟨[(0, 3)], rfl, ⟨rfl, rfl, rfl, rfl, rfl, rfl, trivial⟩, ⟨rfl, trivial⟩⟩
      · have hs := cinv_succ g1 hinv hr (by omega)
        rw [if_neg (by assumption)] at hs
        exact ⟨(k + 1, out, r.hi + 1), ⟨by simp only; omega, hs⟩, by simp only; omega, ⟨[(0, 0)], rfl, ⟨rfl, rfl, rfl, rfl, rfl, rfl, trivial⟩, ⟨rfl, trivial⟩⟩⟩
    · have hrest : ∀ (i : Nat) s, k ≤ i → c[i]? = some s → top < s.lo := fun i s hi hs => by
        have := (List.getElem?_eq_some_iff.1 hs).1; omega
      iterate 60 (all_goals ((conv => whnf); first | (with_reducible refine in_map hkl ?_) | ((with_reducible refine sl_full ?ha ?_); (case ha => exact gA)) | ((with_reducible refine Ob.intro ?ha ?_); (case ha => exact gC)) | ((with_reducible refine br_lt ?_)) | ((with_reducible refine br_lf ?_)) | ((with_reducible refine br_pos ?ha ?_); (case ha => exact gB)) | ((with_reducible refine br_neg ?ha ?_); (case ha => exact gB)) | ((with_reducible refine br_t ?ha ?_); (case ha => with_reducible assumption)) | ((with_reducible refine br_f ?ha ?_); (case ha => with_reducible assumption)) | ((with_reducible refine br_dec (fun h => ?_) (fun h => ?_))) | ((with_reducible refine br_not ?_)) | ((with_reducible refine br_b (fun h => ?_) (fun h => ?_))) | ((with_reducible refine wr_i64 rfl ?ha ?hb ?_); (case ha => exact gB); (case hb => exact gB)) | ((with_reducible refine wr_u64 rfl ?ha ?hb ?_); (case ha => exact gB); (case hb => exact gB)) | ((with_reducible refine wr_u32 rfl ?ha ?hb ?_); (case ha => exact gB); (case hb => exact gB)) | ((with_reducible refine And.intro ?_ ?_)) | ((with_reducible refine True.intro)) | ((with_reducible refine Stp.go ?_)) | skip))
      · exact last hrest (by assumption)
      · exact last' hrest (by assumption)

structure IInv (A B : List Rg) (i j : Nat) (out : List Rg) : Prop where
  canon : Canon out
  sep : ∀ s, s ∈ out → ∀ v, has (A.drop i) v = true → has (B.drop j) v = true → s.hi + 1 < v
  mem : ∀ v, (has A v && has B v) = (has out v || (has (A.drop i) v && has (B.drop j) v))
  len : out.length ≤ i + j
theorem has_cons (r : Rg) (l : List Rg) (v : Int) : has (r :: l) v = ((decide (r.lo ≤ v) && decide (v ≤ r.hi)) || has l v) := by simp [has]
theorem drop_of {l : List Rg} {i : Nat} {r : Rg} (h : l[i]? = some r) : l.drop i = r :: l.drop (i + 1) := by
  obtain ⟨h1, h2⟩ := List.getElem?_eq_some_iff.1 h
  rw [List.drop_eq_getElem_cons h1, h2]
theorem canon_rest {l : List Rg} (h : Canon l) {i : Nat} {r : Rg} (hr : l[i]? = some r) {v : Int} (hv : has (l.drop (i + 1)) v = true) : r.hi + 1 < v := by
  obtain ⟨s, hs, h1, h2⟩ := has_iff.1 hv
  obtain ⟨j, hj⟩ := List.getElem?_of_mem hs
  rw [List.getElem?_drop] at hj
  have := List.pairwise_iff_getElem.1 h.2 i (i + 1 + j) (List.getElem?_eq_some_iff.1 hr).1 (List.getElem?_eq_some_iff.1 hj).1 (by omega)
  rw [(List.getElem?_eq_some_iff.1 hr).2, (List.getElem?_eq_some_iff.1 hj).2] at this
  omega
theorem canon_rest_f {l : List Rg} (h : Canon l) {i : Nat} {r : Rg} (hr : l[i]? = some r) {v : Int} (hv : v ≤ r.hi + 1) : has (l.drop (i + 1)) v = false := by
  cases hb : has (l.drop (i + 1)) v with
  | false => rfl
  | true => have := canon_rest h hr hb; omega
def cross (out : List Rg) (r s : Rg) : List Rg := if max r.lo s.lo ≤ min r.hi s.hi then out ++ [mkR (max r.lo s.lo) (min r.hi s.hi)] else out
theorem cross_has (out : List Rg) (r s : Rg) (v : Int) : has (cross out r s) v = (has out v || ((decide (r.lo ≤ v) && decide (v ≤ r.hi)) && (decide (s.lo ≤ v) && decide (v ≤ s.hi)))) := by
  have b1 := r.l0; have b2 := r.l1; have b3 := r.h0; have b4 := r.h1
  have d1 := s.l0; have d2 := s.l1; have d3 := s.h0; have d4 := s.h1
  unfold cross
  split
  · rw [has_append, has_one, mkR_lo (by omega) (by omega) (by omega) (by omega), mkR_hi (by omega) (by omega) (by omega) (by omega)]
    congr 1
    rw [Bool.eq_iff_iff]
    simp only [Bool.and_eq_true, decide_eq_true_eq]
    omega
  · rename_i h
    have : ((decide (r.lo ≤ v) && decide (v ≤ r.hi)) && (decide (s.lo ≤ v) && decide (v ≤ s.hi))) = false := by
      cases hb : ((decide (r.lo ≤ v) && decide (v ≤ r.hi)) && (decide (s.lo ≤ v) && decide (v ≤ s.hi))) with
      | false => rfl
      | true => simp only [Bool.and_eq_true, decide_eq_true_eq] at hb; omega
    rw [this, Bool.or_false]
theorem cross_canon {A B : List Rg} {i j : Nat} {out : List Rg} {r s : Rg} (h : IInv A B i j out) (hr : A[i]? = some r) (hs : B[j]? = some s) : Canon (cross out r s) ∧ (cross out r s).length ≤ i + j + 1 := by
  have b1 := r.l0; have b2 := r.l1; have b3 := r.h0; have b4 := r.h1
  have d1 := s.l0; have d2 := s.l1; have d3 := s.h0; have d4 := s.h1
  have hl := h.len
  unfold cross
  split
  · rename_i hle
    have e1 := mkR_lo (show 0 ≤ max r.lo s.lo by omega) (by omega) (show 0 ≤ min r.hi s.hi by omega) (by omega)
    have e2 := mkR_hi (show 0 ≤ max r.lo s.lo by omega) (by omega) (show 0 ≤ min r.hi s.hi by omega) (by omega)
    refine ⟨canon_append_one h.canon (by rw [e1, e2]; exact hle) (fun t ht => ?_), by simp; omega⟩
    rw [e1]
    refine h.sep t ht _ ?_ ?_
    · rw [drop_of hr, has_cons, Bool.or_eq_true, Bool.and_eq_true, decide_eq_true_eq, decide_eq_true_eq]; left; omega
    · rw [drop_of hs, has_cons, Bool.or_eq_true, Bool.and_eq_true, decide_eq_true_eq, decide_eq_true_eq]; left; omega
  · exact ⟨h.canon, by omega⟩
theorem cross_ends {out : List Rg} {r s t : Rg} (ht : t ∈ cross out r s) : t ∈ out ∨ (t.hi ≤ r.hi ∧ t.hi ≤ s.hi) := by
  have b1 := r.l0; have b2 := r.l1; have b3 := r.h0; have b4 := r.h1
  have d1 := s.l0; have d2 := s.l1; have d3 := s.h0; have d4 := s.h1
  unfold cross at ht
  split at ht
  · rcases List.mem_append.1 ht with ht | ht
    · exact .inl ht
    · simp at ht; subst ht
      right
      rw [mkR_hi (by omega) (by omega) (by omega) (by omega)]
      omega
  · exact .inl ht
theorem iinv_left {A B : List Rg} {i j : Nat} {out : List Rg} {r s : Rg} (hA : Canon A) (hB : Canon B) (h : IInv A B i j out) (hr : A[i]? = some r) (hs : B[j]? = some s) (hlt : r.hi < s.hi) : IInv A B (i + 1) j (cross out r s) := by
  obtain ⟨c1, c2⟩ := cross_canon h hr hs
  refine ⟨c1, fun t ht v h1 h2 => ?_, fun v => ?_, by omega⟩
  · rcases cross_ends ht with ht | ht
    · exact h.sep t ht v (by rw [drop_of hr, has_cons, h1, Bool.or_true]) h2
    · have := canon_rest hA hr h1; omega
  · rw [h.mem, cross_has, drop_of hr, has_cons, drop_of hs, has_cons]
    rcases Int.lt_or_le (r.hi) v with h1 | h1
    · rw [show decide (v ≤ r.hi) = false from decide_eq_false (by omega)]; simp
    · rw [canon_rest_f hA hr (by omega), canon_rest_f hB hs (by omega)]
      cases has out v <;> cases (decide (r.lo ≤ v) && decide (v ≤ r.hi)) <;> cases (decide (s.lo ≤ v) && decide (v ≤ s.hi)) <;> rfl
theorem iinv_right {A B : List Rg} {i j : Nat} {out : List Rg} {r s : Rg} (hA : Canon A) (hB : Canon B) (h : IInv A B i j out) (hr : A[i]? = some r) (hs : B[j]? = some s) (hge : s.hi ≤ r.hi) : IInv A B i (j + 1) (cross out r s) := by
  obtain ⟨c1, c2⟩ := cross_canon h hr hs
  refine ⟨c1, fun t ht v h1 h2 => ?_, fun v => ?_, by omega⟩
  · rcases cross_ends ht with ht | ht
    · exact h.sep t ht v h1 (by rw [drop_of hs, has_cons, h2, Bool.or_true])
    · have := canon_rest hB hs h2; omega
  · rw [h.mem, cross_has, drop_of hr, has_cons, drop_of hs, has_cons]
    rcases Int.lt_or_le (s.hi) v with h1 | h1
    · rw [show decide (v ≤ s.hi) = false from decide_eq_false (by omega)]; simp
    · rw [canon_rest_f hA hr (by omega), canon_rest_f hB hs (by omega)]
      cases has out v <;> cases (decide (r.lo ≤ v) && decide (v ≤ r.hi)) <;> cases (decide (s.lo ≤ v) && decide (v ≤ s.hi)) <;> rfl

end Go.Proofs.YtgcplfplbcpemaaGreat

