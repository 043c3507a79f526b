/- slices.SortFunc with canonical's closure: the library's contract at this program. -/
import Derived.Shelf.SlSortCmp.WholeK
import Derived.Shelf.SlSortCmp.NoneTotal
import Derived.Test.YtkpnlmainmlogaaIsl
import Derived.Test.YtkpnlmainmlogaaVmS
import Derived.Test.YtkpnlmainmlogaaIr
set_option linter.unusedVariables false
set_option linter.unusedSimpArgs false
set_option maxRecDepth 20000
namespace Go.Proofs.Ytkpnlmainmlogaa
open Go Go.Vm Go.Sort Go.Shelf Go.Proofs

instance : Inhabited Rg := ⟨⟨0, 0, by decide, by decide, by decide, by decide⟩⟩
def encV (r : Rg) : List Value := [.int .u32 r.lo, .int .u32 r.hi]
def cmpR (r s : Rg) : Int := cmpI r.lo s.lo
theorem ltR (r s : Rg) : ltOf cmpR r s = decide (r.lo < s.lo) := by
  unfold ltOf cmpR cmpI
  by_cases h1 : r.lo < s.lo
  · simp [h1]
  · by_cases h2 : s.lo < r.lo <;> simp [h1, h2]
theorem swoR : SWO (ltOf cmpR) where
  irrefl x := by rw [ltR]; simp
  trans x y z h1 h2 := by rw [ltR] at *; simp at *; omega
  ntrans x y z h1 h2 := by rw [ltR] at *; simp at *; omega

theorem sorts : Sorts := by
  intro d n hn hd K hK
  have eg : ∀ args w, (callFunc 47 args).run Try.prog w = .ok (.enter 47 args) w := enters_of Try.func47 (by kernel_rfl) rfl
  refine sort_of (k := 2) (enc := encV) (encA := encR) (cf := cmpR) (by kernel_rfl) (fun _ => rfl) (fun _ => rfl) (fun blk off cap d w hH hb hs => ?_) (fun p cap fv w => ?_) hn (by omega) (fun d' hp hs => hK d' hp (hs.imp fun h => ?_))
  · exact AnyQ.slices_SortFunc Try.sortR 2 Try.isAgg40 Try.sizeOf40 encV (fun _ => rfl) (fun x v hv => by simp [encV] at hv; rcases hv with rfl | rfl <;> rfl) cmpR swoR 47 #[] blk off cap d w eg
      (cmpLays_of fun x y => c47 x y ⟨rfl, rfl⟩) hH hb hs
  · exact AnyF.slices_SortFunc_none Try.sortR p cap fv w
  · rw [ltR] at h; simp at h; omega
#print axioms sorts
end Go.Proofs.Ytkpnlmainmlogaa
