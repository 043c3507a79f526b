/-
  No cell of these rows narrows 'for every input' (looked for: loops, veiled, ifaces, maps, wideKeys, modest, calm, conditions, laid).
  DERIVED. THE GIVEN ROWS OF THIS SEAT. 6 by the template 'for every input the law returns true; each argument reads behind the call as it read before'; 0 by the template 'total and deterministic' (their statements: YtkpnlmainmlogaaTotals.lean).
  GIVEN WITH THE SEED: the statements are not yours to turn. If you find one false, say at which input.
  Laid BY PROGRAM, IN A SANDBOX (cutbox-rows.mjs): the forced cells as the released guide's own fill.sh prints them over the translation 980880b9893da37a… (all of the seat's roots in one cut). By AI agents, Wed Nov 11 2026. No macro, syntax, notation, axiom, sorry.
-/
import Derived.Test.YtkpnlmainmlogaaChecked
import GoSem.Claim
import GoSem.ClaimJoined
import GoSem.ClaimMapViews
import Derived.JoinedTies
import Derived.KernelRfl
namespace Go.Proofs.Ytkpnlmainmlogaa
/- THE CELL 'sum', in the pinned program and in every row, IS THE sha256 OF THE DUMP (.gsa) THAT YtkpnlmainmlogaaProg.lean LOADS. Nothing in Lean hashes anything: it is a label: what it is worth is what the hold of that sum in a sandbox is worth. -/
noncomputable def Try.pinned : Pinned := { name := "ytkpnlmainmlogaa", sum := "980880b9893da37a468a61f34c318ff652b396e69ad33e53b8a1e3ccffae7f52", checked := Try.checked }
namespace Rows
def none {H : Type} : Left H := { results := [], args := [] }

/-- 'nsglaw2.IntervalReads': WHATEVER THE INPUT: true; the input reads as it did. -/
def intervalReadsSpec : ChangeSpec := { name := "intervalReads", fn := fun _ => fun
  | [d1, d2, d3, d4, d5] => { results := [.lit (.bool true)], args := [d1, d2, d3, d4, d5] }
  | _ => none }
def intervalReadsRow : OpenClaim := { program := "ytkpnlmainmlogaa", sum := "980880b9893da37a468a61f34c318ff652b396e69ad33e53b8a1e3ccffae7f52", func := "netsegment/nsglaw2.IntervalReads", spec := "intervalReads", unfollowed := true, recurses := true, apart := false }
def IntervalReadsSaid : Prop := intervalReadsRow.holds Try.pinned (OpenSpec.ofChange intervalReadsSpec)

/-- ITS FALSE NEIGHBOUR: 'it returns false'. Refute it at one input. -/
def intervalReadsWrong : ChangeSpec := { name := "intervalReads", fn := fun _ => fun
  | [d1, d2, d3, d4, d5] => { results := [.lit (.bool false)], args := [d1, d2, d3, d4, d5] }
  | _ => none }
def IntervalReadsWrongFalsely : Prop := intervalReadsRow.holds Try.pinned (OpenSpec.ofChange intervalReadsWrong)

/-- 'nsglaw2.IntervalCounts': WHATEVER THE INPUT: true; the input reads as it did. -/
def intervalCountsSpec : ChangeSpec := { name := "intervalCounts", fn := fun _ => fun
  | [d1, d2, d3] => { results := [.lit (.bool true)], args := [d1, d2, d3] }
  | _ => none }
def intervalCountsRow : OpenClaim := { program := "ytkpnlmainmlogaa", sum := "980880b9893da37a468a61f34c318ff652b396e69ad33e53b8a1e3ccffae7f52", func := "netsegment/nsglaw2.IntervalCounts", spec := "intervalCounts", unfollowed := true, recurses := true, apart := false }
def IntervalCountsSaid : Prop := intervalCountsRow.holds Try.pinned (OpenSpec.ofChange intervalCountsSpec)

/-- ITS FALSE NEIGHBOUR: 'it returns false'. Refute it at one input. -/
def intervalCountsWrong : ChangeSpec := { name := "intervalCounts", fn := fun _ => fun
  | [d1, d2, d3] => { results := [.lit (.bool false)], args := [d1, d2, d3] }
  | _ => none }
def IntervalCountsWrongFalsely : Prop := intervalCountsRow.holds Try.pinned (OpenSpec.ofChange intervalCountsWrong)

/-- 'nsglaw2.IntervalAlgebra': WHATEVER THE INPUT: true; the input reads as it did. -/
def intervalAlgebraSpec : ChangeSpec := { name := "intervalAlgebra", fn := fun _ => fun
  | [d1, d2, d3] => { results := [.lit (.bool true)], args := [d1, d2, d3] }
  | _ => none }
def intervalAlgebraRow : OpenClaim := { program := "ytkpnlmainmlogaa", sum := "980880b9893da37a468a61f34c318ff652b396e69ad33e53b8a1e3ccffae7f52", func := "netsegment/nsglaw2.IntervalAlgebra", spec := "intervalAlgebra", unfollowed := true, recurses := true, apart := false }
def IntervalAlgebraSaid : Prop := intervalAlgebraRow.holds Try.pinned (OpenSpec.ofChange intervalAlgebraSpec)

/-- ITS FALSE NEIGHBOUR: 'it returns false'. Refute it at one input. -/
def intervalAlgebraWrong : ChangeSpec := { name := "intervalAlgebra", fn := fun _ => fun
  | [d1, d2, d3] => { results := [.lit (.bool false)], args := [d1, d2, d3] }
  | _ => none }
def IntervalAlgebraWrongFalsely : Prop := intervalAlgebraRow.holds Try.pinned (OpenSpec.ofChange intervalAlgebraWrong)

/-- 'nsglaw2.IntervalCombines': WHATEVER THE INPUT: true; the input reads as it did. -/
def intervalCombinesSpec : ChangeSpec := { name := "intervalCombines", fn := fun _ => fun
  | [d1, d2, d3] => { results := [.lit (.bool true)], args := [d1, d2, d3] }
  | _ => none }
def intervalCombinesRow : OpenClaim := { program := "ytkpnlmainmlogaa", sum := "980880b9893da37a468a61f34c318ff652b396e69ad33e53b8a1e3ccffae7f52", func := "netsegment/nsglaw2.IntervalCombines", spec := "intervalCombines", unfollowed := true, recurses := true, apart := false }
def IntervalCombinesSaid : Prop := intervalCombinesRow.holds Try.pinned (OpenSpec.ofChange intervalCombinesSpec)

/-- ITS FALSE NEIGHBOUR: 'it returns false'. Refute it at one input. -/
def intervalCombinesWrong : ChangeSpec := { name := "intervalCombines", fn := fun _ => fun
  | [d1, d2, d3] => { results := [.lit (.bool false)], args := [d1, d2, d3] }
  | _ => none }
def IntervalCombinesWrongFalsely : Prop := intervalCombinesRow.holds Try.pinned (OpenSpec.ofChange intervalCombinesWrong)

/-- 'nsglaw2.IntervalMembers': WHATEVER THE INPUT: true; the input reads as it did. -/
def intervalMembersSpec : ChangeSpec := { name := "intervalMembers", fn := fun _ => fun
  | [d1, d2, d3] => { results := [.lit (.bool true)], args := [d1, d2, d3] }
  | _ => none }
def intervalMembersRow : OpenClaim := { program := "ytkpnlmainmlogaa", sum := "980880b9893da37a468a61f34c318ff652b396e69ad33e53b8a1e3ccffae7f52", func := "netsegment/nsglaw2.IntervalMembers", spec := "intervalMembers", unfollowed := true, recurses := true, apart := false }
def IntervalMembersSaid : Prop := intervalMembersRow.holds Try.pinned (OpenSpec.ofChange intervalMembersSpec)

/-- ITS FALSE NEIGHBOUR: 'it returns false'. Refute it at one input. -/
def intervalMembersWrong : ChangeSpec := { name := "intervalMembers", fn := fun _ => fun
  | [d1, d2, d3] => { results := [.lit (.bool false)], args := [d1, d2, d3] }
  | _ => none }
def IntervalMembersWrongFalsely : Prop := intervalMembersRow.holds Try.pinned (OpenSpec.ofChange intervalMembersWrong)

/-- 'nsglaw2.IntervalCanonical': WHATEVER THE INPUT: true; the input reads as it did. -/
def intervalCanonicalSpec : ChangeSpec := { name := "intervalCanonical", fn := fun _ => fun
  | [d1, d2] => { results := [.lit (.bool true)], args := [d1, d2] }
  | _ => none }
def intervalCanonicalRow : OpenClaim := { program := "ytkpnlmainmlogaa", sum := "980880b9893da37a468a61f34c318ff652b396e69ad33e53b8a1e3ccffae7f52", func := "netsegment/nsglaw2.IntervalCanonical", spec := "intervalCanonical", unfollowed := true, recurses := true, apart := false }
def IntervalCanonicalSaid : Prop := intervalCanonicalRow.holds Try.pinned (OpenSpec.ofChange intervalCanonicalSpec)

/-- ITS FALSE NEIGHBOUR: 'it returns false'. Refute it at one input. -/
def intervalCanonicalWrong : ChangeSpec := { name := "intervalCanonical", fn := fun _ => fun
  | [d1, d2] => { results := [.lit (.bool false)], args := [d1, d2] }
  | _ => none }
def IntervalCanonicalWrongFalsely : Prop := intervalCanonicalRow.holds Try.pinned (OpenSpec.ofChange intervalCanonicalWrong)

/- THE SECOND FORM. 'bulk': how many values and letters a reading holds, each counted each time it is reached (what is shared counts as often as it is met; a slice's spare places count too). A statement '..UptoSaid' is the law's where the arguments, and the package variables that the reading takes, are together of bulk at most 1048576: NARROWER than '..Said'. Prove '..Said' where nothing that the law and all that it calls make is longer than what came in: it says more and counts as full. Else prove '..UptoSaid'. A law counts once. -/
mutual
def uptoBulk {H : Type} : DataW H → Nat
  | .lit (.string bytes) => bytes.length + 1
  | .lit _ => 1
  | .nil => 1
  | .ptr d => uptoBulk d + 1
  | .slice elems spare => uptoBulkAll elems + uptoBulkAll spare + 1
  | .agg parts => uptoBulkAll parts + 1
  | .iface _ d => uptoBulk d + 1
  | .map entries => uptoBulkEntries entries + 1
  | .held _ => 1
def uptoBulkAll {H : Type} : List (DataW H) → Nat
  | [] => 0
  | d :: r => uptoBulk d + uptoBulkAll r
def uptoBulkEntries {H : Type} : List (Lit × DataW H) → Nat
  | [] => 0
  | x :: r => uptoBulkEntry x + uptoBulkEntries r
def uptoBulkEntry {H : Type} : Lit × DataW H → Nat
  | (.string bytes, d) => bytes.length + uptoBulk d + 1
  | (_, d) => uptoBulk d + 1
 end
def uptoSmall : (H : Type) → List (DataW H) → Bool := fun _ ds => decide (uptoBulkAll ds ≤ 1048576)
def OpenSpec.upto (s : _root_.Go.ChangeSpec) : _root_.Go.OpenSpec := { _root_.Go.OpenSpec.ofChange s with cond := some uptoSmall }

/-- 'nsglaw2.IntervalReads', WHERE WHAT IT READS IS OF BULK AT MOST 1048576: true; the input reads as it did. -/
def intervalReadsUptoRow : OpenClaim := { program := "ytkpnlmainmlogaa", sum := "980880b9893da37a468a61f34c318ff652b396e69ad33e53b8a1e3ccffae7f52", func := "netsegment/nsglaw2.IntervalReads", spec := "intervalReads", unfollowed := true, recurses := true, apart := false, narrowed := true }
def IntervalReadsUptoSaid : Prop := intervalReadsUptoRow.holds Try.pinned (OpenSpec.upto intervalReadsSpec)

/-- 'nsglaw2.IntervalCounts', WHERE WHAT IT READS IS OF BULK AT MOST 1048576: true; the input reads as it did. -/
def intervalCountsUptoRow : OpenClaim := { program := "ytkpnlmainmlogaa", sum := "980880b9893da37a468a61f34c318ff652b396e69ad33e53b8a1e3ccffae7f52", func := "netsegment/nsglaw2.IntervalCounts", spec := "intervalCounts", unfollowed := true, recurses := true, apart := false, narrowed := true }
def IntervalCountsUptoSaid : Prop := intervalCountsUptoRow.holds Try.pinned (OpenSpec.upto intervalCountsSpec)

/-- 'nsglaw2.IntervalAlgebra', WHERE WHAT IT READS IS OF BULK AT MOST 1048576: true; the input reads as it did. -/
def intervalAlgebraUptoRow : OpenClaim := { program := "ytkpnlmainmlogaa", sum := "980880b9893da37a468a61f34c318ff652b396e69ad33e53b8a1e3ccffae7f52", func := "netsegment/nsglaw2.IntervalAlgebra", spec := "intervalAlgebra", unfollowed := true, recurses := true, apart := false, narrowed := true }
def IntervalAlgebraUptoSaid : Prop := intervalAlgebraUptoRow.holds Try.pinned (OpenSpec.upto intervalAlgebraSpec)

/-- 'nsglaw2.IntervalCombines', WHERE WHAT IT READS IS OF BULK AT MOST 1048576: true; the input reads as it did. -/
def intervalCombinesUptoRow : OpenClaim := { program := "ytkpnlmainmlogaa", sum := "980880b9893da37a468a61f34c318ff652b396e69ad33e53b8a1e3ccffae7f52", func := "netsegment/nsglaw2.IntervalCombines", spec := "intervalCombines", unfollowed := true, recurses := true, apart := false, narrowed := true }
def IntervalCombinesUptoSaid : Prop := intervalCombinesUptoRow.holds Try.pinned (OpenSpec.upto intervalCombinesSpec)

/-- 'nsglaw2.IntervalMembers', WHERE WHAT IT READS IS OF BULK AT MOST 1048576: true; the input reads as it did. -/
def intervalMembersUptoRow : OpenClaim := { program := "ytkpnlmainmlogaa", sum := "980880b9893da37a468a61f34c318ff652b396e69ad33e53b8a1e3ccffae7f52", func := "netsegment/nsglaw2.IntervalMembers", spec := "intervalMembers", unfollowed := true, recurses := true, apart := false, narrowed := true }
def IntervalMembersUptoSaid : Prop := intervalMembersUptoRow.holds Try.pinned (OpenSpec.upto intervalMembersSpec)

/-- 'nsglaw2.IntervalCanonical', WHERE WHAT IT READS IS OF BULK AT MOST 1048576: true; the input reads as it did. -/
def intervalCanonicalUptoRow : OpenClaim := { program := "ytkpnlmainmlogaa", sum := "980880b9893da37a468a61f34c318ff652b396e69ad33e53b8a1e3ccffae7f52", func := "netsegment/nsglaw2.IntervalCanonical", spec := "intervalCanonical", unfollowed := true, recurses := true, apart := false, narrowed := true }
def IntervalCanonicalUptoSaid : Prop := intervalCanonicalUptoRow.holds Try.pinned (OpenSpec.upto intervalCanonicalSpec)

end Rows
end Go.Proofs.Ytkpnlmainmlogaa
