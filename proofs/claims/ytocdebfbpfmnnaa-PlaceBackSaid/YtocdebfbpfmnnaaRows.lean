/-
  No cell of these rows narrows 'for every input' (looked for: loops, veiled, ifaces, maps, wideKeys, modest, calm, conditions, laid).
  DERIVED. THE GIVEN ROWS OF THIS SEAT. 6 by the template 'for every input the law returns true; each argument reads behind the call as it read before'; 0 by the template 'total and deterministic' (their statements: YtocdebfbpfmnnaaTotals.lean).
  GIVEN WITH THE SEED: the statements are not yours to turn. If you find one false, say at which input.
  Laid BY PROGRAM, IN A SANDBOX (cutbox-rows.mjs): the forced cells as the released guide's own fill.sh prints them over the translation cdded16999e012a7… (all of the seat's roots in one cut). By AI agents, Wed Nov 11 2026. No macro, syntax, notation, axiom, sorry.
-/
import Derived.Test.YtocdebfbpfmnnaaChecked
import GoSem.Claim
import GoSem.ClaimJoined
import GoSem.ClaimMapViews
import Derived.JoinedTies
import Derived.KernelRfl
namespace Go.Proofs.Ytocdebfbpfmnnaa
/- THE CELL 'sum', in the pinned program and in every row, IS THE sha256 OF THE DUMP (.gsa) THAT YtocdebfbpfmnnaaProg.lean LOADS. Nothing in Lean hashes anything: it is a label: what it is worth is what the hold of that sum in a sandbox is worth. -/
noncomputable def Try.pinned : Pinned := { name := "ytocdebfbpfmnnaa", sum := "cdded16999e012a758d95ae702493d9b4f1b6632864f9df3b8ca6f2be0e1a5e6", checked := Try.checked }
namespace Rows
def none {H : Type} : Left H := { results := [], args := [] }

/-- 'switchbacklaw15.PlaceOrders': WHATEVER THE INPUT: true; the input reads as it did. -/
def placeOrdersSpec : ChangeSpec := { name := "placeOrders", fn := fun _ => fun
  | [d] => { results := [.lit (.bool true)], args := [d] }
  | _ => none }
def placeOrdersRow : OpenClaim := { program := "ytocdebfbpfmnnaa", sum := "cdded16999e012a758d95ae702493d9b4f1b6632864f9df3b8ca6f2be0e1a5e6", func := "switchback/switchbacklaw15.PlaceOrders", spec := "placeOrders", unfollowed := true, recurses := true, plainKeys := false, apart := false }
def PlaceOrdersSaid : Prop := placeOrdersRow.holds Try.pinned (OpenSpec.ofChange placeOrdersSpec)

/-- ITS FALSE NEIGHBOUR: 'it returns false'. Refute it at one input. -/
def placeOrdersWrong : ChangeSpec := { name := "placeOrders", fn := fun _ => fun
  | [d] => { results := [.lit (.bool false)], args := [d] }
  | _ => none }
def PlaceOrdersWrongFalsely : Prop := placeOrdersRow.holds Try.pinned (OpenSpec.ofChange placeOrdersWrong)

/-- 'switchbacklaw15.PlaceReorders': WHATEVER THE INPUT: true; the input reads as it did. -/
def placeReordersSpec : ChangeSpec := { name := "placeReorders", fn := fun _ => fun
  | [d1, d2] => { results := [.lit (.bool true)], args := [d1, d2] }
  | _ => none }
def placeReordersRow : OpenClaim := { program := "ytocdebfbpfmnnaa", sum := "cdded16999e012a758d95ae702493d9b4f1b6632864f9df3b8ca6f2be0e1a5e6", func := "switchback/switchbacklaw15.PlaceReorders", spec := "placeReorders", unfollowed := true, recurses := true, plainKeys := false, apart := false }
def PlaceReordersSaid : Prop := placeReordersRow.holds Try.pinned (OpenSpec.ofChange placeReordersSpec)

/-- ITS FALSE NEIGHBOUR: 'it returns false'. Refute it at one input. -/
def placeReordersWrong : ChangeSpec := { name := "placeReorders", fn := fun _ => fun
  | [d1, d2] => { results := [.lit (.bool false)], args := [d1, d2] }
  | _ => none }
def PlaceReordersWrongFalsely : Prop := placeReordersRow.holds Try.pinned (OpenSpec.ofChange placeReordersWrong)

/-- 'switchbacklaw15.PlaceRuns': WHATEVER THE INPUT: true; the input reads as it did. -/
def placeRunsSpec : ChangeSpec := { name := "placeRuns", fn := fun _ => fun
  | [d1, d2, d3] => { results := [.lit (.bool true)], args := [d1, d2, d3] }
  | _ => none }
def placeRunsRow : OpenClaim := { program := "ytocdebfbpfmnnaa", sum := "cdded16999e012a758d95ae702493d9b4f1b6632864f9df3b8ca6f2be0e1a5e6", func := "switchback/switchbacklaw15.PlaceRuns", spec := "placeRuns", unfollowed := true, recurses := true, plainKeys := false, apart := false }
def PlaceRunsSaid : Prop := placeRunsRow.holds Try.pinned (OpenSpec.ofChange placeRunsSpec)

/-- ITS FALSE NEIGHBOUR: 'it returns false'. Refute it at one input. -/
def placeRunsWrong : ChangeSpec := { name := "placeRuns", fn := fun _ => fun
  | [d1, d2, d3] => { results := [.lit (.bool false)], args := [d1, d2, d3] }
  | _ => none }
def PlaceRunsWrongFalsely : Prop := placeRunsRow.holds Try.pinned (OpenSpec.ofChange placeRunsWrong)

/-- 'switchbacklaw15.PlaceBack': WHATEVER THE INPUT: true; the input reads as it did. -/
def placeBackSpec : ChangeSpec := { name := "placeBack", fn := fun _ => fun
  | [d1, d2] => { results := [.lit (.bool true)], args := [d1, d2] }
  | _ => none }
def placeBackRow : OpenClaim := { program := "ytocdebfbpfmnnaa", sum := "cdded16999e012a758d95ae702493d9b4f1b6632864f9df3b8ca6f2be0e1a5e6", func := "switchback/switchbacklaw15.PlaceBack", spec := "placeBack", unfollowed := true, recurses := true, plainKeys := false, apart := false }
def PlaceBackSaid : Prop := placeBackRow.holds Try.pinned (OpenSpec.ofChange placeBackSpec)

/-- ITS FALSE NEIGHBOUR: 'it returns false'. Refute it at one input. -/
def placeBackWrong : ChangeSpec := { name := "placeBack", fn := fun _ => fun
  | [d1, d2] => { results := [.lit (.bool false)], args := [d1, d2] }
  | _ => none }
def PlaceBackWrongFalsely : Prop := placeBackRow.holds Try.pinned (OpenSpec.ofChange placeBackWrong)

/-- 'switchbacklaw09.ThreadReached': WHATEVER THE INPUT: true; the input reads as it did. -/
def threadReachedSpec : ChangeSpec := { name := "threadReached", fn := fun _ => fun
  | [d] => { results := [.lit (.bool true)], args := [d] }
  | _ => none }
def threadReachedRow : OpenClaim := { program := "ytocdebfbpfmnnaa", sum := "cdded16999e012a758d95ae702493d9b4f1b6632864f9df3b8ca6f2be0e1a5e6", func := "switchback/switchbacklaw09.ThreadReached", spec := "threadReached", unfollowed := true, recurses := true, plainKeys := false, apart := false }
def ThreadReachedSaid : Prop := threadReachedRow.holds Try.pinned (OpenSpec.ofChange threadReachedSpec)

/-- ITS FALSE NEIGHBOUR: 'it returns false'. Refute it at one input. -/
def threadReachedWrong : ChangeSpec := { name := "threadReached", fn := fun _ => fun
  | [d] => { results := [.lit (.bool false)], args := [d] }
  | _ => none }
def ThreadReachedWrongFalsely : Prop := threadReachedRow.holds Try.pinned (OpenSpec.ofChange threadReachedWrong)

/-- 'switchbacklaw15.PlaceLoops': WHATEVER THE INPUT: true; the input reads as it did. -/
def placeLoopsSpec : ChangeSpec := { name := "placeLoops", fn := fun _ => fun
  | [d1, d2] => { results := [.lit (.bool true)], args := [d1, d2] }
  | _ => none }
def placeLoopsRow : OpenClaim := { program := "ytocdebfbpfmnnaa", sum := "cdded16999e012a758d95ae702493d9b4f1b6632864f9df3b8ca6f2be0e1a5e6", func := "switchback/switchbacklaw15.PlaceLoops", spec := "placeLoops", unfollowed := true, recurses := true, plainKeys := false, apart := false }
def PlaceLoopsSaid : Prop := placeLoopsRow.holds Try.pinned (OpenSpec.ofChange placeLoopsSpec)

/-- ITS FALSE NEIGHBOUR: 'it returns false'. Refute it at one input. -/
def placeLoopsWrong : ChangeSpec := { name := "placeLoops", fn := fun _ => fun
  | [d1, d2] => { results := [.lit (.bool false)], args := [d1, d2] }
  | _ => none }
def PlaceLoopsWrongFalsely : Prop := placeLoopsRow.holds Try.pinned (OpenSpec.ofChange placeLoopsWrong)

/- THE SECOND FORM. 'bulk': how many values and letters a reading holds, each counted each time it is reached (what is shared counts as often as it is met; a slice's spare places count too). A statement '..UptoSaid' is the law's where the arguments, and the package variables that the reading takes, are together of bulk at most 1048576: NARROWER than '..Said'. Prove '..Said' where nothing that the law and all that it calls make is longer than what came in: it says more and counts as full. Else prove '..UptoSaid'. A law counts once. -/
mutual
def uptoBulk {H : Type} : DataW H → Nat
  | .lit (.string bytes) => bytes.length + 1
  | .lit _ => 1
  | .nil => 1
  | .ptr d => uptoBulk d + 1
  | .slice elems spare => uptoBulkAll elems + uptoBulkAll spare + 1
  | .agg parts => uptoBulkAll parts + 1
  | .iface _ d => uptoBulk d + 1
  | .map entries => uptoBulkEntries entries + 1
  | .held _ => 1
def uptoBulkAll {H : Type} : List (DataW H) → Nat
  | [] => 0
  | d :: r => uptoBulk d + uptoBulkAll r
def uptoBulkEntries {H : Type} : List (Lit × DataW H) → Nat
  | [] => 0
  | x :: r => uptoBulkEntry x + uptoBulkEntries r
def uptoBulkEntry {H : Type} : Lit × DataW H → Nat
  | (.string bytes, d) => bytes.length + uptoBulk d + 1
  | (_, d) => uptoBulk d + 1
 end
def uptoSmall : (H : Type) → List (DataW H) → Bool := fun _ ds => decide (uptoBulkAll ds ≤ 1048576)
def OpenSpec.upto (s : _root_.Go.ChangeSpec) : _root_.Go.OpenSpec := { _root_.Go.OpenSpec.ofChange s with cond := some uptoSmall }

/-- 'switchbacklaw15.PlaceOrders', WHERE WHAT IT READS IS OF BULK AT MOST 1048576: true; the input reads as it did. -/
def placeOrdersUptoRow : OpenClaim := { program := "ytocdebfbpfmnnaa", sum := "cdded16999e012a758d95ae702493d9b4f1b6632864f9df3b8ca6f2be0e1a5e6", func := "switchback/switchbacklaw15.PlaceOrders", spec := "placeOrders", unfollowed := true, recurses := true, plainKeys := false, apart := false, narrowed := true }
def PlaceOrdersUptoSaid : Prop := placeOrdersUptoRow.holds Try.pinned (OpenSpec.upto placeOrdersSpec)

/-- 'switchbacklaw15.PlaceReorders', WHERE WHAT IT READS IS OF BULK AT MOST 1048576: true; the input reads as it did. -/
def placeReordersUptoRow : OpenClaim := { program := "ytocdebfbpfmnnaa", sum := "cdded16999e012a758d95ae702493d9b4f1b6632864f9df3b8ca6f2be0e1a5e6", func := "switchback/switchbacklaw15.PlaceReorders", spec := "placeReorders", unfollowed := true, recurses := true, plainKeys := false, apart := false, narrowed := true }
def PlaceReordersUptoSaid : Prop := placeReordersUptoRow.holds Try.pinned (OpenSpec.upto placeReordersSpec)

/-- 'switchbacklaw15.PlaceRuns', WHERE WHAT IT READS IS OF BULK AT MOST 1048576: true; the input reads as it did. -/
def placeRunsUptoRow : OpenClaim := { program := "ytocdebfbpfmnnaa", sum := "cdded16999e012a758d95ae702493d9b4f1b6632864f9df3b8ca6f2be0e1a5e6", func := "switchback/switchbacklaw15.PlaceRuns", spec := "placeRuns", unfollowed := true, recurses := true, plainKeys := false, apart := false, narrowed := true }
def PlaceRunsUptoSaid : Prop := placeRunsUptoRow.holds Try.pinned (OpenSpec.upto placeRunsSpec)

/-- 'switchbacklaw15.PlaceBack', WHERE WHAT IT READS IS OF BULK AT MOST 1048576: true; the input reads as it did. -/
def placeBackUptoRow : OpenClaim := { program := "ytocdebfbpfmnnaa", sum := "cdded16999e012a758d95ae702493d9b4f1b6632864f9df3b8ca6f2be0e1a5e6", func := "switchback/switchbacklaw15.PlaceBack", spec := "placeBack", unfollowed := true, recurses := true, plainKeys := false, apart := false, narrowed := true }
def PlaceBackUptoSaid : Prop := placeBackUptoRow.holds Try.pinned (OpenSpec.upto placeBackSpec)

/-- 'switchbacklaw09.ThreadReached', WHERE WHAT IT READS IS OF BULK AT MOST 1048576: true; the input reads as it did. -/
def threadReachedUptoRow : OpenClaim := { program := "ytocdebfbpfmnnaa", sum := "cdded16999e012a758d95ae702493d9b4f1b6632864f9df3b8ca6f2be0e1a5e6", func := "switchback/switchbacklaw09.ThreadReached", spec := "threadReached", unfollowed := true, recurses := true, plainKeys := false, apart := false, narrowed := true }
def ThreadReachedUptoSaid : Prop := threadReachedUptoRow.holds Try.pinned (OpenSpec.upto threadReachedSpec)

/-- 'switchbacklaw15.PlaceLoops', WHERE WHAT IT READS IS OF BULK AT MOST 1048576: true; the input reads as it did. -/
def placeLoopsUptoRow : OpenClaim := { program := "ytocdebfbpfmnnaa", sum := "cdded16999e012a758d95ae702493d9b4f1b6632864f9df3b8ca6f2be0e1a5e6", func := "switchback/switchbacklaw15.PlaceLoops", spec := "placeLoops", unfollowed := true, recurses := true, plainKeys := false, apart := false, narrowed := true }
def PlaceLoopsUptoSaid : Prop := placeLoopsUptoRow.holds Try.pinned (OpenSpec.upto placeLoopsSpec)

end Rows
end Go.Proofs.Ytocdebfbpfmnnaa
