/-
  No cell of these rows narrows 'for every input' (looked for: loops, veiled, ifaces, maps, wideKeys, modest, calm, conditions, laid).
  DERIVED. THE GIVEN ROWS OF THIS SEAT. 16 by the template 'for every input the law returns true; each argument reads behind the call as it read before'; 0 by the template 'total and deterministic' (their statements: YtifkbghnmhineaaTotals.lean).
  GIVEN WITH THE SEED: the statements are not yours to turn. If you find one false, say at which input.
  Laid BY PROGRAM, IN A SANDBOX (cutbox-rows.mjs): the forced cells as the released guide's own fill.sh prints them over the translation 8633583a8abff684… (all of the seat's roots in one cut). By AI agents, Wed Nov 11 2026. No macro, syntax, notation, axiom, sorry.
-/
import Derived.Test.YtifkbghnmhineaaChecked
import GoSem.Claim
import GoSem.ClaimJoined
import GoSem.ClaimMapViews
import Derived.JoinedTies
import Derived.KernelRfl
namespace Go.Proofs.Ytifkbghnmhineaa
/- THE CELL 'sum', in the pinned program and in every row, IS THE sha256 OF THE DUMP (.gsa) THAT YtifkbghnmhineaaProg.lean LOADS. Nothing in Lean hashes anything: it is a label: what it is worth is what the hold of that sum in a sandbox is worth. -/
noncomputable def Try.pinned : Pinned := { name := "ytifkbghnmhineaa", sum := "8633583a8abff68442537bbdaf1a8e992c57e84bcee07df4908db8b10dba075c", checked := Try.checked }
namespace Rows
def none {H : Type} : Left H := { results := [], args := [] }

/-- 'codewrightlaw24.MacwilliamsPless': WHATEVER THE INPUT: true; the input reads as it did. -/
def macwilliamsPlessSpec : ChangeSpec := { name := "macwilliamsPless", fn := fun _ => fun
  | [d1, d2, d3, d4] => { results := [.lit (.bool true)], args := [d1, d2, d3, d4] }
  | _ => none }
def macwilliamsPlessRow : OpenClaim := { program := "ytifkbghnmhineaa", sum := "8633583a8abff68442537bbdaf1a8e992c57e84bcee07df4908db8b10dba075c", func := "codewright/codewrightlaw24.MacwilliamsPless", spec := "macwilliamsPless", apart := false }
def MacwilliamsPlessSaid : Prop := macwilliamsPlessRow.holds Try.pinned (OpenSpec.ofChange macwilliamsPlessSpec)

/-- ITS FALSE NEIGHBOUR: 'it returns false'. Refute it at one input. -/
def macwilliamsPlessWrong : ChangeSpec := { name := "macwilliamsPless", fn := fun _ => fun
  | [d1, d2, d3, d4] => { results := [.lit (.bool false)], args := [d1, d2, d3, d4] }
  | _ => none }
def MacwilliamsPlessWrongFalsely : Prop := macwilliamsPlessRow.holds Try.pinned (OpenSpec.ofChange macwilliamsPlessWrong)

/-- 'codewrightlaw24.MacwilliamsDesigns': WHATEVER THE INPUT: true; the input reads as it did. -/
def macwilliamsDesignsSpec : ChangeSpec := { name := "macwilliamsDesigns", fn := fun _ => fun
  | [d1, d2, d3] => { results := [.lit (.bool true)], args := [d1, d2, d3] }
  | _ => none }
def macwilliamsDesignsRow : OpenClaim := { program := "ytifkbghnmhineaa", sum := "8633583a8abff68442537bbdaf1a8e992c57e84bcee07df4908db8b10dba075c", func := "codewright/codewrightlaw24.MacwilliamsDesigns", spec := "macwilliamsDesigns", unfollowed := true, recurses := true, apart := false }
def MacwilliamsDesignsSaid : Prop := macwilliamsDesignsRow.holds Try.pinned (OpenSpec.ofChange macwilliamsDesignsSpec)

/-- ITS FALSE NEIGHBOUR: 'it returns false'. Refute it at one input. -/
def macwilliamsDesignsWrong : ChangeSpec := { name := "macwilliamsDesigns", fn := fun _ => fun
  | [d1, d2, d3] => { results := [.lit (.bool false)], args := [d1, d2, d3] }
  | _ => none }
def MacwilliamsDesignsWrongFalsely : Prop := macwilliamsDesignsRow.holds Try.pinned (OpenSpec.ofChange macwilliamsDesignsWrong)

/-- 'codewrightlaw24.MacwilliamsDerived': WHATEVER THE INPUT: true; the input reads as it did. -/
def macwilliamsDerivedSpec : ChangeSpec := { name := "macwilliamsDerived", fn := fun _ => fun
  | [d1, d2, d3, d4] => { results := [.lit (.bool true)], args := [d1, d2, d3, d4] }
  | _ => none }
def macwilliamsDerivedRow : OpenClaim := { program := "ytifkbghnmhineaa", sum := "8633583a8abff68442537bbdaf1a8e992c57e84bcee07df4908db8b10dba075c", func := "codewright/codewrightlaw24.MacwilliamsDerived", spec := "macwilliamsDerived", unfollowed := true, recurses := true, apart := false }
def MacwilliamsDerivedSaid : Prop := macwilliamsDerivedRow.holds Try.pinned (OpenSpec.ofChange macwilliamsDerivedSpec)

/-- ITS FALSE NEIGHBOUR: 'it returns false'. Refute it at one input. -/
def macwilliamsDerivedWrong : ChangeSpec := { name := "macwilliamsDerived", fn := fun _ => fun
  | [d1, d2, d3, d4] => { results := [.lit (.bool false)], args := [d1, d2, d3, d4] }
  | _ => none }
def MacwilliamsDerivedWrongFalsely : Prop := macwilliamsDerivedRow.holds Try.pinned (OpenSpec.ofChange macwilliamsDerivedWrong)

/-- 'codewrightlaw24.MacwilliamsMoments': WHATEVER THE INPUT: true; the input reads as it did. -/
def macwilliamsMomentsSpec : ChangeSpec := { name := "macwilliamsMoments", fn := fun _ => fun
  | [d1, d2] => { results := [.lit (.bool true)], args := [d1, d2] }
  | _ => none }
def macwilliamsMomentsRow : OpenClaim := { program := "ytifkbghnmhineaa", sum := "8633583a8abff68442537bbdaf1a8e992c57e84bcee07df4908db8b10dba075c", func := "codewright/codewrightlaw24.MacwilliamsMoments", spec := "macwilliamsMoments", apart := false }
def MacwilliamsMomentsSaid : Prop := macwilliamsMomentsRow.holds Try.pinned (OpenSpec.ofChange macwilliamsMomentsSpec)

/-- ITS FALSE NEIGHBOUR: 'it returns false'. Refute it at one input. -/
def macwilliamsMomentsWrong : ChangeSpec := { name := "macwilliamsMoments", fn := fun _ => fun
  | [d1, d2] => { results := [.lit (.bool false)], args := [d1, d2] }
  | _ => none }
def MacwilliamsMomentsWrongFalsely : Prop := macwilliamsMomentsRow.holds Try.pinned (OpenSpec.ofChange macwilliamsMomentsWrong)

/-- 'codewrightlaw24.MacwilliamsStrengths': WHATEVER THE INPUT: true; the input reads as it did. -/
def macwilliamsStrengthsSpec : ChangeSpec := { name := "macwilliamsStrengths", fn := fun _ => fun
  | [d1, d2] => { results := [.lit (.bool true)], args := [d1, d2] }
  | _ => none }
def macwilliamsStrengthsRow : OpenClaim := { program := "ytifkbghnmhineaa", sum := "8633583a8abff68442537bbdaf1a8e992c57e84bcee07df4908db8b10dba075c", func := "codewright/codewrightlaw24.MacwilliamsStrengths", spec := "macwilliamsStrengths", apart := false }
def MacwilliamsStrengthsSaid : Prop := macwilliamsStrengthsRow.holds Try.pinned (OpenSpec.ofChange macwilliamsStrengthsSpec)

/-- ITS FALSE NEIGHBOUR: 'it returns false'. Refute it at one input. -/
def macwilliamsStrengthsWrong : ChangeSpec := { name := "macwilliamsStrengths", fn := fun _ => fun
  | [d1, d2] => { results := [.lit (.bool false)], args := [d1, d2] }
  | _ => none }
def MacwilliamsStrengthsWrongFalsely : Prop := macwilliamsStrengthsRow.holds Try.pinned (OpenSpec.ofChange macwilliamsStrengthsWrong)

/-- 'codewrightlaw24.MacwilliamsKrawtchouk': WHATEVER THE INPUT: true; the input reads as it did. -/
def macwilliamsKrawtchoukSpec : ChangeSpec := { name := "macwilliamsKrawtchouk", fn := fun _ => fun
  | [d1, d2, d3, d4] => { results := [.lit (.bool true)], args := [d1, d2, d3, d4] }
  | _ => none }
def macwilliamsKrawtchoukRow : OpenClaim := { program := "ytifkbghnmhineaa", sum := "8633583a8abff68442537bbdaf1a8e992c57e84bcee07df4908db8b10dba075c", func := "codewright/codewrightlaw24.MacwilliamsKrawtchouk", spec := "macwilliamsKrawtchouk", apart := false }
def MacwilliamsKrawtchoukSaid : Prop := macwilliamsKrawtchoukRow.holds Try.pinned (OpenSpec.ofChange macwilliamsKrawtchoukSpec)

/-- ITS FALSE NEIGHBOUR: 'it returns false'. Refute it at one input. -/
def macwilliamsKrawtchoukWrong : ChangeSpec := { name := "macwilliamsKrawtchouk", fn := fun _ => fun
  | [d1, d2, d3, d4] => { results := [.lit (.bool false)], args := [d1, d2, d3, d4] }
  | _ => none }
def MacwilliamsKrawtchoukWrongFalsely : Prop := macwilliamsKrawtchoukRow.holds Try.pinned (OpenSpec.ofChange macwilliamsKrawtchoukWrong)

/-- 'codewrightlaw24.MacwilliamsAssmus': WHATEVER THE INPUT: true; the input reads as it did. -/
def macwilliamsAssmusSpec : ChangeSpec := { name := "macwilliamsAssmus", fn := fun _ => fun
  | [d1, d2, d3] => { results := [.lit (.bool true)], args := [d1, d2, d3] }
  | _ => none }
def macwilliamsAssmusRow : OpenClaim := { program := "ytifkbghnmhineaa", sum := "8633583a8abff68442537bbdaf1a8e992c57e84bcee07df4908db8b10dba075c", func := "codewright/codewrightlaw24.MacwilliamsAssmus", spec := "macwilliamsAssmus", unfollowed := true, recurses := true, apart := false }
def MacwilliamsAssmusSaid : Prop := macwilliamsAssmusRow.holds Try.pinned (OpenSpec.ofChange macwilliamsAssmusSpec)

/-- ITS FALSE NEIGHBOUR: 'it returns false'. Refute it at one input. -/
def macwilliamsAssmusWrong : ChangeSpec := { name := "macwilliamsAssmus", fn := fun _ => fun
  | [d1, d2, d3] => { results := [.lit (.bool false)], args := [d1, d2, d3] }
  | _ => none }
def MacwilliamsAssmusWrongFalsely : Prop := macwilliamsAssmusRow.holds Try.pinned (OpenSpec.ofChange macwilliamsAssmusWrong)

/-- 'codewrightlaw24.MacwilliamsGenerating': WHATEVER THE INPUT: true; the input reads as it did. -/
def macwilliamsGeneratingSpec : ChangeSpec := { name := "macwilliamsGenerating", fn := fun _ => fun
  | [d1, d2, d3, d4] => { results := [.lit (.bool true)], args := [d1, d2, d3, d4] }
  | _ => none }
def macwilliamsGeneratingRow : OpenClaim := { program := "ytifkbghnmhineaa", sum := "8633583a8abff68442537bbdaf1a8e992c57e84bcee07df4908db8b10dba075c", func := "codewright/codewrightlaw24.MacwilliamsGenerating", spec := "macwilliamsGenerating", apart := false }
def MacwilliamsGeneratingSaid : Prop := macwilliamsGeneratingRow.holds Try.pinned (OpenSpec.ofChange macwilliamsGeneratingSpec)

/-- ITS FALSE NEIGHBOUR: 'it returns false'. Refute it at one input. -/
def macwilliamsGeneratingWrong : ChangeSpec := { name := "macwilliamsGenerating", fn := fun _ => fun
  | [d1, d2, d3, d4] => { results := [.lit (.bool false)], args := [d1, d2, d3, d4] }
  | _ => none }
def MacwilliamsGeneratingWrongFalsely : Prop := macwilliamsGeneratingRow.holds Try.pinned (OpenSpec.ofChange macwilliamsGeneratingWrong)

/-- 'codewrightlaw24.MacwilliamsOrthogonal': WHATEVER THE INPUT: true; the input reads as it did. -/
def macwilliamsOrthogonalSpec : ChangeSpec := { name := "macwilliamsOrthogonal", fn := fun _ => fun
  | [d1, d2, d3, d4] => { results := [.lit (.bool true)], args := [d1, d2, d3, d4] }
  | _ => none }
def macwilliamsOrthogonalRow : OpenClaim := { program := "ytifkbghnmhineaa", sum := "8633583a8abff68442537bbdaf1a8e992c57e84bcee07df4908db8b10dba075c", func := "codewright/codewrightlaw24.MacwilliamsOrthogonal", spec := "macwilliamsOrthogonal", apart := false }
def MacwilliamsOrthogonalSaid : Prop := macwilliamsOrthogonalRow.holds Try.pinned (OpenSpec.ofChange macwilliamsOrthogonalSpec)

/-- ITS FALSE NEIGHBOUR: 'it returns false'. Refute it at one input. -/
def macwilliamsOrthogonalWrong : ChangeSpec := { name := "macwilliamsOrthogonal", fn := fun _ => fun
  | [d1, d2, d3, d4] => { results := [.lit (.bool false)], args := [d1, d2, d3, d4] }
  | _ => none }
def MacwilliamsOrthogonalWrongFalsely : Prop := macwilliamsOrthogonalRow.holds Try.pinned (OpenSpec.ofChange macwilliamsOrthogonalWrong)

/-- 'codewrightlaw24.MacwilliamsReciprocal': WHATEVER THE INPUT: true; the input reads as it did. -/
def macwilliamsReciprocalSpec : ChangeSpec := { name := "macwilliamsReciprocal", fn := fun _ => fun
  | [d1, d2, d3, d4] => { results := [.lit (.bool true)], args := [d1, d2, d3, d4] }
  | _ => none }
def macwilliamsReciprocalRow : OpenClaim := { program := "ytifkbghnmhineaa", sum := "8633583a8abff68442537bbdaf1a8e992c57e84bcee07df4908db8b10dba075c", func := "codewright/codewrightlaw24.MacwilliamsReciprocal", spec := "macwilliamsReciprocal", apart := false }
def MacwilliamsReciprocalSaid : Prop := macwilliamsReciprocalRow.holds Try.pinned (OpenSpec.ofChange macwilliamsReciprocalSpec)

/-- ITS FALSE NEIGHBOUR: 'it returns false'. Refute it at one input. -/
def macwilliamsReciprocalWrong : ChangeSpec := { name := "macwilliamsReciprocal", fn := fun _ => fun
  | [d1, d2, d3, d4] => { results := [.lit (.bool false)], args := [d1, d2, d3, d4] }
  | _ => none }
def MacwilliamsReciprocalWrongFalsely : Prop := macwilliamsReciprocalRow.holds Try.pinned (OpenSpec.ofChange macwilliamsReciprocalWrong)

/-- 'codewrightlaw24.MacwilliamsRecurrence': WHATEVER THE INPUT: true; the input reads as it did. -/
def macwilliamsRecurrenceSpec : ChangeSpec := { name := "macwilliamsRecurrence", fn := fun _ => fun
  | [d1, d2, d3, d4] => { results := [.lit (.bool true)], args := [d1, d2, d3, d4] }
  | _ => none }
def macwilliamsRecurrenceRow : OpenClaim := { program := "ytifkbghnmhineaa", sum := "8633583a8abff68442537bbdaf1a8e992c57e84bcee07df4908db8b10dba075c", func := "codewright/codewrightlaw24.MacwilliamsRecurrence", spec := "macwilliamsRecurrence", apart := false }
def MacwilliamsRecurrenceSaid : Prop := macwilliamsRecurrenceRow.holds Try.pinned (OpenSpec.ofChange macwilliamsRecurrenceSpec)

/-- ITS FALSE NEIGHBOUR: 'it returns false'. Refute it at one input. -/
def macwilliamsRecurrenceWrong : ChangeSpec := { name := "macwilliamsRecurrence", fn := fun _ => fun
  | [d1, d2, d3, d4] => { results := [.lit (.bool false)], args := [d1, d2, d3, d4] }
  | _ => none }
def MacwilliamsRecurrenceWrongFalsely : Prop := macwilliamsRecurrenceRow.holds Try.pinned (OpenSpec.ofChange macwilliamsRecurrenceWrong)

/-- 'codewrightlaw24.MacwilliamsIdentity': WHATEVER THE INPUT: true; the input reads as it did. -/
def macwilliamsIdentitySpec : ChangeSpec := { name := "macwilliamsIdentity", fn := fun _ => fun
  | [d1, d2, d3] => { results := [.lit (.bool true)], args := [d1, d2, d3] }
  | _ => none }
def macwilliamsIdentityRow : OpenClaim := { program := "ytifkbghnmhineaa", sum := "8633583a8abff68442537bbdaf1a8e992c57e84bcee07df4908db8b10dba075c", func := "codewright/codewrightlaw24.MacwilliamsIdentity", spec := "macwilliamsIdentity", apart := false }
def MacwilliamsIdentitySaid : Prop := macwilliamsIdentityRow.holds Try.pinned (OpenSpec.ofChange macwilliamsIdentitySpec)

/-- ITS FALSE NEIGHBOUR: 'it returns false'. Refute it at one input. -/
def macwilliamsIdentityWrong : ChangeSpec := { name := "macwilliamsIdentity", fn := fun _ => fun
  | [d1, d2, d3] => { results := [.lit (.bool false)], args := [d1, d2, d3] }
  | _ => none }
def MacwilliamsIdentityWrongFalsely : Prop := macwilliamsIdentityRow.holds Try.pinned (OpenSpec.ofChange macwilliamsIdentityWrong)

/-- 'codewrightlaw24.MacwilliamsDelsarte': WHATEVER THE INPUT: true; the input reads as it did. -/
def macwilliamsDelsarteSpec : ChangeSpec := { name := "macwilliamsDelsarte", fn := fun _ => fun
  | [d1, d2, d3, d4] => { results := [.lit (.bool true)], args := [d1, d2, d3, d4] }
  | _ => none }
def macwilliamsDelsarteRow : OpenClaim := { program := "ytifkbghnmhineaa", sum := "8633583a8abff68442537bbdaf1a8e992c57e84bcee07df4908db8b10dba075c", func := "codewright/codewrightlaw24.MacwilliamsDelsarte", spec := "macwilliamsDelsarte", apart := false }
def MacwilliamsDelsarteSaid : Prop := macwilliamsDelsarteRow.holds Try.pinned (OpenSpec.ofChange macwilliamsDelsarteSpec)

/-- ITS FALSE NEIGHBOUR: 'it returns false'. Refute it at one input. -/
def macwilliamsDelsarteWrong : ChangeSpec := { name := "macwilliamsDelsarte", fn := fun _ => fun
  | [d1, d2, d3, d4] => { results := [.lit (.bool false)], args := [d1, d2, d3, d4] }
  | _ => none }
def MacwilliamsDelsarteWrongFalsely : Prop := macwilliamsDelsarteRow.holds Try.pinned (OpenSpec.ofChange macwilliamsDelsarteWrong)

/-- 'codewrightlaw24.MacwilliamsExternals': WHATEVER THE INPUT: true; the input reads as it did. -/
def macwilliamsExternalsSpec : ChangeSpec := { name := "macwilliamsExternals", fn := fun _ => fun
  | [d1, d2] => { results := [.lit (.bool true)], args := [d1, d2] }
  | _ => none }
def macwilliamsExternalsRow : OpenClaim := { program := "ytifkbghnmhineaa", sum := "8633583a8abff68442537bbdaf1a8e992c57e84bcee07df4908db8b10dba075c", func := "codewright/codewrightlaw24.MacwilliamsExternals", spec := "macwilliamsExternals", apart := false }
def MacwilliamsExternalsSaid : Prop := macwilliamsExternalsRow.holds Try.pinned (OpenSpec.ofChange macwilliamsExternalsSpec)

/-- ITS FALSE NEIGHBOUR: 'it returns false'. Refute it at one input. -/
def macwilliamsExternalsWrong : ChangeSpec := { name := "macwilliamsExternals", fn := fun _ => fun
  | [d1, d2] => { results := [.lit (.bool false)], args := [d1, d2] }
  | _ => none }
def MacwilliamsExternalsWrongFalsely : Prop := macwilliamsExternalsRow.holds Try.pinned (OpenSpec.ofChange macwilliamsExternalsWrong)

/-- 'codewrightlaw24.MacwilliamsTransforms': WHATEVER THE INPUT: true; the input reads as it did. -/
def macwilliamsTransformsSpec : ChangeSpec := { name := "macwilliamsTransforms", fn := fun _ => fun
  | [d1, d2] => { results := [.lit (.bool true)], args := [d1, d2] }
  | _ => none }
def macwilliamsTransformsRow : OpenClaim := { program := "ytifkbghnmhineaa", sum := "8633583a8abff68442537bbdaf1a8e992c57e84bcee07df4908db8b10dba075c", func := "codewright/codewrightlaw24.MacwilliamsTransforms", spec := "macwilliamsTransforms", apart := false }
def MacwilliamsTransformsSaid : Prop := macwilliamsTransformsRow.holds Try.pinned (OpenSpec.ofChange macwilliamsTransformsSpec)

/-- ITS FALSE NEIGHBOUR: 'it returns false'. Refute it at one input. -/
def macwilliamsTransformsWrong : ChangeSpec := { name := "macwilliamsTransforms", fn := fun _ => fun
  | [d1, d2] => { results := [.lit (.bool false)], args := [d1, d2] }
  | _ => none }
def MacwilliamsTransformsWrongFalsely : Prop := macwilliamsTransformsRow.holds Try.pinned (OpenSpec.ofChange macwilliamsTransformsWrong)

/-- 'codewrightlaw24.MacwilliamsInverts': WHATEVER THE INPUT: true; the input reads as it did. -/
def macwilliamsInvertsSpec : ChangeSpec := { name := "macwilliamsInverts", fn := fun _ => fun
  | [d1, d2] => { results := [.lit (.bool true)], args := [d1, d2] }
  | _ => none }
def macwilliamsInvertsRow : OpenClaim := { program := "ytifkbghnmhineaa", sum := "8633583a8abff68442537bbdaf1a8e992c57e84bcee07df4908db8b10dba075c", func := "codewright/codewrightlaw24.MacwilliamsInverts", spec := "macwilliamsInverts", apart := false }
def MacwilliamsInvertsSaid : Prop := macwilliamsInvertsRow.holds Try.pinned (OpenSpec.ofChange macwilliamsInvertsSpec)

/-- ITS FALSE NEIGHBOUR: 'it returns false'. Refute it at one input. -/
def macwilliamsInvertsWrong : ChangeSpec := { name := "macwilliamsInverts", fn := fun _ => fun
  | [d1, d2] => { results := [.lit (.bool false)], args := [d1, d2] }
  | _ => none }
def MacwilliamsInvertsWrongFalsely : Prop := macwilliamsInvertsRow.holds Try.pinned (OpenSpec.ofChange macwilliamsInvertsWrong)

/- THE SECOND FORM. 'bulk': how many values and letters a reading holds, each counted each time it is reached (what is shared counts as often as it is met; a slice's spare places count too). A statement '..UptoSaid' is the law's where the arguments, and the package variables that the reading takes, are together of bulk at most 1048576: NARROWER than '..Said'. Prove '..Said' where nothing that the law and all that it calls make is longer than what came in: it says more and counts as full. Else prove '..UptoSaid'. A law counts once. -/
mutual
def uptoBulk {H : Type} : DataW H → Nat
  | .lit (.string bytes) => bytes.length + 1
  | .lit _ => 1
  | .nil => 1
  | .ptr d => uptoBulk d + 1
  | .slice elems spare => uptoBulkAll elems + uptoBulkAll spare + 1
  | .agg parts => uptoBulkAll parts + 1
  | .iface _ d => uptoBulk d + 1
  | .map entries => uptoBulkEntries entries + 1
  | .held _ => 1
def uptoBulkAll {H : Type} : List (DataW H) → Nat
  | [] => 0
  | d :: r => uptoBulk d + uptoBulkAll r
def uptoBulkEntries {H : Type} : List (Lit × DataW H) → Nat
  | [] => 0
  | x :: r => uptoBulkEntry x + uptoBulkEntries r
def uptoBulkEntry {H : Type} : Lit × DataW H → Nat
  | (.string bytes, d) => bytes.length + uptoBulk d + 1
  | (_, d) => uptoBulk d + 1
 end
def uptoSmall : (H : Type) → List (DataW H) → Bool := fun _ ds => decide (uptoBulkAll ds ≤ 1048576)
def OpenSpec.upto (s : _root_.Go.ChangeSpec) : _root_.Go.OpenSpec := { _root_.Go.OpenSpec.ofChange s with cond := some uptoSmall }

/-- 'codewrightlaw24.MacwilliamsPless', WHERE WHAT IT READS IS OF BULK AT MOST 1048576: true; the input reads as it did. -/
def macwilliamsPlessUptoRow : OpenClaim := { program := "ytifkbghnmhineaa", sum := "8633583a8abff68442537bbdaf1a8e992c57e84bcee07df4908db8b10dba075c", func := "codewright/codewrightlaw24.MacwilliamsPless", spec := "macwilliamsPless", apart := false, narrowed := true }
def MacwilliamsPlessUptoSaid : Prop := macwilliamsPlessUptoRow.holds Try.pinned (OpenSpec.upto macwilliamsPlessSpec)

/-- 'codewrightlaw24.MacwilliamsDesigns', WHERE WHAT IT READS IS OF BULK AT MOST 1048576: true; the input reads as it did. -/
def macwilliamsDesignsUptoRow : OpenClaim := { program := "ytifkbghnmhineaa", sum := "8633583a8abff68442537bbdaf1a8e992c57e84bcee07df4908db8b10dba075c", func := "codewright/codewrightlaw24.MacwilliamsDesigns", spec := "macwilliamsDesigns", unfollowed := true, recurses := true, apart := false, narrowed := true }
def MacwilliamsDesignsUptoSaid : Prop := macwilliamsDesignsUptoRow.holds Try.pinned (OpenSpec.upto macwilliamsDesignsSpec)

/-- 'codewrightlaw24.MacwilliamsDerived', WHERE WHAT IT READS IS OF BULK AT MOST 1048576: true; the input reads as it did. -/
def macwilliamsDerivedUptoRow : OpenClaim := { program := "ytifkbghnmhineaa", sum := "8633583a8abff68442537bbdaf1a8e992c57e84bcee07df4908db8b10dba075c", func := "codewright/codewrightlaw24.MacwilliamsDerived", spec := "macwilliamsDerived", unfollowed := true, recurses := true, apart := false, narrowed := true }
def MacwilliamsDerivedUptoSaid : Prop := macwilliamsDerivedUptoRow.holds Try.pinned (OpenSpec.upto macwilliamsDerivedSpec)

/-- 'codewrightlaw24.MacwilliamsMoments', WHERE WHAT IT READS IS OF BULK AT MOST 1048576: true; the input reads as it did. -/
def macwilliamsMomentsUptoRow : OpenClaim := { program := "ytifkbghnmhineaa", sum := "8633583a8abff68442537bbdaf1a8e992c57e84bcee07df4908db8b10dba075c", func := "codewright/codewrightlaw24.MacwilliamsMoments", spec := "macwilliamsMoments", apart := false, narrowed := true }
def MacwilliamsMomentsUptoSaid : Prop := macwilliamsMomentsUptoRow.holds Try.pinned (OpenSpec.upto macwilliamsMomentsSpec)

/-- 'codewrightlaw24.MacwilliamsStrengths', WHERE WHAT IT READS IS OF BULK AT MOST 1048576: true; the input reads as it did. -/
def macwilliamsStrengthsUptoRow : OpenClaim := { program := "ytifkbghnmhineaa", sum := "8633583a8abff68442537bbdaf1a8e992c57e84bcee07df4908db8b10dba075c", func := "codewright/codewrightlaw24.MacwilliamsStrengths", spec := "macwilliamsStrengths", apart := false, narrowed := true }
def MacwilliamsStrengthsUptoSaid : Prop := macwilliamsStrengthsUptoRow.holds Try.pinned (OpenSpec.upto macwilliamsStrengthsSpec)

/-- 'codewrightlaw24.MacwilliamsKrawtchouk', WHERE WHAT IT READS IS OF BULK AT MOST 1048576: true; the input reads as it did. -/
def macwilliamsKrawtchoukUptoRow : OpenClaim := { program := "ytifkbghnmhineaa", sum := "8633583a8abff68442537bbdaf1a8e992c57e84bcee07df4908db8b10dba075c", func := "codewright/codewrightlaw24.MacwilliamsKrawtchouk", spec := "macwilliamsKrawtchouk", apart := false, narrowed := true }
def MacwilliamsKrawtchoukUptoSaid : Prop := macwilliamsKrawtchoukUptoRow.holds Try.pinned (OpenSpec.upto macwilliamsKrawtchoukSpec)

/-- 'codewrightlaw24.MacwilliamsAssmus', WHERE WHAT IT READS IS OF BULK AT MOST 1048576: true; the input reads as it did. -/
def macwilliamsAssmusUptoRow : OpenClaim := { program := "ytifkbghnmhineaa", sum := "8633583a8abff68442537bbdaf1a8e992c57e84bcee07df4908db8b10dba075c", func := "codewright/codewrightlaw24.MacwilliamsAssmus", spec := "macwilliamsAssmus", unfollowed := true, recurses := true, apart := false, narrowed := true }
def MacwilliamsAssmusUptoSaid : Prop := macwilliamsAssmusUptoRow.holds Try.pinned (OpenSpec.upto macwilliamsAssmusSpec)

/-- 'codewrightlaw24.MacwilliamsGenerating', WHERE WHAT IT READS IS OF BULK AT MOST 1048576: true; the input reads as it did. -/
def macwilliamsGeneratingUptoRow : OpenClaim := { program := "ytifkbghnmhineaa", sum := "8633583a8abff68442537bbdaf1a8e992c57e84bcee07df4908db8b10dba075c", func := "codewright/codewrightlaw24.MacwilliamsGenerating", spec := "macwilliamsGenerating", apart := false, narrowed := true }
def MacwilliamsGeneratingUptoSaid : Prop := macwilliamsGeneratingUptoRow.holds Try.pinned (OpenSpec.upto macwilliamsGeneratingSpec)

/-- 'codewrightlaw24.MacwilliamsOrthogonal', WHERE WHAT IT READS IS OF BULK AT MOST 1048576: true; the input reads as it did. -/
def macwilliamsOrthogonalUptoRow : OpenClaim := { program := "ytifkbghnmhineaa", sum := "8633583a8abff68442537bbdaf1a8e992c57e84bcee07df4908db8b10dba075c", func := "codewright/codewrightlaw24.MacwilliamsOrthogonal", spec := "macwilliamsOrthogonal", apart := false, narrowed := true }
def MacwilliamsOrthogonalUptoSaid : Prop := macwilliamsOrthogonalUptoRow.holds Try.pinned (OpenSpec.upto macwilliamsOrthogonalSpec)

/-- 'codewrightlaw24.MacwilliamsReciprocal', WHERE WHAT IT READS IS OF BULK AT MOST 1048576: true; the input reads as it did. -/
def macwilliamsReciprocalUptoRow : OpenClaim := { program := "ytifkbghnmhineaa", sum := "8633583a8abff68442537bbdaf1a8e992c57e84bcee07df4908db8b10dba075c", func := "codewright/codewrightlaw24.MacwilliamsReciprocal", spec := "macwilliamsReciprocal", apart := false, narrowed := true }
def MacwilliamsReciprocalUptoSaid : Prop := macwilliamsReciprocalUptoRow.holds Try.pinned (OpenSpec.upto macwilliamsReciprocalSpec)

/-- 'codewrightlaw24.MacwilliamsRecurrence', WHERE WHAT IT READS IS OF BULK AT MOST 1048576: true; the input reads as it did. -/
def macwilliamsRecurrenceUptoRow : OpenClaim := { program := "ytifkbghnmhineaa", sum := "8633583a8abff68442537bbdaf1a8e992c57e84bcee07df4908db8b10dba075c", func := "codewright/codewrightlaw24.MacwilliamsRecurrence", spec := "macwilliamsRecurrence", apart := false, narrowed := true }
def MacwilliamsRecurrenceUptoSaid : Prop := macwilliamsRecurrenceUptoRow.holds Try.pinned (OpenSpec.upto macwilliamsRecurrenceSpec)

/-- 'codewrightlaw24.MacwilliamsIdentity', WHERE WHAT IT READS IS OF BULK AT MOST 1048576: true; the input reads as it did. -/
def macwilliamsIdentityUptoRow : OpenClaim := { program := "ytifkbghnmhineaa", sum := "8633583a8abff68442537bbdaf1a8e992c57e84bcee07df4908db8b10dba075c", func := "codewright/codewrightlaw24.MacwilliamsIdentity", spec := "macwilliamsIdentity", apart := false, narrowed := true }
def MacwilliamsIdentityUptoSaid : Prop := macwilliamsIdentityUptoRow.holds Try.pinned (OpenSpec.upto macwilliamsIdentitySpec)

/-- 'codewrightlaw24.MacwilliamsDelsarte', WHERE WHAT IT READS IS OF BULK AT MOST 1048576: true; the input reads as it did. -/
def macwilliamsDelsarteUptoRow : OpenClaim := { program := "ytifkbghnmhineaa", sum := "8633583a8abff68442537bbdaf1a8e992c57e84bcee07df4908db8b10dba075c", func := "codewright/codewrightlaw24.MacwilliamsDelsarte", spec := "macwilliamsDelsarte", apart := false, narrowed := true }
def MacwilliamsDelsarteUptoSaid : Prop := macwilliamsDelsarteUptoRow.holds Try.pinned (OpenSpec.upto macwilliamsDelsarteSpec)

/-- 'codewrightlaw24.MacwilliamsExternals', WHERE WHAT IT READS IS OF BULK AT MOST 1048576: true; the input reads as it did. -/
def macwilliamsExternalsUptoRow : OpenClaim := { program := "ytifkbghnmhineaa", sum := "8633583a8abff68442537bbdaf1a8e992c57e84bcee07df4908db8b10dba075c", func := "codewright/codewrightlaw24.MacwilliamsExternals", spec := "macwilliamsExternals", apart := false, narrowed := true }
def MacwilliamsExternalsUptoSaid : Prop := macwilliamsExternalsUptoRow.holds Try.pinned (OpenSpec.upto macwilliamsExternalsSpec)

/-- 'codewrightlaw24.MacwilliamsTransforms', WHERE WHAT IT READS IS OF BULK AT MOST 1048576: true; the input reads as it did. -/
def macwilliamsTransformsUptoRow : OpenClaim := { program := "ytifkbghnmhineaa", sum := "8633583a8abff68442537bbdaf1a8e992c57e84bcee07df4908db8b10dba075c", func := "codewright/codewrightlaw24.MacwilliamsTransforms", spec := "macwilliamsTransforms", apart := false, narrowed := true }
def MacwilliamsTransformsUptoSaid : Prop := macwilliamsTransformsUptoRow.holds Try.pinned (OpenSpec.upto macwilliamsTransformsSpec)

/-- 'codewrightlaw24.MacwilliamsInverts', WHERE WHAT IT READS IS OF BULK AT MOST 1048576: true; the input reads as it did. -/
def macwilliamsInvertsUptoRow : OpenClaim := { program := "ytifkbghnmhineaa", sum := "8633583a8abff68442537bbdaf1a8e992c57e84bcee07df4908db8b10dba075c", func := "codewright/codewrightlaw24.MacwilliamsInverts", spec := "macwilliamsInverts", apart := false, narrowed := true }
def MacwilliamsInvertsUptoSaid : Prop := macwilliamsInvertsUptoRow.holds Try.pinned (OpenSpec.upto macwilliamsInvertsSpec)

end Rows
end Go.Proofs.Ytifkbghnmhineaa
