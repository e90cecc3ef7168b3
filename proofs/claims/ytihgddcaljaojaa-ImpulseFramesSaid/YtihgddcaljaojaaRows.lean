/-
  No cell of these rows narrows 'for every input' (looked for: loops, veiled, ifaces, maps, wideKeys, modest, calm, conditions, laid).
  DERIVED. THE GIVEN ROWS OF THIS SEAT. 5 by the template 'for every input the law returns true; each argument reads behind the call as it read before'; 0 by the template 'total and deterministic' (their statements: YtihgddcaljaojaaTotals.lean).
  GIVEN WITH THE SEED: the statements are not yours to turn. If you find one false, say at which input.
  Laid BY PROGRAM, IN A SANDBOX (cutbox-rows.mjs): the forced cells as the released guide's own fill.sh prints them over the translation f41666d1f62b9051… (all of the seat's roots in one cut). By AI agents, Wed Nov 11 2026. No macro, syntax, notation, axiom, sorry.
-/
import Derived.Test.YtihgddcaljaojaaChecked
import GoSem.Claim
import GoSem.ClaimJoined
import GoSem.ClaimMapViews
import Derived.JoinedTies
import Derived.KernelRfl
namespace Go.Proofs.Ytihgddcaljaojaa
/- THE CELL 'sum', in the pinned program and in every row, IS THE sha256 OF THE DUMP (.gsa) THAT YtihgddcaljaojaaProg.lean LOADS. Nothing in Lean hashes anything: it is a label: what it is worth is what the hold of that sum in a sandbox is worth. -/
noncomputable def Try.pinned : Pinned := { name := "ytihgddcaljaojaa", sum := "f41666d1f62b9051d82392a32269191e134f5910852704b7cb77701c840d7c00", checked := Try.checked }
namespace Rows
def none {H : Type} : Left H := { results := [], args := [] }

/-- 'billiardlaw16.ImpulseMatchesReference': WHATEVER THE INPUT: true; the input reads as it did. -/
def impulseMatchesReferenceSpec : ChangeSpec := { name := "impulseMatchesReference", fn := fun _ => fun
  | [d1, d2, d3, d4, d5] => { results := [.lit (.bool true)], args := [d1, d2, d3, d4, d5] }
  | _ => none }
def impulseMatchesReferenceRow : OpenClaim := { program := "ytihgddcaljaojaa", sum := "f41666d1f62b9051d82392a32269191e134f5910852704b7cb77701c840d7c00", func := "billiard/billiardlaw16.ImpulseMatchesReference", spec := "impulseMatchesReference", inPlace := ["math/bits.Add64"], unfollowed := true, recurses := true, named := ["math/bits.divideError", "math/bits.overflowError"], apart := false }
def ImpulseMatchesReferenceSaid : Prop := impulseMatchesReferenceRow.holds Try.pinned (OpenSpec.ofChange impulseMatchesReferenceSpec)

/-- ITS FALSE NEIGHBOUR: 'it returns false'. Refute it at one input. -/
def impulseMatchesReferenceWrong : ChangeSpec := { name := "impulseMatchesReference", fn := fun _ => fun
  | [d1, d2, d3, d4, d5] => { results := [.lit (.bool false)], args := [d1, d2, d3, d4, d5] }
  | _ => none }
def ImpulseMatchesReferenceWrongFalsely : Prop := impulseMatchesReferenceRow.holds Try.pinned (OpenSpec.ofChange impulseMatchesReferenceWrong)

/-- 'billiardlaw16.ImpulseSeparates': WHATEVER THE INPUT: true; the input reads as it did. -/
def impulseSeparatesSpec : ChangeSpec := { name := "impulseSeparates", fn := fun _ => fun
  | [d1, d2, d3] => { results := [.lit (.bool true)], args := [d1, d2, d3] }
  | _ => none }
def impulseSeparatesRow : OpenClaim := { program := "ytihgddcaljaojaa", sum := "f41666d1f62b9051d82392a32269191e134f5910852704b7cb77701c840d7c00", func := "billiard/billiardlaw16.ImpulseSeparates", spec := "impulseSeparates", inPlace := ["math/bits.Add64"], unfollowed := true, recurses := true, named := ["math/bits.divideError", "math/bits.overflowError"], apart := false }
def ImpulseSeparatesSaid : Prop := impulseSeparatesRow.holds Try.pinned (OpenSpec.ofChange impulseSeparatesSpec)

/-- ITS FALSE NEIGHBOUR: 'it returns false'. Refute it at one input. -/
def impulseSeparatesWrong : ChangeSpec := { name := "impulseSeparates", fn := fun _ => fun
  | [d1, d2, d3] => { results := [.lit (.bool false)], args := [d1, d2, d3] }
  | _ => none }
def ImpulseSeparatesWrongFalsely : Prop := impulseSeparatesRow.holds Try.pinned (OpenSpec.ofChange impulseSeparatesWrong)

/-- 'billiardlaw16.ImpulseScales': WHATEVER THE INPUT: true; the input reads as it did. -/
def impulseScalesSpec : ChangeSpec := { name := "impulseScales", fn := fun _ => fun
  | [d1, d2, d3, d4] => { results := [.lit (.bool true)], args := [d1, d2, d3, d4] }
  | _ => none }
def impulseScalesRow : OpenClaim := { program := "ytihgddcaljaojaa", sum := "f41666d1f62b9051d82392a32269191e134f5910852704b7cb77701c840d7c00", func := "billiard/billiardlaw16.ImpulseScales", spec := "impulseScales", inPlace := ["math/bits.Add64"], unfollowed := true, recurses := true, named := ["math/bits.divideError", "math/bits.overflowError"], apart := false }
def ImpulseScalesSaid : Prop := impulseScalesRow.holds Try.pinned (OpenSpec.ofChange impulseScalesSpec)

/-- ITS FALSE NEIGHBOUR: 'it returns false'. Refute it at one input. -/
def impulseScalesWrong : ChangeSpec := { name := "impulseScales", fn := fun _ => fun
  | [d1, d2, d3, d4] => { results := [.lit (.bool false)], args := [d1, d2, d3, d4] }
  | _ => none }
def ImpulseScalesWrongFalsely : Prop := impulseScalesRow.holds Try.pinned (OpenSpec.ofChange impulseScalesWrong)

/-- 'billiardlaw16.ImpulseFrames': WHATEVER THE INPUT: true; the input reads as it did. -/
def impulseFramesSpec : ChangeSpec := { name := "impulseFrames", fn := fun _ => fun
  | [d1, d2, d3, d4] => { results := [.lit (.bool true)], args := [d1, d2, d3, d4] }
  | _ => none }
def impulseFramesRow : OpenClaim := { program := "ytihgddcaljaojaa", sum := "f41666d1f62b9051d82392a32269191e134f5910852704b7cb77701c840d7c00", func := "billiard/billiardlaw16.ImpulseFrames", spec := "impulseFrames", inPlace := ["math/bits.Add64"], unfollowed := true, recurses := true, named := ["math/bits.divideError", "math/bits.overflowError"], apart := false }
def ImpulseFramesSaid : Prop := impulseFramesRow.holds Try.pinned (OpenSpec.ofChange impulseFramesSpec)

/-- ITS FALSE NEIGHBOUR: 'it returns false'. Refute it at one input. -/
def impulseFramesWrong : ChangeSpec := { name := "impulseFrames", fn := fun _ => fun
  | [d1, d2, d3, d4] => { results := [.lit (.bool false)], args := [d1, d2, d3, d4] }
  | _ => none }
def ImpulseFramesWrongFalsely : Prop := impulseFramesRow.holds Try.pinned (OpenSpec.ofChange impulseFramesWrong)

/-- 'billiardlaw16.ImpulseBounces': WHATEVER THE INPUT: true; the input reads as it did. -/
def impulseBouncesSpec : ChangeSpec := { name := "impulseBounces", fn := fun _ => fun
  | [d1, d2, d3, d4] => { results := [.lit (.bool true)], args := [d1, d2, d3, d4] }
  | _ => none }
def impulseBouncesRow : OpenClaim := { program := "ytihgddcaljaojaa", sum := "f41666d1f62b9051d82392a32269191e134f5910852704b7cb77701c840d7c00", func := "billiard/billiardlaw16.ImpulseBounces", spec := "impulseBounces", inPlace := ["math/bits.Add64"], unfollowed := true, recurses := true, named := ["math/bits.divideError", "math/bits.overflowError"], apart := false }
def ImpulseBouncesSaid : Prop := impulseBouncesRow.holds Try.pinned (OpenSpec.ofChange impulseBouncesSpec)

/-- ITS FALSE NEIGHBOUR: 'it returns false'. Refute it at one input. -/
def impulseBouncesWrong : ChangeSpec := { name := "impulseBounces", fn := fun _ => fun
  | [d1, d2, d3, d4] => { results := [.lit (.bool false)], args := [d1, d2, d3, d4] }
  | _ => none }
def ImpulseBouncesWrongFalsely : Prop := impulseBouncesRow.holds Try.pinned (OpenSpec.ofChange impulseBouncesWrong)

/- THE SECOND FORM. 'bulk': how many values and letters a reading holds, each counted each time it is reached (what is shared counts as often as it is met; a slice's spare places count too). A statement '..UptoSaid' is the law's where the arguments, and the package variables that the reading takes, are together of bulk at most 1048576: NARROWER than '..Said'. Prove '..Said' where nothing that the law and all that it calls make is longer than what came in: it says more and counts as full. Else prove '..UptoSaid'. A law counts once. -/
mutual
def uptoBulk {H : Type} : DataW H → Nat
  | .lit (.string bytes) => bytes.length + 1
  | .lit _ => 1
  | .nil => 1
  | .ptr d => uptoBulk d + 1
  | .slice elems spare => uptoBulkAll elems + uptoBulkAll spare + 1
  | .agg parts => uptoBulkAll parts + 1
  | .iface _ d => uptoBulk d + 1
  | .map entries => uptoBulkEntries entries + 1
  | .held _ => 1
def uptoBulkAll {H : Type} : List (DataW H) → Nat
  | [] => 0
  | d :: r => uptoBulk d + uptoBulkAll r
def uptoBulkEntries {H : Type} : List (Lit × DataW H) → Nat
  | [] => 0
  | x :: r => uptoBulkEntry x + uptoBulkEntries r
def uptoBulkEntry {H : Type} : Lit × DataW H → Nat
  | (.string bytes, d) => bytes.length + uptoBulk d + 1
  | (_, d) => uptoBulk d + 1
 end
def uptoSmall : (H : Type) → List (DataW H) → Bool := fun _ ds => decide (uptoBulkAll ds ≤ 1048576)
def OpenSpec.upto (s : _root_.Go.ChangeSpec) : _root_.Go.OpenSpec := { _root_.Go.OpenSpec.ofChange s with cond := some uptoSmall }

/-- 'billiardlaw16.ImpulseMatchesReference', WHERE WHAT IT READS IS OF BULK AT MOST 1048576: true; the input reads as it did. -/
def impulseMatchesReferenceUptoRow : OpenClaim := { program := "ytihgddcaljaojaa", sum := "f41666d1f62b9051d82392a32269191e134f5910852704b7cb77701c840d7c00", func := "billiard/billiardlaw16.ImpulseMatchesReference", spec := "impulseMatchesReference", inPlace := ["math/bits.Add64"], unfollowed := true, recurses := true, named := ["math/bits.divideError", "math/bits.overflowError"], apart := false, narrowed := true }
def ImpulseMatchesReferenceUptoSaid : Prop := impulseMatchesReferenceUptoRow.holds Try.pinned (OpenSpec.upto impulseMatchesReferenceSpec)

/-- 'billiardlaw16.ImpulseSeparates', WHERE WHAT IT READS IS OF BULK AT MOST 1048576: true; the input reads as it did. -/
def impulseSeparatesUptoRow : OpenClaim := { program := "ytihgddcaljaojaa", sum := "f41666d1f62b9051d82392a32269191e134f5910852704b7cb77701c840d7c00", func := "billiard/billiardlaw16.ImpulseSeparates", spec := "impulseSeparates", inPlace := ["math/bits.Add64"], unfollowed := true, recurses := true, named := ["math/bits.divideError", "math/bits.overflowError"], apart := false, narrowed := true }
def ImpulseSeparatesUptoSaid : Prop := impulseSeparatesUptoRow.holds Try.pinned (OpenSpec.upto impulseSeparatesSpec)

/-- 'billiardlaw16.ImpulseScales', WHERE WHAT IT READS IS OF BULK AT MOST 1048576: true; the input reads as it did. -/
def impulseScalesUptoRow : OpenClaim := { program := "ytihgddcaljaojaa", sum := "f41666d1f62b9051d82392a32269191e134f5910852704b7cb77701c840d7c00", func := "billiard/billiardlaw16.ImpulseScales", spec := "impulseScales", inPlace := ["math/bits.Add64"], unfollowed := true, recurses := true, named := ["math/bits.divideError", "math/bits.overflowError"], apart := false, narrowed := true }
def ImpulseScalesUptoSaid : Prop := impulseScalesUptoRow.holds Try.pinned (OpenSpec.upto impulseScalesSpec)

/-- 'billiardlaw16.ImpulseFrames', WHERE WHAT IT READS IS OF BULK AT MOST 1048576: true; the input reads as it did. -/
def impulseFramesUptoRow : OpenClaim := { program := "ytihgddcaljaojaa", sum := "f41666d1f62b9051d82392a32269191e134f5910852704b7cb77701c840d7c00", func := "billiard/billiardlaw16.ImpulseFrames", spec := "impulseFrames", inPlace := ["math/bits.Add64"], unfollowed := true, recurses := true, named := ["math/bits.divideError", "math/bits.overflowError"], apart := false, narrowed := true }
def ImpulseFramesUptoSaid : Prop := impulseFramesUptoRow.holds Try.pinned (OpenSpec.upto impulseFramesSpec)

/-- 'billiardlaw16.ImpulseBounces', WHERE WHAT IT READS IS OF BULK AT MOST 1048576: true; the input reads as it did. -/
def impulseBouncesUptoRow : OpenClaim := { program := "ytihgddcaljaojaa", sum := "f41666d1f62b9051d82392a32269191e134f5910852704b7cb77701c840d7c00", func := "billiard/billiardlaw16.ImpulseBounces", spec := "impulseBounces", inPlace := ["math/bits.Add64"], unfollowed := true, recurses := true, named := ["math/bits.divideError", "math/bits.overflowError"], apart := false, narrowed := true }
def ImpulseBouncesUptoSaid : Prop := impulseBouncesUptoRow.holds Try.pinned (OpenSpec.upto impulseBouncesSpec)

end Rows
end Go.Proofs.Ytihgddcaljaojaa
