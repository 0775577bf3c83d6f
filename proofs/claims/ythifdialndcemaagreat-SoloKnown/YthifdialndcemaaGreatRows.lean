/-
  No cell of these rows narrows 'for every input' (looked for: loops, veiled, ifaces, maps, wideKeys, modest, calm, conditions, laid).
  DERIVED. THE GIVEN ROWS OF THIS SEAT. 10 by the template 'for every input the law returns true; each argument reads behind the call as it read before'; 0 by the template 'total and deterministic' (their statements: YthifdialndcemaaGreatTotals.lean).
  GIVEN WITH THE SEED: the statements are not yours to turn. If you find one false, say at which input.
  Laid BY PROGRAM, IN A SANDBOX (cutbox-rows.mjs): the forced cells as the released guide's own fill.sh prints them over the translation 84aa7b3972d3fc2d… (all of the seat's roots in one cut). By AI agents, Wed Nov 11 2026. No macro, syntax, notation, axiom, sorry.
-/
import Derived.Test.YthifdialndcemaaGreatChecked
import GoSem.Claim
import GoSem.ClaimJoined
import GoSem.ClaimMapViews
import Derived.JoinedTies
import Derived.KernelRfl
namespace Go.Proofs.YthifdialndcemaaGreat
/- THE CELL 'sum', in the pinned program and in every row, IS THE sha256 OF THE DUMP (.gsa) THAT YthifdialndcemaaGreatProg.lean LOADS. Nothing in Lean hashes anything: it is a label: what it is worth is what the hold of that sum in a sandbox is worth. -/
noncomputable def Tryz.pinned : Pinned := { name := "ythifdialndcemaagreat", sum := "84aa7b3972d3fc2d6b67e2eaa6cd7bbc9c366f437de868ffef69f30795e563bd", checked := Tryz.checked }
namespace Rows
def none {H : Type} : Left H := { results := [], args := [] }

/-- 'hourglasslaw16.PartHolds': WHATEVER THE INPUT: true; the input reads as it did. -/
def partHoldsSpec : ChangeSpec := { name := "partHolds", fn := fun _ => fun
  | [d1, d2, d3, d4] => { results := [.lit (.bool true)], args := [d1, d2, d3, d4] }
  | _ => none }
def partHoldsRow : OpenClaim := { program := "ythifdialndcemaagreat", sum := "84aa7b3972d3fc2d6b67e2eaa6cd7bbc9c366f437de868ffef69f30795e563bd", func := "hourglass/hourglasslaw16.PartHolds", spec := "partHolds", inPlace := ["internal/bytealg.IndexByteString", "internal/bytealg.Compare", "slices.overlaps[hourglass/chain.Version]"], unfollowed := true, recurses := true, plainKeys := false, apart := false }
def PartHoldsSaid : Prop := partHoldsRow.holds Tryz.pinned (OpenSpec.ofChange partHoldsSpec)

/-- ITS FALSE NEIGHBOUR: 'it returns false'. Refute it at one input. -/
def partHoldsWrong : ChangeSpec := { name := "partHolds", fn := fun _ => fun
  | [d1, d2, d3, d4] => { results := [.lit (.bool false)], args := [d1, d2, d3, d4] }
  | _ => none }
def PartHoldsWrongFalsely : Prop := partHoldsRow.holds Tryz.pinned (OpenSpec.ofChange partHoldsWrong)

/-- 'hourglasslaw16.PartStill': WHATEVER THE INPUT: true; the input reads as it did. -/
def partStillSpec : ChangeSpec := { name := "partStill", fn := fun _ => fun
  | [d1, d2, d3, d4] => { results := [.lit (.bool true)], args := [d1, d2, d3, d4] }
  | _ => none }
def partStillRow : OpenClaim := { program := "ythifdialndcemaagreat", sum := "84aa7b3972d3fc2d6b67e2eaa6cd7bbc9c366f437de868ffef69f30795e563bd", func := "hourglass/hourglasslaw16.PartStill", spec := "partStill", inPlace := ["internal/bytealg.IndexByteString", "internal/bytealg.Compare", "slices.overlaps[hourglass/chain.Version]"], unfollowed := true, recurses := true, plainKeys := false, apart := false }
def PartStillSaid : Prop := partStillRow.holds Tryz.pinned (OpenSpec.ofChange partStillSpec)

/-- ITS FALSE NEIGHBOUR: 'it returns false'. Refute it at one input. -/
def partStillWrong : ChangeSpec := { name := "partStill", fn := fun _ => fun
  | [d1, d2, d3, d4] => { results := [.lit (.bool false)], args := [d1, d2, d3, d4] }
  | _ => none }
def PartStillWrongFalsely : Prop := partStillRow.holds Tryz.pinned (OpenSpec.ofChange partStillWrong)

/-- 'hourglasslaw16.PartOver': WHATEVER THE INPUT: true; the input reads as it did. -/
def partOverSpec : ChangeSpec := { name := "partOver", fn := fun _ => fun
  | [d1, d2] => { results := [.lit (.bool true)], args := [d1, d2] }
  | _ => none }
def partOverRow : OpenClaim := { program := "ythifdialndcemaagreat", sum := "84aa7b3972d3fc2d6b67e2eaa6cd7bbc9c366f437de868ffef69f30795e563bd", func := "hourglass/hourglasslaw16.PartOver", spec := "partOver", inPlace := ["internal/bytealg.IndexByteString", "internal/bytealg.Compare", "slices.overlaps[hourglass/chain.Version]"], unfollowed := true, recurses := true, plainKeys := false, apart := false }
def PartOverSaid : Prop := partOverRow.holds Tryz.pinned (OpenSpec.ofChange partOverSpec)

/-- ITS FALSE NEIGHBOUR: 'it returns false'. Refute it at one input. -/
def partOverWrong : ChangeSpec := { name := "partOver", fn := fun _ => fun
  | [d1, d2] => { results := [.lit (.bool false)], args := [d1, d2] }
  | _ => none }
def PartOverWrongFalsely : Prop := partOverRow.holds Tryz.pinned (OpenSpec.ofChange partOverWrong)

/-- 'hourglasslaw25.FrontKnown': WHATEVER THE INPUT: true; the input reads as it did. -/
def frontKnownSpec : ChangeSpec := { name := "frontKnown", fn := fun _ => fun
  | [] => { results := [.lit (.bool true)], args := [] }
  | _ => none }
def frontKnownRow : OpenClaim := { program := "ythifdialndcemaagreat", sum := "84aa7b3972d3fc2d6b67e2eaa6cd7bbc9c366f437de868ffef69f30795e563bd", func := "hourglass/hourglasslaw25.FrontKnown", spec := "frontKnown", inPlace := ["internal/bytealg.IndexByteString", "internal/bytealg.Compare"], unfollowed := true, recurses := true, plainKeys := false, apart := false }
def FrontKnownSaid : Prop := frontKnownRow.holds Tryz.pinned (OpenSpec.ofChange frontKnownSpec)

/-- ITS FALSE NEIGHBOUR: 'it returns false'. Refute it at one input. -/
def frontKnownWrong : ChangeSpec := { name := "frontKnown", fn := fun _ => fun
  | [] => { results := [.lit (.bool false)], args := [] }
  | _ => none }
def FrontKnownWrongFalsely : Prop := frontKnownRow.holds Tryz.pinned (OpenSpec.ofChange frontKnownWrong)

/-- 'hourglasslaw25.FrontPlays': WHATEVER THE INPUT: true; the input reads as it did. -/
def frontPlaysSpec : ChangeSpec := { name := "frontPlays", fn := fun _ => fun
  | [d1, d2] => { results := [.lit (.bool true)], args := [d1, d2] }
  | _ => none }
def frontPlaysRow : OpenClaim := { program := "ythifdialndcemaagreat", sum := "84aa7b3972d3fc2d6b67e2eaa6cd7bbc9c366f437de868ffef69f30795e563bd", func := "hourglass/hourglasslaw25.FrontPlays", spec := "frontPlays", inPlace := ["internal/bytealg.IndexByteString", "internal/bytealg.Compare"], unfollowed := true, recurses := true, plainKeys := false, apart := false }
def FrontPlaysSaid : Prop := frontPlaysRow.holds Tryz.pinned (OpenSpec.ofChange frontPlaysSpec)

/-- ITS FALSE NEIGHBOUR: 'it returns false'. Refute it at one input. -/
def frontPlaysWrong : ChangeSpec := { name := "frontPlays", fn := fun _ => fun
  | [d1, d2] => { results := [.lit (.bool false)], args := [d1, d2] }
  | _ => none }
def FrontPlaysWrongFalsely : Prop := frontPlaysRow.holds Tryz.pinned (OpenSpec.ofChange frontPlaysWrong)

/-- 'hourglasslaw23.SoloFirst': WHATEVER THE INPUT: true; the input reads as it did. -/
def soloFirstSpec : ChangeSpec := { name := "soloFirst", fn := fun _ => fun
  | [d1, d2, d3] => { results := [.lit (.bool true)], args := [d1, d2, d3] }
  | _ => none }
def soloFirstRow : OpenClaim := { program := "ythifdialndcemaagreat", sum := "84aa7b3972d3fc2d6b67e2eaa6cd7bbc9c366f437de868ffef69f30795e563bd", func := "hourglass/hourglasslaw23.SoloFirst", spec := "soloFirst", inPlace := ["internal/bytealg.IndexByteString", "internal/bytealg.Compare", "slices.overlaps[hourglass/chain.Version]"], unfollowed := true, recurses := true, plainKeys := false, apart := false }
def SoloFirstSaid : Prop := soloFirstRow.holds Tryz.pinned (OpenSpec.ofChange soloFirstSpec)

/-- ITS FALSE NEIGHBOUR: 'it returns false'. Refute it at one input. -/
def soloFirstWrong : ChangeSpec := { name := "soloFirst", fn := fun _ => fun
  | [d1, d2, d3] => { results := [.lit (.bool false)], args := [d1, d2, d3] }
  | _ => none }
def SoloFirstWrongFalsely : Prop := soloFirstRow.holds Tryz.pinned (OpenSpec.ofChange soloFirstWrong)

/-- 'hourglasslaw23.SoloKnown': WHATEVER THE INPUT: true; the input reads as it did. -/
def soloKnownSpec : ChangeSpec := { name := "soloKnown", fn := fun _ => fun
  | [] => { results := [.lit (.bool true)], args := [] }
  | _ => none }
def soloKnownRow : OpenClaim := { program := "ythifdialndcemaagreat", sum := "84aa7b3972d3fc2d6b67e2eaa6cd7bbc9c366f437de868ffef69f30795e563bd", func := "hourglass/hourglasslaw23.SoloKnown", spec := "soloKnown", inPlace := ["internal/bytealg.IndexByteString", "internal/bytealg.Compare", "slices.overlaps[hourglass/chain.Version]"], unfollowed := true, recurses := true, plainKeys := false, apart := false }
def SoloKnownSaid : Prop := soloKnownRow.holds Tryz.pinned (OpenSpec.ofChange soloKnownSpec)

/-- ITS FALSE NEIGHBOUR: 'it returns false'. Refute it at one input. -/
def soloKnownWrong : ChangeSpec := { name := "soloKnown", fn := fun _ => fun
  | [] => { results := [.lit (.bool false)], args := [] }
  | _ => none }
def SoloKnownWrongFalsely : Prop := soloKnownRow.holds Tryz.pinned (OpenSpec.ofChange soloKnownWrong)

/-- 'hourglasslaw23.SoloStill': WHATEVER THE INPUT: true; the input reads as it did. -/
def soloStillSpec : ChangeSpec := { name := "soloStill", fn := fun _ => fun
  | [d1, d2, d3] => { results := [.lit (.bool true)], args := [d1, d2, d3] }
  | _ => none }
def soloStillRow : OpenClaim := { program := "ythifdialndcemaagreat", sum := "84aa7b3972d3fc2d6b67e2eaa6cd7bbc9c366f437de868ffef69f30795e563bd", func := "hourglass/hourglasslaw23.SoloStill", spec := "soloStill", inPlace := ["internal/bytealg.IndexByteString", "internal/bytealg.Compare", "slices.overlaps[hourglass/chain.Version]"], unfollowed := true, recurses := true, plainKeys := false, apart := false }
def SoloStillSaid : Prop := soloStillRow.holds Tryz.pinned (OpenSpec.ofChange soloStillSpec)

/-- ITS FALSE NEIGHBOUR: 'it returns false'. Refute it at one input. -/
def soloStillWrong : ChangeSpec := { name := "soloStill", fn := fun _ => fun
  | [d1, d2, d3] => { results := [.lit (.bool false)], args := [d1, d2, d3] }
  | _ => none }
def SoloStillWrongFalsely : Prop := soloStillRow.holds Tryz.pinned (OpenSpec.ofChange soloStillWrong)

/-- 'hourglasslaw16.PartKnown': WHATEVER THE INPUT: true; the input reads as it did. -/
def partKnownSpec : ChangeSpec := { name := "partKnown", fn := fun _ => fun
  | [] => { results := [.lit (.bool true)], args := [] }
  | _ => none }
def partKnownRow : OpenClaim := { program := "ythifdialndcemaagreat", sum := "84aa7b3972d3fc2d6b67e2eaa6cd7bbc9c366f437de868ffef69f30795e563bd", func := "hourglass/hourglasslaw16.PartKnown", spec := "partKnown", inPlace := ["internal/bytealg.IndexByteString", "internal/bytealg.Compare", "slices.overlaps[hourglass/chain.Version]"], unfollowed := true, recurses := true, plainKeys := false, apart := false }
def PartKnownSaid : Prop := partKnownRow.holds Tryz.pinned (OpenSpec.ofChange partKnownSpec)

/-- ITS FALSE NEIGHBOUR: 'it returns false'. Refute it at one input. -/
def partKnownWrong : ChangeSpec := { name := "partKnown", fn := fun _ => fun
  | [] => { results := [.lit (.bool false)], args := [] }
  | _ => none }
def PartKnownWrongFalsely : Prop := partKnownRow.holds Tryz.pinned (OpenSpec.ofChange partKnownWrong)

/-- 'hourglasslaw16.PartPlays': WHATEVER THE INPUT: true; the input reads as it did. -/
def partPlaysSpec : ChangeSpec := { name := "partPlays", fn := fun _ => fun
  | [d1, d2, d3, d4, d5, d6, d7] => { results := [.lit (.bool true)], args := [d1, d2, d3, d4, d5, d6, d7] }
  | _ => none }
def partPlaysRow : OpenClaim := { program := "ythifdialndcemaagreat", sum := "84aa7b3972d3fc2d6b67e2eaa6cd7bbc9c366f437de868ffef69f30795e563bd", func := "hourglass/hourglasslaw16.PartPlays", spec := "partPlays", inPlace := ["internal/bytealg.IndexByteString", "internal/bytealg.Compare", "slices.overlaps[hourglass/chain.Version]"], unfollowed := true, recurses := true, plainKeys := false, apart := false }
def PartPlaysSaid : Prop := partPlaysRow.holds Tryz.pinned (OpenSpec.ofChange partPlaysSpec)

/-- ITS FALSE NEIGHBOUR: 'it returns false'. Refute it at one input. -/
def partPlaysWrong : ChangeSpec := { name := "partPlays", fn := fun _ => fun
  | [d1, d2, d3, d4, d5, d6, d7] => { results := [.lit (.bool false)], args := [d1, d2, d3, d4, d5, d6, d7] }
  | _ => none }
def PartPlaysWrongFalsely : Prop := partPlaysRow.holds Tryz.pinned (OpenSpec.ofChange partPlaysWrong)

/- THE SECOND FORM. 'bulk': how many values and letters a reading holds, each counted each time it is reached (what is shared counts as often as it is met; a slice's spare places count too). A statement '..UptoSaid' is the law's where the arguments, and the package variables that the reading takes, are together of bulk at most 1048576: NARROWER than '..Said'. Prove '..Said' where nothing that the law and all that it calls make is longer than what came in: it says more and counts as full. Else prove '..UptoSaid'. A law counts once. -/
mutual
def uptoBulk {H : Type} : DataW H → Nat
  | .lit (.string bytes) => bytes.length + 1
  | .lit _ => 1
  | .nil => 1
  | .ptr d => uptoBulk d + 1
  | .slice elems spare => uptoBulkAll elems + uptoBulkAll spare + 1
  | .agg parts => uptoBulkAll parts + 1
  | .iface _ d => uptoBulk d + 1
  | .map entries => uptoBulkEntries entries + 1
  | .held _ => 1
def uptoBulkAll {H : Type} : List (DataW H) → Nat
  | [] => 0
  | d :: r => uptoBulk d + uptoBulkAll r
def uptoBulkEntries {H : Type} : List (Lit × DataW H) → Nat
  | [] => 0
  | x :: r => uptoBulkEntry x + uptoBulkEntries r
def uptoBulkEntry {H : Type} : Lit × DataW H → Nat
  | (.string bytes, d) => bytes.length + uptoBulk d + 1
  | (_, d) => uptoBulk d + 1
 end
def uptoSmall : (H : Type) → List (DataW H) → Bool := fun _ ds => decide (uptoBulkAll ds ≤ 1048576)
def OpenSpec.upto (s : _root_.Go.ChangeSpec) : _root_.Go.OpenSpec := { _root_.Go.OpenSpec.ofChange s with cond := some uptoSmall }

/-- 'hourglasslaw16.PartHolds', WHERE WHAT IT READS IS OF BULK AT MOST 1048576: true; the input reads as it did. -/
def partHoldsUptoRow : OpenClaim := { program := "ythifdialndcemaagreat", sum := "84aa7b3972d3fc2d6b67e2eaa6cd7bbc9c366f437de868ffef69f30795e563bd", func := "hourglass/hourglasslaw16.PartHolds", spec := "partHolds", inPlace := ["internal/bytealg.IndexByteString", "internal/bytealg.Compare", "slices.overlaps[hourglass/chain.Version]"], unfollowed := true, recurses := true, plainKeys := false, apart := false, narrowed := true }
def PartHoldsUptoSaid : Prop := partHoldsUptoRow.holds Tryz.pinned (OpenSpec.upto partHoldsSpec)

/-- 'hourglasslaw16.PartStill', WHERE WHAT IT READS IS OF BULK AT MOST 1048576: true; the input reads as it did. -/
def partStillUptoRow : OpenClaim := { program := "ythifdialndcemaagreat", sum := "84aa7b3972d3fc2d6b67e2eaa6cd7bbc9c366f437de868ffef69f30795e563bd", func := "hourglass/hourglasslaw16.PartStill", spec := "partStill", inPlace := ["internal/bytealg.IndexByteString", "internal/bytealg.Compare", "slices.overlaps[hourglass/chain.Version]"], unfollowed := true, recurses := true, plainKeys := false, apart := false, narrowed := true }
def PartStillUptoSaid : Prop := partStillUptoRow.holds Tryz.pinned (OpenSpec.upto partStillSpec)

/-- 'hourglasslaw16.PartOver', WHERE WHAT IT READS IS OF BULK AT MOST 1048576: true; the input reads as it did. -/
def partOverUptoRow : OpenClaim := { program := "ythifdialndcemaagreat", sum := "84aa7b3972d3fc2d6b67e2eaa6cd7bbc9c366f437de868ffef69f30795e563bd", func := "hourglass/hourglasslaw16.PartOver", spec := "partOver", inPlace := ["internal/bytealg.IndexByteString", "internal/bytealg.Compare", "slices.overlaps[hourglass/chain.Version]"], unfollowed := true, recurses := true, plainKeys := false, apart := false, narrowed := true }
def PartOverUptoSaid : Prop := partOverUptoRow.holds Tryz.pinned (OpenSpec.upto partOverSpec)

/-- 'hourglasslaw25.FrontKnown', WHERE WHAT IT READS IS OF BULK AT MOST 1048576: true; the input reads as it did. -/
def frontKnownUptoRow : OpenClaim := { program := "ythifdialndcemaagreat", sum := "84aa7b3972d3fc2d6b67e2eaa6cd7bbc9c366f437de868ffef69f30795e563bd", func := "hourglass/hourglasslaw25.FrontKnown", spec := "frontKnown", inPlace := ["internal/bytealg.IndexByteString", "internal/bytealg.Compare"], unfollowed := true, recurses := true, plainKeys := false, apart := false, narrowed := true }
def FrontKnownUptoSaid : Prop := frontKnownUptoRow.holds Tryz.pinned (OpenSpec.upto frontKnownSpec)

/-- 'hourglasslaw25.FrontPlays', WHERE WHAT IT READS IS OF BULK AT MOST 1048576: true; the input reads as it did. -/
def frontPlaysUptoRow : OpenClaim := { program := "ythifdialndcemaagreat", sum := "84aa7b3972d3fc2d6b67e2eaa6cd7bbc9c366f437de868ffef69f30795e563bd", func := "hourglass/hourglasslaw25.FrontPlays", spec := "frontPlays", inPlace := ["internal/bytealg.IndexByteString", "internal/bytealg.Compare"], unfollowed := true, recurses := true, plainKeys := false, apart := false, narrowed := true }
def FrontPlaysUptoSaid : Prop := frontPlaysUptoRow.holds Tryz.pinned (OpenSpec.upto frontPlaysSpec)

/-- 'hourglasslaw23.SoloFirst', WHERE WHAT IT READS IS OF BULK AT MOST 1048576: true; the input reads as it did. -/
def soloFirstUptoRow : OpenClaim := { program := "ythifdialndcemaagreat", sum := "84aa7b3972d3fc2d6b67e2eaa6cd7bbc9c366f437de868ffef69f30795e563bd", func := "hourglass/hourglasslaw23.SoloFirst", spec := "soloFirst", inPlace := ["internal/bytealg.IndexByteString", "internal/bytealg.Compare", "slices.overlaps[hourglass/chain.Version]"], unfollowed := true, recurses := true, plainKeys := false, apart := false, narrowed := true }
def SoloFirstUptoSaid : Prop := soloFirstUptoRow.holds Tryz.pinned (OpenSpec.upto soloFirstSpec)

/-- 'hourglasslaw23.SoloKnown', WHERE WHAT IT READS IS OF BULK AT MOST 1048576: true; the input reads as it did. -/
def soloKnownUptoRow : OpenClaim := { program := "ythifdialndcemaagreat", sum := "84aa7b3972d3fc2d6b67e2eaa6cd7bbc9c366f437de868ffef69f30795e563bd", func := "hourglass/hourglasslaw23.SoloKnown", spec := "soloKnown", inPlace := ["internal/bytealg.IndexByteString", "internal/bytealg.Compare", "slices.overlaps[hourglass/chain.Version]"], unfollowed := true, recurses := true, plainKeys := false, apart := false, narrowed := true }
def SoloKnownUptoSaid : Prop := soloKnownUptoRow.holds Tryz.pinned (OpenSpec.upto soloKnownSpec)

/-- 'hourglasslaw23.SoloStill', WHERE WHAT IT READS IS OF BULK AT MOST 1048576: true; the input reads as it did. -/
def soloStillUptoRow : OpenClaim := { program := "ythifdialndcemaagreat", sum := "84aa7b3972d3fc2d6b67e2eaa6cd7bbc9c366f437de868ffef69f30795e563bd", func := "hourglass/hourglasslaw23.SoloStill", spec := "soloStill", inPlace := ["internal/bytealg.IndexByteString", "internal/bytealg.Compare", "slices.overlaps[hourglass/chain.Version]"], unfollowed := true, recurses := true, plainKeys := false, apart := false, narrowed := true }
def SoloStillUptoSaid : Prop := soloStillUptoRow.holds Tryz.pinned (OpenSpec.upto soloStillSpec)

/-- 'hourglasslaw16.PartKnown', WHERE WHAT IT READS IS OF BULK AT MOST 1048576: true; the input reads as it did. -/
def partKnownUptoRow : OpenClaim := { program := "ythifdialndcemaagreat", sum := "84aa7b3972d3fc2d6b67e2eaa6cd7bbc9c366f437de868ffef69f30795e563bd", func := "hourglass/hourglasslaw16.PartKnown", spec := "partKnown", inPlace := ["internal/bytealg.IndexByteString", "internal/bytealg.Compare", "slices.overlaps[hourglass/chain.Version]"], unfollowed := true, recurses := true, plainKeys := false, apart := false, narrowed := true }
def PartKnownUptoSaid : Prop := partKnownUptoRow.holds Tryz.pinned (OpenSpec.upto partKnownSpec)

/-- 'hourglasslaw16.PartPlays', WHERE WHAT IT READS IS OF BULK AT MOST 1048576: true; the input reads as it did. -/
def partPlaysUptoRow : OpenClaim := { program := "ythifdialndcemaagreat", sum := "84aa7b3972d3fc2d6b67e2eaa6cd7bbc9c366f437de868ffef69f30795e563bd", func := "hourglass/hourglasslaw16.PartPlays", spec := "partPlays", inPlace := ["internal/bytealg.IndexByteString", "internal/bytealg.Compare", "slices.overlaps[hourglass/chain.Version]"], unfollowed := true, recurses := true, plainKeys := false, apart := false, narrowed := true }
def PartPlaysUptoSaid : Prop := partPlaysUptoRow.holds Tryz.pinned (OpenSpec.upto partPlaysSpec)

end Rows
end Go.Proofs.YthifdialndcemaaGreat
