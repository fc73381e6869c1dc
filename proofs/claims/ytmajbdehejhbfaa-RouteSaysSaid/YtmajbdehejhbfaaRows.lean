/-
  No cell of these rows narrows 'for every input' (looked for: loops, veiled, ifaces, maps, wideKeys, modest, calm, conditions, laid).
  DERIVED. THE GIVEN ROWS OF THIS SEAT. 11 by the template 'for every input the law returns true; each argument reads behind the call as it read before'; 0 by the template 'total and deterministic' (their statements: YtmajbdehejhbfaaTotals.lean).
  GIVEN WITH THE SEED: the statements are not yours to turn. If you find one false, say at which input.
  Laid BY PROGRAM, IN A SANDBOX (cutbox-rows.mjs): the forced cells as the released guide's own fill.sh prints them over the translation 5fe45608b3698c5d… (all of the seat's roots in one cut). By AI agents, Wed Nov 11 2026. No macro, syntax, notation, axiom, sorry.
-/
import Derived.Test.YtmajbdehejhbfaaChecked
import GoSem.Claim
import GoSem.ClaimJoined
import GoSem.ClaimMapViews
import Derived.JoinedTies
import Derived.KernelRfl
namespace Go.Proofs.Ytmajbdehejhbfaa
/- THE CELL 'sum', in the pinned program and in every row, IS THE sha256 OF THE DUMP (.gsa) THAT YtmajbdehejhbfaaProg.lean LOADS. Nothing in Lean hashes anything: it is a label: what it is worth is what the hold of that sum in a sandbox is worth. -/
noncomputable def Try.pinned : Pinned := { name := "ytmajbdehejhbfaa", sum := "5fe45608b3698c5d8c28c3a1e2a50a8cc60133a686b5d831f12af53b01073e81", checked := Try.checked }
namespace Rows
def none {H : Type} : Left H := { results := [], args := [] }

/-- 'hourglasslaw17.RouteSays': WHATEVER THE INPUT: true; the input reads as it did. -/
def routeSaysSpec : ChangeSpec := { name := "routeSays", fn := fun _ => fun
  | [d1, d2, d3, d4, d5] => { results := [.lit (.bool true)], args := [d1, d2, d3, d4, d5] }
  | _ => none }
def routeSaysRow : OpenClaim := { program := "ytmajbdehejhbfaa", sum := "5fe45608b3698c5d8c28c3a1e2a50a8cc60133a686b5d831f12af53b01073e81", func := "hourglass/hourglasslaw17.RouteSays", spec := "routeSays", inPlace := ["internal/bytealg.IndexByteString", "internal/bytealg.Compare"], recurses := true, plainKeys := false, apart := false }
def RouteSaysSaid : Prop := routeSaysRow.holds Try.pinned (OpenSpec.ofChange routeSaysSpec)

/-- ITS FALSE NEIGHBOUR: 'it returns false'. Refute it at one input. -/
def routeSaysWrong : ChangeSpec := { name := "routeSays", fn := fun _ => fun
  | [d1, d2, d3, d4, d5] => { results := [.lit (.bool false)], args := [d1, d2, d3, d4, d5] }
  | _ => none }
def RouteSaysWrongFalsely : Prop := routeSaysRow.holds Try.pinned (OpenSpec.ofChange routeSaysWrong)

/-- 'hourglasslaw13.PrepApart': WHATEVER THE INPUT: true; the input reads as it did. -/
def prepApartSpec : ChangeSpec := { name := "prepApart", fn := fun _ => fun
  | [d] => { results := [.lit (.bool true)], args := [d] }
  | _ => none }
def prepApartRow : OpenClaim := { program := "ytmajbdehejhbfaa", sum := "5fe45608b3698c5d8c28c3a1e2a50a8cc60133a686b5d831f12af53b01073e81", func := "hourglass/hourglasslaw13.PrepApart", spec := "prepApart", inPlace := ["internal/bytealg.IndexByteString"], unfollowed := true, recurses := true, plainKeys := false, apart := false }
def PrepApartSaid : Prop := prepApartRow.holds Try.pinned (OpenSpec.ofChange prepApartSpec)

/-- ITS FALSE NEIGHBOUR: 'it returns false'. Refute it at one input. -/
def prepApartWrong : ChangeSpec := { name := "prepApart", fn := fun _ => fun
  | [d] => { results := [.lit (.bool false)], args := [d] }
  | _ => none }
def PrepApartWrongFalsely : Prop := prepApartRow.holds Try.pinned (OpenSpec.ofChange prepApartWrong)

/-- 'hourglasslaw13.PrepKnown': WHATEVER THE INPUT: true; the input reads as it did. -/
def prepKnownSpec : ChangeSpec := { name := "prepKnown", fn := fun _ => fun
  | [] => { results := [.lit (.bool true)], args := [] }
  | _ => none }
def prepKnownRow : OpenClaim := { program := "ytmajbdehejhbfaa", sum := "5fe45608b3698c5d8c28c3a1e2a50a8cc60133a686b5d831f12af53b01073e81", func := "hourglass/hourglasslaw13.PrepKnown", spec := "prepKnown", inPlace := ["internal/bytealg.IndexByteString"], unfollowed := true, recurses := true, plainKeys := false, apart := false }
def PrepKnownSaid : Prop := prepKnownRow.holds Try.pinned (OpenSpec.ofChange prepKnownSpec)

/-- ITS FALSE NEIGHBOUR: 'it returns false'. Refute it at one input. -/
def prepKnownWrong : ChangeSpec := { name := "prepKnown", fn := fun _ => fun
  | [] => { results := [.lit (.bool false)], args := [] }
  | _ => none }
def PrepKnownWrongFalsely : Prop := prepKnownRow.holds Try.pinned (OpenSpec.ofChange prepKnownWrong)

/-- 'hourglasslaw13.PrepPlays': WHATEVER THE INPUT: true; the input reads as it did. -/
def prepPlaysSpec : ChangeSpec := { name := "prepPlays", fn := fun _ => fun
  | [d1, d2, d3] => { results := [.lit (.bool true)], args := [d1, d2, d3] }
  | _ => none }
def prepPlaysRow : OpenClaim := { program := "ytmajbdehejhbfaa", sum := "5fe45608b3698c5d8c28c3a1e2a50a8cc60133a686b5d831f12af53b01073e81", func := "hourglass/hourglasslaw13.PrepPlays", spec := "prepPlays", inPlace := ["internal/bytealg.IndexByteString"], unfollowed := true, recurses := true, plainKeys := false, apart := false }
def PrepPlaysSaid : Prop := prepPlaysRow.holds Try.pinned (OpenSpec.ofChange prepPlaysSpec)

/-- ITS FALSE NEIGHBOUR: 'it returns false'. Refute it at one input. -/
def prepPlaysWrong : ChangeSpec := { name := "prepPlays", fn := fun _ => fun
  | [d1, d2, d3] => { results := [.lit (.bool false)], args := [d1, d2, d3] }
  | _ => none }
def PrepPlaysWrongFalsely : Prop := prepPlaysRow.holds Try.pinned (OpenSpec.ofChange prepPlaysWrong)

/-- 'hourglasslaw18.CoordOnce': WHATEVER THE INPUT: true; the input reads as it did. -/
def coordOnceSpec : ChangeSpec := { name := "coordOnce", fn := fun _ => fun
  | [d1, d2, d3] => { results := [.lit (.bool true)], args := [d1, d2, d3] }
  | _ => none }
def coordOnceRow : OpenClaim := { program := "ytmajbdehejhbfaa", sum := "5fe45608b3698c5d8c28c3a1e2a50a8cc60133a686b5d831f12af53b01073e81", func := "hourglass/hourglasslaw18.CoordOnce", spec := "coordOnce", unfollowed := true, recurses := true, plainKeys := false, apart := false }
def CoordOnceSaid : Prop := coordOnceRow.holds Try.pinned (OpenSpec.ofChange coordOnceSpec)

/-- ITS FALSE NEIGHBOUR: 'it returns false'. Refute it at one input. -/
def coordOnceWrong : ChangeSpec := { name := "coordOnce", fn := fun _ => fun
  | [d1, d2, d3] => { results := [.lit (.bool false)], args := [d1, d2, d3] }
  | _ => none }
def CoordOnceWrongFalsely : Prop := coordOnceRow.holds Try.pinned (OpenSpec.ofChange coordOnceWrong)

/-- 'hourglasslaw18.CoordLogs': WHATEVER THE INPUT: true; the input reads as it did. -/
def coordLogsSpec : ChangeSpec := { name := "coordLogs", fn := fun _ => fun
  | [d1, d2, d3] => { results := [.lit (.bool true)], args := [d1, d2, d3] }
  | _ => none }
def coordLogsRow : OpenClaim := { program := "ytmajbdehejhbfaa", sum := "5fe45608b3698c5d8c28c3a1e2a50a8cc60133a686b5d831f12af53b01073e81", func := "hourglass/hourglasslaw18.CoordLogs", spec := "coordLogs", inPlace := ["internal/bytealg.IndexByteString"], unfollowed := true, recurses := true, plainKeys := false, apart := false }
def CoordLogsSaid : Prop := coordLogsRow.holds Try.pinned (OpenSpec.ofChange coordLogsSpec)

/-- ITS FALSE NEIGHBOUR: 'it returns false'. Refute it at one input. -/
def coordLogsWrong : ChangeSpec := { name := "coordLogs", fn := fun _ => fun
  | [d1, d2, d3] => { results := [.lit (.bool false)], args := [d1, d2, d3] }
  | _ => none }
def CoordLogsWrongFalsely : Prop := coordLogsRow.holds Try.pinned (OpenSpec.ofChange coordLogsWrong)

/-- 'hourglasslaw18.CoordKnown': WHATEVER THE INPUT: true; the input reads as it did. -/
def coordKnownSpec : ChangeSpec := { name := "coordKnown", fn := fun _ => fun
  | [] => { results := [.lit (.bool true)], args := [] }
  | _ => none }
def coordKnownRow : OpenClaim := { program := "ytmajbdehejhbfaa", sum := "5fe45608b3698c5d8c28c3a1e2a50a8cc60133a686b5d831f12af53b01073e81", func := "hourglass/hourglasslaw18.CoordKnown", spec := "coordKnown", inPlace := ["internal/bytealg.IndexByteString"], unfollowed := true, recurses := true, plainKeys := false, apart := false }
def CoordKnownSaid : Prop := coordKnownRow.holds Try.pinned (OpenSpec.ofChange coordKnownSpec)

/-- ITS FALSE NEIGHBOUR: 'it returns false'. Refute it at one input. -/
def coordKnownWrong : ChangeSpec := { name := "coordKnown", fn := fun _ => fun
  | [] => { results := [.lit (.bool false)], args := [] }
  | _ => none }
def CoordKnownWrongFalsely : Prop := coordKnownRow.holds Try.pinned (OpenSpec.ofChange coordKnownWrong)

/-- 'hourglasslaw18.CoordPlays': WHATEVER THE INPUT: true; the input reads as it did. -/
def coordPlaysSpec : ChangeSpec := { name := "coordPlays", fn := fun _ => fun
  | [d] => { results := [.lit (.bool true)], args := [d] }
  | _ => none }
def coordPlaysRow : OpenClaim := { program := "ytmajbdehejhbfaa", sum := "5fe45608b3698c5d8c28c3a1e2a50a8cc60133a686b5d831f12af53b01073e81", func := "hourglass/hourglasslaw18.CoordPlays", spec := "coordPlays", inPlace := ["internal/bytealg.IndexByteString"], unfollowed := true, recurses := true, plainKeys := false, apart := false }
def CoordPlaysSaid : Prop := coordPlaysRow.holds Try.pinned (OpenSpec.ofChange coordPlaysSpec)

/-- ITS FALSE NEIGHBOUR: 'it returns false'. Refute it at one input. -/
def coordPlaysWrong : ChangeSpec := { name := "coordPlays", fn := fun _ => fun
  | [d] => { results := [.lit (.bool false)], args := [d] }
  | _ => none }
def CoordPlaysWrongFalsely : Prop := coordPlaysRow.holds Try.pinned (OpenSpec.ofChange coordPlaysWrong)

/-- 'hourglasslaw21.WheelOnce': WHATEVER THE INPUT: true; the input reads as it did. -/
def wheelOnceSpec : ChangeSpec := { name := "wheelOnce", fn := fun _ => fun
  | [d1, d2] => { results := [.lit (.bool true)], args := [d1, d2] }
  | _ => none }
def wheelOnceRow : OpenClaim := { program := "ytmajbdehejhbfaa", sum := "5fe45608b3698c5d8c28c3a1e2a50a8cc60133a686b5d831f12af53b01073e81", func := "hourglass/hourglasslaw21.WheelOnce", spec := "wheelOnce", unfollowed := true, recurses := true, plainKeys := false, apart := false }
def WheelOnceSaid : Prop := wheelOnceRow.holds Try.pinned (OpenSpec.ofChange wheelOnceSpec)

/-- ITS FALSE NEIGHBOUR: 'it returns false'. Refute it at one input. -/
def wheelOnceWrong : ChangeSpec := { name := "wheelOnce", fn := fun _ => fun
  | [d1, d2] => { results := [.lit (.bool false)], args := [d1, d2] }
  | _ => none }
def WheelOnceWrongFalsely : Prop := wheelOnceRow.holds Try.pinned (OpenSpec.ofChange wheelOnceWrong)

/-- 'hourglasslaw21.WheelKnown': WHATEVER THE INPUT: true; the input reads as it did. -/
def wheelKnownSpec : ChangeSpec := { name := "wheelKnown", fn := fun _ => fun
  | [] => { results := [.lit (.bool true)], args := [] }
  | _ => none }
def wheelKnownRow : OpenClaim := { program := "ytmajbdehejhbfaa", sum := "5fe45608b3698c5d8c28c3a1e2a50a8cc60133a686b5d831f12af53b01073e81", func := "hourglass/hourglasslaw21.WheelKnown", spec := "wheelKnown", unfollowed := true, recurses := true, plainKeys := false, apart := false }
def WheelKnownSaid : Prop := wheelKnownRow.holds Try.pinned (OpenSpec.ofChange wheelKnownSpec)

/-- ITS FALSE NEIGHBOUR: 'it returns false'. Refute it at one input. -/
def wheelKnownWrong : ChangeSpec := { name := "wheelKnown", fn := fun _ => fun
  | [] => { results := [.lit (.bool false)], args := [] }
  | _ => none }
def WheelKnownWrongFalsely : Prop := wheelKnownRow.holds Try.pinned (OpenSpec.ofChange wheelKnownWrong)

/-- 'hourglasslaw21.WheelPlays': WHATEVER THE INPUT: true; the input reads as it did. -/
def wheelPlaysSpec : ChangeSpec := { name := "wheelPlays", fn := fun _ => fun
  | [d1, d2] => { results := [.lit (.bool true)], args := [d1, d2] }
  | _ => none }
def wheelPlaysRow : OpenClaim := { program := "ytmajbdehejhbfaa", sum := "5fe45608b3698c5d8c28c3a1e2a50a8cc60133a686b5d831f12af53b01073e81", func := "hourglass/hourglasslaw21.WheelPlays", spec := "wheelPlays", unfollowed := true, recurses := true, plainKeys := false, apart := false }
def WheelPlaysSaid : Prop := wheelPlaysRow.holds Try.pinned (OpenSpec.ofChange wheelPlaysSpec)

/-- ITS FALSE NEIGHBOUR: 'it returns false'. Refute it at one input. -/
def wheelPlaysWrong : ChangeSpec := { name := "wheelPlays", fn := fun _ => fun
  | [d1, d2] => { results := [.lit (.bool false)], args := [d1, d2] }
  | _ => none }
def WheelPlaysWrongFalsely : Prop := wheelPlaysRow.holds Try.pinned (OpenSpec.ofChange wheelPlaysWrong)

/- THE SECOND FORM. 'bulk': how many values and letters a reading holds, each counted each time it is reached (what is shared counts as often as it is met; a slice's spare places count too). A statement '..UptoSaid' is the law's where the arguments, and the package variables that the reading takes, are together of bulk at most 1048576: NARROWER than '..Said'. Prove '..Said' where nothing that the law and all that it calls make is longer than what came in: it says more and counts as full. Else prove '..UptoSaid'. A law counts once. -/
mutual
def uptoBulk {H : Type} : DataW H → Nat
  | .lit (.string bytes) => bytes.length + 1
  | .lit _ => 1
  | .nil => 1
  | .ptr d => uptoBulk d + 1
  | .slice elems spare => uptoBulkAll elems + uptoBulkAll spare + 1
  | .agg parts => uptoBulkAll parts + 1
  | .iface _ d => uptoBulk d + 1
  | .map entries => uptoBulkEntries entries + 1
  | .held _ => 1
def uptoBulkAll {H : Type} : List (DataW H) → Nat
  | [] => 0
  | d :: r => uptoBulk d + uptoBulkAll r
def uptoBulkEntries {H : Type} : List (Lit × DataW H) → Nat
  | [] => 0
  | x :: r => uptoBulkEntry x + uptoBulkEntries r
def uptoBulkEntry {H : Type} : Lit × DataW H → Nat
  | (.string bytes, d) => bytes.length + uptoBulk d + 1
  | (_, d) => uptoBulk d + 1
 end
def uptoSmall : (H : Type) → List (DataW H) → Bool := fun _ ds => decide (uptoBulkAll ds ≤ 1048576)
def OpenSpec.upto (s : _root_.Go.ChangeSpec) : _root_.Go.OpenSpec := { _root_.Go.OpenSpec.ofChange s with cond := some uptoSmall }

/-- 'hourglasslaw17.RouteSays', WHERE WHAT IT READS IS OF BULK AT MOST 1048576: true; the input reads as it did. -/
def routeSaysUptoRow : OpenClaim := { program := "ytmajbdehejhbfaa", sum := "5fe45608b3698c5d8c28c3a1e2a50a8cc60133a686b5d831f12af53b01073e81", func := "hourglass/hourglasslaw17.RouteSays", spec := "routeSays", inPlace := ["internal/bytealg.IndexByteString", "internal/bytealg.Compare"], recurses := true, plainKeys := false, apart := false, narrowed := true }
def RouteSaysUptoSaid : Prop := routeSaysUptoRow.holds Try.pinned (OpenSpec.upto routeSaysSpec)

/-- 'hourglasslaw13.PrepApart', WHERE WHAT IT READS IS OF BULK AT MOST 1048576: true; the input reads as it did. -/
def prepApartUptoRow : OpenClaim := { program := "ytmajbdehejhbfaa", sum := "5fe45608b3698c5d8c28c3a1e2a50a8cc60133a686b5d831f12af53b01073e81", func := "hourglass/hourglasslaw13.PrepApart", spec := "prepApart", inPlace := ["internal/bytealg.IndexByteString"], unfollowed := true, recurses := true, plainKeys := false, apart := false, narrowed := true }
def PrepApartUptoSaid : Prop := prepApartUptoRow.holds Try.pinned (OpenSpec.upto prepApartSpec)

/-- 'hourglasslaw13.PrepKnown', WHERE WHAT IT READS IS OF BULK AT MOST 1048576: true; the input reads as it did. -/
def prepKnownUptoRow : OpenClaim := { program := "ytmajbdehejhbfaa", sum := "5fe45608b3698c5d8c28c3a1e2a50a8cc60133a686b5d831f12af53b01073e81", func := "hourglass/hourglasslaw13.PrepKnown", spec := "prepKnown", inPlace := ["internal/bytealg.IndexByteString"], unfollowed := true, recurses := true, plainKeys := false, apart := false, narrowed := true }
def PrepKnownUptoSaid : Prop := prepKnownUptoRow.holds Try.pinned (OpenSpec.upto prepKnownSpec)

/-- 'hourglasslaw13.PrepPlays', WHERE WHAT IT READS IS OF BULK AT MOST 1048576: true; the input reads as it did. -/
def prepPlaysUptoRow : OpenClaim := { program := "ytmajbdehejhbfaa", sum := "5fe45608b3698c5d8c28c3a1e2a50a8cc60133a686b5d831f12af53b01073e81", func := "hourglass/hourglasslaw13.PrepPlays", spec := "prepPlays", inPlace := ["internal/bytealg.IndexByteString"], unfollowed := true, recurses := true, plainKeys := false, apart := false, narrowed := true }
def PrepPlaysUptoSaid : Prop := prepPlaysUptoRow.holds Try.pinned (OpenSpec.upto prepPlaysSpec)

/-- 'hourglasslaw18.CoordOnce', WHERE WHAT IT READS IS OF BULK AT MOST 1048576: true; the input reads as it did. -/
def coordOnceUptoRow : OpenClaim := { program := "ytmajbdehejhbfaa", sum := "5fe45608b3698c5d8c28c3a1e2a50a8cc60133a686b5d831f12af53b01073e81", func := "hourglass/hourglasslaw18.CoordOnce", spec := "coordOnce", unfollowed := true, recurses := true, plainKeys := false, apart := false, narrowed := true }
def CoordOnceUptoSaid : Prop := coordOnceUptoRow.holds Try.pinned (OpenSpec.upto coordOnceSpec)

/-- 'hourglasslaw18.CoordLogs', WHERE WHAT IT READS IS OF BULK AT MOST 1048576: true; the input reads as it did. -/
def coordLogsUptoRow : OpenClaim := { program := "ytmajbdehejhbfaa", sum := "5fe45608b3698c5d8c28c3a1e2a50a8cc60133a686b5d831f12af53b01073e81", func := "hourglass/hourglasslaw18.CoordLogs", spec := "coordLogs", inPlace := ["internal/bytealg.IndexByteString"], unfollowed := true, recurses := true, plainKeys := false, apart := false, narrowed := true }
def CoordLogsUptoSaid : Prop := coordLogsUptoRow.holds Try.pinned (OpenSpec.upto coordLogsSpec)

/-- 'hourglasslaw18.CoordKnown', WHERE WHAT IT READS IS OF BULK AT MOST 1048576: true; the input reads as it did. -/
def coordKnownUptoRow : OpenClaim := { program := "ytmajbdehejhbfaa", sum := "5fe45608b3698c5d8c28c3a1e2a50a8cc60133a686b5d831f12af53b01073e81", func := "hourglass/hourglasslaw18.CoordKnown", spec := "coordKnown", inPlace := ["internal/bytealg.IndexByteString"], unfollowed := true, recurses := true, plainKeys := false, apart := false, narrowed := true }
def CoordKnownUptoSaid : Prop := coordKnownUptoRow.holds Try.pinned (OpenSpec.upto coordKnownSpec)

/-- 'hourglasslaw18.CoordPlays', WHERE WHAT IT READS IS OF BULK AT MOST 1048576: true; the input reads as it did. -/
def coordPlaysUptoRow : OpenClaim := { program := "ytmajbdehejhbfaa", sum := "5fe45608b3698c5d8c28c3a1e2a50a8cc60133a686b5d831f12af53b01073e81", func := "hourglass/hourglasslaw18.CoordPlays", spec := "coordPlays", inPlace := ["internal/bytealg.IndexByteString"], unfollowed := true, recurses := true, plainKeys := false, apart := false, narrowed := true }
def CoordPlaysUptoSaid : Prop := coordPlaysUptoRow.holds Try.pinned (OpenSpec.upto coordPlaysSpec)

/-- 'hourglasslaw21.WheelOnce', WHERE WHAT IT READS IS OF BULK AT MOST 1048576: true; the input reads as it did. -/
def wheelOnceUptoRow : OpenClaim := { program := "ytmajbdehejhbfaa", sum := "5fe45608b3698c5d8c28c3a1e2a50a8cc60133a686b5d831f12af53b01073e81", func := "hourglass/hourglasslaw21.WheelOnce", spec := "wheelOnce", unfollowed := true, recurses := true, plainKeys := false, apart := false, narrowed := true }
def WheelOnceUptoSaid : Prop := wheelOnceUptoRow.holds Try.pinned (OpenSpec.upto wheelOnceSpec)

/-- 'hourglasslaw21.WheelKnown', WHERE WHAT IT READS IS OF BULK AT MOST 1048576: true; the input reads as it did. -/
def wheelKnownUptoRow : OpenClaim := { program := "ytmajbdehejhbfaa", sum := "5fe45608b3698c5d8c28c3a1e2a50a8cc60133a686b5d831f12af53b01073e81", func := "hourglass/hourglasslaw21.WheelKnown", spec := "wheelKnown", unfollowed := true, recurses := true, plainKeys := false, apart := false, narrowed := true }
def WheelKnownUptoSaid : Prop := wheelKnownUptoRow.holds Try.pinned (OpenSpec.upto wheelKnownSpec)

/-- 'hourglasslaw21.WheelPlays', WHERE WHAT IT READS IS OF BULK AT MOST 1048576: true; the input reads as it did. -/
def wheelPlaysUptoRow : OpenClaim := { program := "ytmajbdehejhbfaa", sum := "5fe45608b3698c5d8c28c3a1e2a50a8cc60133a686b5d831f12af53b01073e81", func := "hourglass/hourglasslaw21.WheelPlays", spec := "wheelPlays", unfollowed := true, recurses := true, plainKeys := false, apart := false, narrowed := true }
def WheelPlaysUptoSaid : Prop := wheelPlaysUptoRow.holds Try.pinned (OpenSpec.upto wheelPlaysSpec)

end Rows
end Go.Proofs.Ytmajbdehejhbfaa
