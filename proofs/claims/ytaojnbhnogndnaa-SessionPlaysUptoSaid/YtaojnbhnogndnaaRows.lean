/-
  No cell of these rows narrows 'for every input' (looked for: loops, veiled, ifaces, maps, wideKeys, modest, calm, conditions, laid).
  DERIVED. THE GIVEN ROWS OF THIS SEAT. 12 by the template 'for every input the law returns true; each argument reads behind the call as it read before'; 0 by the template 'total and deterministic' (their statements: YtaojnbhnogndnaaTotals.lean).
  GIVEN WITH THE SEED: the statements are not yours to turn. If you find one false, say at which input.
  Laid BY PROGRAM, IN A SANDBOX (cutbox-rows.mjs): the forced cells as the released guide's own fill.sh prints them over the translation bbea1644fe455f31… (all of the seat's roots in one cut). By AI agents, Wed Nov 11 2026. No macro, syntax, notation, axiom, sorry.
-/
import Derived.Test.YtaojnbhnogndnaaChecked
import GoSem.Claim
import GoSem.ClaimJoined
import GoSem.ClaimMapViews
import Derived.JoinedTies
import Derived.KernelRfl
namespace Go.Proofs.Ytaojnbhnogndnaa
/- THE CELL 'sum', in the pinned program and in every row, IS THE sha256 OF THE DUMP (.gsa) THAT YtaojnbhnogndnaaProg.lean LOADS. Nothing in Lean hashes anything: it is a label: what it is worth is what the hold of that sum in a sandbox is worth. -/
noncomputable def Try.pinned : Pinned := { name := "ytaojnbhnogndnaa", sum := "bbea1644fe455f3143f1d867f02dfa1a098303ac8fb2ff27a13e537515e6afd0", checked := Try.checked }
namespace Rows
def none {H : Type} : Left H := { results := [], args := [] }

/-- 'majordomolaw17.SessionWhole': WHATEVER THE INPUT: true; the input reads as it did. -/
def sessionWholeSpec : ChangeSpec := { name := "sessionWhole", fn := fun _ => fun
  | [d1, d2, d3] => { results := [.lit (.bool true)], args := [d1, d2, d3] }
  | _ => none }
def sessionWholeRow : OpenClaim := { program := "ytaojnbhnogndnaa", sum := "bbea1644fe455f3143f1d867f02dfa1a098303ac8fb2ff27a13e537515e6afd0", func := "majordomo/majordomolaw17.SessionWhole", spec := "sessionWhole", plainKeys := false, apart := false }
def SessionWholeSaid : Prop := sessionWholeRow.holds Try.pinned (OpenSpec.ofChange sessionWholeSpec)

/-- ITS FALSE NEIGHBOUR: 'it returns false'. Refute it at one input. -/
def sessionWholeWrong : ChangeSpec := { name := "sessionWhole", fn := fun _ => fun
  | [d1, d2, d3] => { results := [.lit (.bool false)], args := [d1, d2, d3] }
  | _ => none }
def SessionWholeWrongFalsely : Prop := sessionWholeRow.holds Try.pinned (OpenSpec.ofChange sessionWholeWrong)

/-- 'majordomolaw17.SessionNew': WHATEVER THE INPUT: true; the input reads as it did. -/
def sessionNewSpec : ChangeSpec := { name := "sessionNew", fn := fun _ => fun
  | [d1, d2, d3] => { results := [.lit (.bool true)], args := [d1, d2, d3] }
  | _ => none }
def sessionNewRow : OpenClaim := { program := "ytaojnbhnogndnaa", sum := "bbea1644fe455f3143f1d867f02dfa1a098303ac8fb2ff27a13e537515e6afd0", func := "majordomo/majordomolaw17.SessionNew", spec := "sessionNew", plainKeys := false, apart := false }
def SessionNewSaid : Prop := sessionNewRow.holds Try.pinned (OpenSpec.ofChange sessionNewSpec)

/-- ITS FALSE NEIGHBOUR: 'it returns false'. Refute it at one input. -/
def sessionNewWrong : ChangeSpec := { name := "sessionNew", fn := fun _ => fun
  | [d1, d2, d3] => { results := [.lit (.bool false)], args := [d1, d2, d3] }
  | _ => none }
def SessionNewWrongFalsely : Prop := sessionNewRow.holds Try.pinned (OpenSpec.ofChange sessionNewWrong)

/-- 'majordomolaw17.SessionApart': WHATEVER THE INPUT: true; the input reads as it did. -/
def sessionApartSpec : ChangeSpec := { name := "sessionApart", fn := fun _ => fun
  | [d1, d2] => { results := [.lit (.bool true)], args := [d1, d2] }
  | _ => none }
def sessionApartRow : OpenClaim := { program := "ytaojnbhnogndnaa", sum := "bbea1644fe455f3143f1d867f02dfa1a098303ac8fb2ff27a13e537515e6afd0", func := "majordomo/majordomolaw17.SessionApart", spec := "sessionApart", plainKeys := false, apart := false }
def SessionApartSaid : Prop := sessionApartRow.holds Try.pinned (OpenSpec.ofChange sessionApartSpec)

/-- ITS FALSE NEIGHBOUR: 'it returns false'. Refute it at one input. -/
def sessionApartWrong : ChangeSpec := { name := "sessionApart", fn := fun _ => fun
  | [d1, d2] => { results := [.lit (.bool false)], args := [d1, d2] }
  | _ => none }
def SessionApartWrongFalsely : Prop := sessionApartRow.holds Try.pinned (OpenSpec.ofChange sessionApartWrong)

/-- 'majordomolaw18.NetCounts': WHATEVER THE INPUT: true; the input reads as it did. -/
def netCountsSpec : ChangeSpec := { name := "netCounts", fn := fun _ => fun
  | [d] => { results := [.lit (.bool true)], args := [d] }
  | _ => none }
def netCountsRow : OpenClaim := { program := "ytaojnbhnogndnaa", sum := "bbea1644fe455f3143f1d867f02dfa1a098303ac8fb2ff27a13e537515e6afd0", func := "majordomo/majordomolaw18.NetCounts", spec := "netCounts", plainKeys := false, apart := false }
def NetCountsSaid : Prop := netCountsRow.holds Try.pinned (OpenSpec.ofChange netCountsSpec)

/-- ITS FALSE NEIGHBOUR: 'it returns false'. Refute it at one input. -/
def netCountsWrong : ChangeSpec := { name := "netCounts", fn := fun _ => fun
  | [d] => { results := [.lit (.bool false)], args := [d] }
  | _ => none }
def NetCountsWrongFalsely : Prop := netCountsRow.holds Try.pinned (OpenSpec.ofChange netCountsWrong)

/-- 'majordomolaw18.NetOrder': WHATEVER THE INPUT: true; the input reads as it did. -/
def netOrderSpec : ChangeSpec := { name := "netOrder", fn := fun _ => fun
  | [d] => { results := [.lit (.bool true)], args := [d] }
  | _ => none }
def netOrderRow : OpenClaim := { program := "ytaojnbhnogndnaa", sum := "bbea1644fe455f3143f1d867f02dfa1a098303ac8fb2ff27a13e537515e6afd0", func := "majordomo/majordomolaw18.NetOrder", spec := "netOrder", plainKeys := false, apart := false }
def NetOrderSaid : Prop := netOrderRow.holds Try.pinned (OpenSpec.ofChange netOrderSpec)

/-- ITS FALSE NEIGHBOUR: 'it returns false'. Refute it at one input. -/
def netOrderWrong : ChangeSpec := { name := "netOrder", fn := fun _ => fun
  | [d] => { results := [.lit (.bool false)], args := [d] }
  | _ => none }
def NetOrderWrongFalsely : Prop := netOrderRow.holds Try.pinned (OpenSpec.ofChange netOrderWrong)

/-- 'majordomolaw18.NetLoses': WHATEVER THE INPUT: true; the input reads as it did. -/
def netLosesSpec : ChangeSpec := { name := "netLoses", fn := fun _ => fun
  | [d1, d2] => { results := [.lit (.bool true)], args := [d1, d2] }
  | _ => none }
def netLosesRow : OpenClaim := { program := "ytaojnbhnogndnaa", sum := "bbea1644fe455f3143f1d867f02dfa1a098303ac8fb2ff27a13e537515e6afd0", func := "majordomo/majordomolaw18.NetLoses", spec := "netLoses", plainKeys := false, apart := false }
def NetLosesSaid : Prop := netLosesRow.holds Try.pinned (OpenSpec.ofChange netLosesSpec)

/-- ITS FALSE NEIGHBOUR: 'it returns false'. Refute it at one input. -/
def netLosesWrong : ChangeSpec := { name := "netLoses", fn := fun _ => fun
  | [d1, d2] => { results := [.lit (.bool false)], args := [d1, d2] }
  | _ => none }
def NetLosesWrongFalsely : Prop := netLosesRow.holds Try.pinned (OpenSpec.ofChange netLosesWrong)

/-- 'majordomolaw18.NetPlays': WHATEVER THE INPUT: true; the input reads as it did. -/
def netPlaysSpec : ChangeSpec := { name := "netPlays", fn := fun _ => fun
  | [d] => { results := [.lit (.bool true)], args := [d] }
  | _ => none }
def netPlaysRow : OpenClaim := { program := "ytaojnbhnogndnaa", sum := "bbea1644fe455f3143f1d867f02dfa1a098303ac8fb2ff27a13e537515e6afd0", func := "majordomo/majordomolaw18.NetPlays", spec := "netPlays", plainKeys := false, apart := false }
def NetPlaysSaid : Prop := netPlaysRow.holds Try.pinned (OpenSpec.ofChange netPlaysSpec)

/-- ITS FALSE NEIGHBOUR: 'it returns false'. Refute it at one input. -/
def netPlaysWrong : ChangeSpec := { name := "netPlays", fn := fun _ => fun
  | [d] => { results := [.lit (.bool false)], args := [d] }
  | _ => none }
def NetPlaysWrongFalsely : Prop := netPlaysRow.holds Try.pinned (OpenSpec.ofChange netPlaysWrong)

/-- 'majordomolaw17.SessionPlays': WHATEVER THE INPUT: true; the input reads as it did. -/
def sessionPlaysSpec : ChangeSpec := { name := "sessionPlays", fn := fun _ => fun
  | [d1, d2] => { results := [.lit (.bool true)], args := [d1, d2] }
  | _ => none }
def sessionPlaysRow : OpenClaim := { program := "ytaojnbhnogndnaa", sum := "bbea1644fe455f3143f1d867f02dfa1a098303ac8fb2ff27a13e537515e6afd0", func := "majordomo/majordomolaw17.SessionPlays", spec := "sessionPlays", inPlace := ["maps.clone"], plainKeys := false, apart := false }
def SessionPlaysSaid : Prop := sessionPlaysRow.holds Try.pinned (OpenSpec.ofChange sessionPlaysSpec)

/-- ITS FALSE NEIGHBOUR: 'it returns false'. Refute it at one input. -/
def sessionPlaysWrong : ChangeSpec := { name := "sessionPlays", fn := fun _ => fun
  | [d1, d2] => { results := [.lit (.bool false)], args := [d1, d2] }
  | _ => none }
def SessionPlaysWrongFalsely : Prop := sessionPlaysRow.holds Try.pinned (OpenSpec.ofChange sessionPlaysWrong)

/-- 'majordomolaw16.WireCuts': WHATEVER THE INPUT: true; the input reads as it did. -/
def wireCutsSpec : ChangeSpec := { name := "wireCuts", fn := fun _ => fun
  | [d] => { results := [.lit (.bool true)], args := [d] }
  | _ => none }
def wireCutsRow : OpenClaim := { program := "ytaojnbhnogndnaa", sum := "bbea1644fe455f3143f1d867f02dfa1a098303ac8fb2ff27a13e537515e6afd0", func := "majordomo/majordomolaw16.WireCuts", spec := "wireCuts", plainKeys := false, apart := false }
def WireCutsSaid : Prop := wireCutsRow.holds Try.pinned (OpenSpec.ofChange wireCutsSpec)

/-- ITS FALSE NEIGHBOUR: 'it returns false'. Refute it at one input. -/
def wireCutsWrong : ChangeSpec := { name := "wireCuts", fn := fun _ => fun
  | [d] => { results := [.lit (.bool false)], args := [d] }
  | _ => none }
def WireCutsWrongFalsely : Prop := wireCutsRow.holds Try.pinned (OpenSpec.ofChange wireCutsWrong)

/-- 'majordomolaw16.WireReads': WHATEVER THE INPUT: true; the input reads as it did. -/
def wireReadsSpec : ChangeSpec := { name := "wireReads", fn := fun _ => fun
  | [d] => { results := [.lit (.bool true)], args := [d] }
  | _ => none }
def wireReadsRow : OpenClaim := { program := "ytaojnbhnogndnaa", sum := "bbea1644fe455f3143f1d867f02dfa1a098303ac8fb2ff27a13e537515e6afd0", func := "majordomo/majordomolaw16.WireReads", spec := "wireReads", plainKeys := false, apart := false }
def WireReadsSaid : Prop := wireReadsRow.holds Try.pinned (OpenSpec.ofChange wireReadsSpec)

/-- ITS FALSE NEIGHBOUR: 'it returns false'. Refute it at one input. -/
def wireReadsWrong : ChangeSpec := { name := "wireReads", fn := fun _ => fun
  | [d] => { results := [.lit (.bool false)], args := [d] }
  | _ => none }
def WireReadsWrongFalsely : Prop := wireReadsRow.holds Try.pinned (OpenSpec.ofChange wireReadsWrong)

/-- 'majordomolaw16.WireTurned': WHATEVER THE INPUT: true; the input reads as it did. -/
def wireTurnedSpec : ChangeSpec := { name := "wireTurned", fn := fun _ => fun
  | [d1, d2, d3] => { results := [.lit (.bool true)], args := [d1, d2, d3] }
  | _ => none }
def wireTurnedRow : OpenClaim := { program := "ytaojnbhnogndnaa", sum := "bbea1644fe455f3143f1d867f02dfa1a098303ac8fb2ff27a13e537515e6afd0", func := "majordomo/majordomolaw16.WireTurned", spec := "wireTurned", plainKeys := false, apart := false }
def WireTurnedSaid : Prop := wireTurnedRow.holds Try.pinned (OpenSpec.ofChange wireTurnedSpec)

/-- ITS FALSE NEIGHBOUR: 'it returns false'. Refute it at one input. -/
def wireTurnedWrong : ChangeSpec := { name := "wireTurned", fn := fun _ => fun
  | [d1, d2, d3] => { results := [.lit (.bool false)], args := [d1, d2, d3] }
  | _ => none }
def WireTurnedWrongFalsely : Prop := wireTurnedRow.holds Try.pinned (OpenSpec.ofChange wireTurnedWrong)

/-- 'majordomolaw16.WireUnlike': WHATEVER THE INPUT: true; the input reads as it did. -/
def wireUnlikeSpec : ChangeSpec := { name := "wireUnlike", fn := fun _ => fun
  | [d1, d2, d3] => { results := [.lit (.bool true)], args := [d1, d2, d3] }
  | _ => none }
def wireUnlikeRow : OpenClaim := { program := "ytaojnbhnogndnaa", sum := "bbea1644fe455f3143f1d867f02dfa1a098303ac8fb2ff27a13e537515e6afd0", func := "majordomo/majordomolaw16.WireUnlike", spec := "wireUnlike", plainKeys := false, apart := false }
def WireUnlikeSaid : Prop := wireUnlikeRow.holds Try.pinned (OpenSpec.ofChange wireUnlikeSpec)

/-- ITS FALSE NEIGHBOUR: 'it returns false'. Refute it at one input. -/
def wireUnlikeWrong : ChangeSpec := { name := "wireUnlike", fn := fun _ => fun
  | [d1, d2, d3] => { results := [.lit (.bool false)], args := [d1, d2, d3] }
  | _ => none }
def WireUnlikeWrongFalsely : Prop := wireUnlikeRow.holds Try.pinned (OpenSpec.ofChange wireUnlikeWrong)

/- THE SECOND FORM. 'bulk': how many values and letters a reading holds, each counted each time it is reached (what is shared counts as often as it is met; a slice's spare places count too). A statement '..UptoSaid' is the law's where the arguments, and the package variables that the reading takes, are together of bulk at most 1048576: NARROWER than '..Said'. Prove '..Said' where nothing that the law and all that it calls make is longer than what came in: it says more and counts as full. Else prove '..UptoSaid'. A law counts once. -/
mutual
def uptoBulk {H : Type} : DataW H → Nat
  | .lit (.string bytes) => bytes.length + 1
  | .lit _ => 1
  | .nil => 1
  | .ptr d => uptoBulk d + 1
  | .slice elems spare => uptoBulkAll elems + uptoBulkAll spare + 1
  | .agg parts => uptoBulkAll parts + 1
  | .iface _ d => uptoBulk d + 1
  | .map entries => uptoBulkEntries entries + 1
  | .held _ => 1
def uptoBulkAll {H : Type} : List (DataW H) → Nat
  | [] => 0
  | d :: r => uptoBulk d + uptoBulkAll r
def uptoBulkEntries {H : Type} : List (Lit × DataW H) → Nat
  | [] => 0
  | x :: r => uptoBulkEntry x + uptoBulkEntries r
def uptoBulkEntry {H : Type} : Lit × DataW H → Nat
  | (.string bytes, d) => bytes.length + uptoBulk d + 1
  | (_, d) => uptoBulk d + 1
 end
def uptoSmall : (H : Type) → List (DataW H) → Bool := fun _ ds => decide (uptoBulkAll ds ≤ 1048576)
def OpenSpec.upto (s : _root_.Go.ChangeSpec) : _root_.Go.OpenSpec := { _root_.Go.OpenSpec.ofChange s with cond := some uptoSmall }

/-- 'majordomolaw17.SessionWhole', WHERE WHAT IT READS IS OF BULK AT MOST 1048576: true; the input reads as it did. -/
def sessionWholeUptoRow : OpenClaim := { program := "ytaojnbhnogndnaa", sum := "bbea1644fe455f3143f1d867f02dfa1a098303ac8fb2ff27a13e537515e6afd0", func := "majordomo/majordomolaw17.SessionWhole", spec := "sessionWhole", plainKeys := false, apart := false, narrowed := true }
def SessionWholeUptoSaid : Prop := sessionWholeUptoRow.holds Try.pinned (OpenSpec.upto sessionWholeSpec)

/-- 'majordomolaw17.SessionNew', WHERE WHAT IT READS IS OF BULK AT MOST 1048576: true; the input reads as it did. -/
def sessionNewUptoRow : OpenClaim := { program := "ytaojnbhnogndnaa", sum := "bbea1644fe455f3143f1d867f02dfa1a098303ac8fb2ff27a13e537515e6afd0", func := "majordomo/majordomolaw17.SessionNew", spec := "sessionNew", plainKeys := false, apart := false, narrowed := true }
def SessionNewUptoSaid : Prop := sessionNewUptoRow.holds Try.pinned (OpenSpec.upto sessionNewSpec)

/-- 'majordomolaw17.SessionApart', WHERE WHAT IT READS IS OF BULK AT MOST 1048576: true; the input reads as it did. -/
def sessionApartUptoRow : OpenClaim := { program := "ytaojnbhnogndnaa", sum := "bbea1644fe455f3143f1d867f02dfa1a098303ac8fb2ff27a13e537515e6afd0", func := "majordomo/majordomolaw17.SessionApart", spec := "sessionApart", plainKeys := false, apart := false, narrowed := true }
def SessionApartUptoSaid : Prop := sessionApartUptoRow.holds Try.pinned (OpenSpec.upto sessionApartSpec)

/-- 'majordomolaw18.NetCounts', WHERE WHAT IT READS IS OF BULK AT MOST 1048576: true; the input reads as it did. -/
def netCountsUptoRow : OpenClaim := { program := "ytaojnbhnogndnaa", sum := "bbea1644fe455f3143f1d867f02dfa1a098303ac8fb2ff27a13e537515e6afd0", func := "majordomo/majordomolaw18.NetCounts", spec := "netCounts", plainKeys := false, apart := false, narrowed := true }
def NetCountsUptoSaid : Prop := netCountsUptoRow.holds Try.pinned (OpenSpec.upto netCountsSpec)

/-- 'majordomolaw18.NetOrder', WHERE WHAT IT READS IS OF BULK AT MOST 1048576: true; the input reads as it did. -/
def netOrderUptoRow : OpenClaim := { program := "ytaojnbhnogndnaa", sum := "bbea1644fe455f3143f1d867f02dfa1a098303ac8fb2ff27a13e537515e6afd0", func := "majordomo/majordomolaw18.NetOrder", spec := "netOrder", plainKeys := false, apart := false, narrowed := true }
def NetOrderUptoSaid : Prop := netOrderUptoRow.holds Try.pinned (OpenSpec.upto netOrderSpec)

/-- 'majordomolaw18.NetLoses', WHERE WHAT IT READS IS OF BULK AT MOST 1048576: true; the input reads as it did. -/
def netLosesUptoRow : OpenClaim := { program := "ytaojnbhnogndnaa", sum := "bbea1644fe455f3143f1d867f02dfa1a098303ac8fb2ff27a13e537515e6afd0", func := "majordomo/majordomolaw18.NetLoses", spec := "netLoses", plainKeys := false, apart := false, narrowed := true }
def NetLosesUptoSaid : Prop := netLosesUptoRow.holds Try.pinned (OpenSpec.upto netLosesSpec)

/-- 'majordomolaw18.NetPlays', WHERE WHAT IT READS IS OF BULK AT MOST 1048576: true; the input reads as it did. -/
def netPlaysUptoRow : OpenClaim := { program := "ytaojnbhnogndnaa", sum := "bbea1644fe455f3143f1d867f02dfa1a098303ac8fb2ff27a13e537515e6afd0", func := "majordomo/majordomolaw18.NetPlays", spec := "netPlays", plainKeys := false, apart := false, narrowed := true }
def NetPlaysUptoSaid : Prop := netPlaysUptoRow.holds Try.pinned (OpenSpec.upto netPlaysSpec)

/-- 'majordomolaw17.SessionPlays', WHERE WHAT IT READS IS OF BULK AT MOST 1048576: true; the input reads as it did. -/
def sessionPlaysUptoRow : OpenClaim := { program := "ytaojnbhnogndnaa", sum := "bbea1644fe455f3143f1d867f02dfa1a098303ac8fb2ff27a13e537515e6afd0", func := "majordomo/majordomolaw17.SessionPlays", spec := "sessionPlays", inPlace := ["maps.clone"], plainKeys := false, apart := false, narrowed := true }
def SessionPlaysUptoSaid : Prop := sessionPlaysUptoRow.holds Try.pinned (OpenSpec.upto sessionPlaysSpec)

/-- 'majordomolaw16.WireCuts', WHERE WHAT IT READS IS OF BULK AT MOST 1048576: true; the input reads as it did. -/
def wireCutsUptoRow : OpenClaim := { program := "ytaojnbhnogndnaa", sum := "bbea1644fe455f3143f1d867f02dfa1a098303ac8fb2ff27a13e537515e6afd0", func := "majordomo/majordomolaw16.WireCuts", spec := "wireCuts", plainKeys := false, apart := false, narrowed := true }
def WireCutsUptoSaid : Prop := wireCutsUptoRow.holds Try.pinned (OpenSpec.upto wireCutsSpec)

/-- 'majordomolaw16.WireReads', WHERE WHAT IT READS IS OF BULK AT MOST 1048576: true; the input reads as it did. -/
def wireReadsUptoRow : OpenClaim := { program := "ytaojnbhnogndnaa", sum := "bbea1644fe455f3143f1d867f02dfa1a098303ac8fb2ff27a13e537515e6afd0", func := "majordomo/majordomolaw16.WireReads", spec := "wireReads", plainKeys := false, apart := false, narrowed := true }
def WireReadsUptoSaid : Prop := wireReadsUptoRow.holds Try.pinned (OpenSpec.upto wireReadsSpec)

/-- 'majordomolaw16.WireTurned', WHERE WHAT IT READS IS OF BULK AT MOST 1048576: true; the input reads as it did. -/
def wireTurnedUptoRow : OpenClaim := { program := "ytaojnbhnogndnaa", sum := "bbea1644fe455f3143f1d867f02dfa1a098303ac8fb2ff27a13e537515e6afd0", func := "majordomo/majordomolaw16.WireTurned", spec := "wireTurned", plainKeys := false, apart := false, narrowed := true }
def WireTurnedUptoSaid : Prop := wireTurnedUptoRow.holds Try.pinned (OpenSpec.upto wireTurnedSpec)

/-- 'majordomolaw16.WireUnlike', WHERE WHAT IT READS IS OF BULK AT MOST 1048576: true; the input reads as it did. -/
def wireUnlikeUptoRow : OpenClaim := { program := "ytaojnbhnogndnaa", sum := "bbea1644fe455f3143f1d867f02dfa1a098303ac8fb2ff27a13e537515e6afd0", func := "majordomo/majordomolaw16.WireUnlike", spec := "wireUnlike", plainKeys := false, apart := false, narrowed := true }
def WireUnlikeUptoSaid : Prop := wireUnlikeUptoRow.holds Try.pinned (OpenSpec.upto wireUnlikeSpec)

end Rows
end Go.Proofs.Ytaojnbhnogndnaa
