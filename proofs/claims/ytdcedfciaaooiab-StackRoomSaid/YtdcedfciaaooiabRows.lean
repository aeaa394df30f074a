/-
  No cell of these rows narrows 'for every input' (looked for: loops, veiled, ifaces, maps, wideKeys, modest, calm, conditions, laid).
  DERIVED. THE GIVEN ROWS OF THIS SEAT. 12 by the template 'for every input the law returns true; each argument reads behind the call as it read before'; 0 by the template 'total and deterministic' (their statements: YtdcedfciaaooiabTotals.lean).
  GIVEN WITH THE SEED: the statements are not yours to turn. If you find one false, say at which input.
  Laid BY PROGRAM, IN A SANDBOX (cutbox-rows.mjs): the forced cells as the released guide's own fill.sh prints them over the translation 5faecb9de6a207dc… (all of the seat's roots in one cut). By AI agents, Wed Nov 11 2026. No macro, syntax, notation, axiom, sorry.
-/
import Derived.Test.YtdcedfciaaooiabChecked
import GoSem.Claim
import GoSem.ClaimJoined
import GoSem.ClaimMapViews
import Derived.JoinedTies
import Derived.KernelRfl
namespace Go.Proofs.Ytdcedfciaaooiab
/- THE CELL 'sum', in the pinned program and in every row, IS THE sha256 OF THE DUMP (.gsa) THAT YtdcedfciaaooiabProg.lean LOADS. Nothing in Lean hashes anything: it is a label: what it is worth is what the hold of that sum in a sandbox is worth. -/
noncomputable def Try.pinned : Pinned := { name := "ytdcedfciaaooiab", sum := "5faecb9de6a207dc2f963e7599a9f46344c8cf3f2aafc78a97cc1fb9b694e0b4", checked := Try.checked }
namespace Rows
def none {H : Type} : Left H := { results := [], args := [] }

/-- 'metrolablaw25.StackLimits': WHATEVER THE INPUT: true; the input reads as it did. -/
def stackLimitsSpec : ChangeSpec := { name := "stackLimits", fn := fun _ => fun
  | [d1, d2] => { results := [.lit (.bool true)], args := [d1, d2] }
  | _ => none }
def stackLimitsRow : OpenClaim := { program := "ytdcedfciaaooiab", sum := "5faecb9de6a207dc2f963e7599a9f46344c8cf3f2aafc78a97cc1fb9b694e0b4", func := "metrolab/metrolablaw25.StackLimits", spec := "stackLimits", unfollowed := true, recurses := true, apart := false }
def StackLimitsSaid : Prop := stackLimitsRow.holds Try.pinned (OpenSpec.ofChange stackLimitsSpec)

/-- ITS FALSE NEIGHBOUR: 'it returns false'. Refute it at one input. -/
def stackLimitsWrong : ChangeSpec := { name := "stackLimits", fn := fun _ => fun
  | [d1, d2] => { results := [.lit (.bool false)], args := [d1, d2] }
  | _ => none }
def StackLimitsWrongFalsely : Prop := stackLimitsRow.holds Try.pinned (OpenSpec.ofChange stackLimitsWrong)

/-- 'metrolablaw25.StackKeeps': WHATEVER THE INPUT: true; the input reads as it did. -/
def stackKeepsSpec : ChangeSpec := { name := "stackKeeps", fn := fun _ => fun
  | [d] => { results := [.lit (.bool true)], args := [d] }
  | _ => none }
def stackKeepsRow : OpenClaim := { program := "ytdcedfciaaooiab", sum := "5faecb9de6a207dc2f963e7599a9f46344c8cf3f2aafc78a97cc1fb9b694e0b4", func := "metrolab/metrolablaw25.StackKeeps", spec := "stackKeeps", unfollowed := true, recurses := true, apart := false }
def StackKeepsSaid : Prop := stackKeepsRow.holds Try.pinned (OpenSpec.ofChange stackKeepsSpec)

/-- ITS FALSE NEIGHBOUR: 'it returns false'. Refute it at one input. -/
def stackKeepsWrong : ChangeSpec := { name := "stackKeeps", fn := fun _ => fun
  | [d] => { results := [.lit (.bool false)], args := [d] }
  | _ => none }
def StackKeepsWrongFalsely : Prop := stackKeepsRow.holds Try.pinned (OpenSpec.ofChange stackKeepsWrong)

/-- 'metrolablaw25.StackRoom': WHATEVER THE INPUT: true; the input reads as it did. -/
def stackRoomSpec : ChangeSpec := { name := "stackRoom", fn := fun _ => fun
  | [d1, d2] => { results := [.lit (.bool true)], args := [d1, d2] }
  | _ => none }
def stackRoomRow : OpenClaim := { program := "ytdcedfciaaooiab", sum := "5faecb9de6a207dc2f963e7599a9f46344c8cf3f2aafc78a97cc1fb9b694e0b4", func := "metrolab/metrolablaw25.StackRoom", spec := "stackRoom", unfollowed := true, recurses := true, apart := false }
def StackRoomSaid : Prop := stackRoomRow.holds Try.pinned (OpenSpec.ofChange stackRoomSpec)

/-- ITS FALSE NEIGHBOUR: 'it returns false'. Refute it at one input. -/
def stackRoomWrong : ChangeSpec := { name := "stackRoom", fn := fun _ => fun
  | [d1, d2] => { results := [.lit (.bool false)], args := [d1, d2] }
  | _ => none }
def StackRoomWrongFalsely : Prop := stackRoomRow.holds Try.pinned (OpenSpec.ofChange stackRoomWrong)

/-- 'metrolablaw25.StackAdds': WHATEVER THE INPUT: true; the input reads as it did. -/
def stackAddsSpec : ChangeSpec := { name := "stackAdds", fn := fun _ => fun
  | [d1, d2] => { results := [.lit (.bool true)], args := [d1, d2] }
  | _ => none }
def stackAddsRow : OpenClaim := { program := "ytdcedfciaaooiab", sum := "5faecb9de6a207dc2f963e7599a9f46344c8cf3f2aafc78a97cc1fb9b694e0b4", func := "metrolab/metrolablaw25.StackAdds", spec := "stackAdds", unfollowed := true, recurses := true, apart := false }
def StackAddsSaid : Prop := stackAddsRow.holds Try.pinned (OpenSpec.ofChange stackAddsSpec)

/-- ITS FALSE NEIGHBOUR: 'it returns false'. Refute it at one input. -/
def stackAddsWrong : ChangeSpec := { name := "stackAdds", fn := fun _ => fun
  | [d1, d2] => { results := [.lit (.bool false)], args := [d1, d2] }
  | _ => none }
def StackAddsWrongFalsely : Prop := stackAddsRow.holds Try.pinned (OpenSpec.ofChange stackAddsWrong)

/-- 'metrolablaw25.StackAttains': WHATEVER THE INPUT: true; the input reads as it did. -/
def stackAttainsSpec : ChangeSpec := { name := "stackAttains", fn := fun _ => fun
  | [d1, d2, d3] => { results := [.lit (.bool true)], args := [d1, d2, d3] }
  | _ => none }
def stackAttainsRow : OpenClaim := { program := "ytdcedfciaaooiab", sum := "5faecb9de6a207dc2f963e7599a9f46344c8cf3f2aafc78a97cc1fb9b694e0b4", func := "metrolab/metrolablaw25.StackAttains", spec := "stackAttains", unfollowed := true, recurses := true, apart := false }
def StackAttainsSaid : Prop := stackAttainsRow.holds Try.pinned (OpenSpec.ofChange stackAttainsSpec)

/-- ITS FALSE NEIGHBOUR: 'it returns false'. Refute it at one input. -/
def stackAttainsWrong : ChangeSpec := { name := "stackAttains", fn := fun _ => fun
  | [d1, d2, d3] => { results := [.lit (.bool false)], args := [d1, d2, d3] }
  | _ => none }
def StackAttainsWrongFalsely : Prop := stackAttainsRow.holds Try.pinned (OpenSpec.ofChange stackAttainsWrong)

/-- 'metrolablaw24.LoopSums': WHATEVER THE INPUT: true; the input reads as it did. -/
def loopSumsSpec : ChangeSpec := { name := "loopSums", fn := fun _ => fun
  | [d1, d2, d3] => { results := [.lit (.bool true)], args := [d1, d2, d3] }
  | _ => none }
def loopSumsRow : OpenClaim := { program := "ytdcedfciaaooiab", sum := "5faecb9de6a207dc2f963e7599a9f46344c8cf3f2aafc78a97cc1fb9b694e0b4", func := "metrolab/metrolablaw24.LoopSums", spec := "loopSums", unfollowed := true, recurses := true, apart := false }
def LoopSumsSaid : Prop := loopSumsRow.holds Try.pinned (OpenSpec.ofChange loopSumsSpec)

/-- ITS FALSE NEIGHBOUR: 'it returns false'. Refute it at one input. -/
def loopSumsWrong : ChangeSpec := { name := "loopSums", fn := fun _ => fun
  | [d1, d2, d3] => { results := [.lit (.bool false)], args := [d1, d2, d3] }
  | _ => none }
def LoopSumsWrongFalsely : Prop := loopSumsRow.holds Try.pinned (OpenSpec.ofChange loopSumsWrong)

/-- 'metrolablaw24.LoopFinds': WHATEVER THE INPUT: true; the input reads as it did. -/
def loopFindsSpec : ChangeSpec := { name := "loopFinds", fn := fun _ => fun
  | [d1, d2] => { results := [.lit (.bool true)], args := [d1, d2] }
  | _ => none }
def loopFindsRow : OpenClaim := { program := "ytdcedfciaaooiab", sum := "5faecb9de6a207dc2f963e7599a9f46344c8cf3f2aafc78a97cc1fb9b694e0b4", func := "metrolab/metrolablaw24.LoopFinds", spec := "loopFinds", unfollowed := true, recurses := true, apart := false }
def LoopFindsSaid : Prop := loopFindsRow.holds Try.pinned (OpenSpec.ofChange loopFindsSpec)

/-- ITS FALSE NEIGHBOUR: 'it returns false'. Refute it at one input. -/
def loopFindsWrong : ChangeSpec := { name := "loopFinds", fn := fun _ => fun
  | [d1, d2] => { results := [.lit (.bool false)], args := [d1, d2] }
  | _ => none }
def LoopFindsWrongFalsely : Prop := loopFindsRow.holds Try.pinned (OpenSpec.ofChange loopFindsWrong)

/-- 'metrolablaw24.LoopRounds': WHATEVER THE INPUT: true; the input reads as it did. -/
def loopRoundsSpec : ChangeSpec := { name := "loopRounds", fn := fun _ => fun
  | [d] => { results := [.lit (.bool true)], args := [d] }
  | _ => none }
def loopRoundsRow : OpenClaim := { program := "ytdcedfciaaooiab", sum := "5faecb9de6a207dc2f963e7599a9f46344c8cf3f2aafc78a97cc1fb9b694e0b4", func := "metrolab/metrolablaw24.LoopRounds", spec := "loopRounds", unfollowed := true, recurses := true, apart := false }
def LoopRoundsSaid : Prop := loopRoundsRow.holds Try.pinned (OpenSpec.ofChange loopRoundsSpec)

/-- ITS FALSE NEIGHBOUR: 'it returns false'. Refute it at one input. -/
def loopRoundsWrong : ChangeSpec := { name := "loopRounds", fn := fun _ => fun
  | [d] => { results := [.lit (.bool false)], args := [d] }
  | _ => none }
def LoopRoundsWrongFalsely : Prop := loopRoundsRow.holds Try.pinned (OpenSpec.ofChange loopRoundsWrong)

/-- 'metrolablaw24.LoopCounts': WHATEVER THE INPUT: true; the input reads as it did. -/
def loopCountsSpec : ChangeSpec := { name := "loopCounts", fn := fun _ => fun
  | [d] => { results := [.lit (.bool true)], args := [d] }
  | _ => none }
def loopCountsRow : OpenClaim := { program := "ytdcedfciaaooiab", sum := "5faecb9de6a207dc2f963e7599a9f46344c8cf3f2aafc78a97cc1fb9b694e0b4", func := "metrolab/metrolablaw24.LoopCounts", spec := "loopCounts", unfollowed := true, recurses := true, apart := false }
def LoopCountsSaid : Prop := loopCountsRow.holds Try.pinned (OpenSpec.ofChange loopCountsSpec)

/-- ITS FALSE NEIGHBOUR: 'it returns false'. Refute it at one input. -/
def loopCountsWrong : ChangeSpec := { name := "loopCounts", fn := fun _ => fun
  | [d] => { results := [.lit (.bool false)], args := [d] }
  | _ => none }
def LoopCountsWrongFalsely : Prop := loopCountsRow.holds Try.pinned (OpenSpec.ofChange loopCountsWrong)

/-- 'metrolablaw24.LoopOpposes': WHATEVER THE INPUT: true; the input reads as it did. -/
def loopOpposesSpec : ChangeSpec := { name := "loopOpposes", fn := fun _ => fun
  | [d1, d2, d3] => { results := [.lit (.bool true)], args := [d1, d2, d3] }
  | _ => none }
def loopOpposesRow : OpenClaim := { program := "ytdcedfciaaooiab", sum := "5faecb9de6a207dc2f963e7599a9f46344c8cf3f2aafc78a97cc1fb9b694e0b4", func := "metrolab/metrolablaw24.LoopOpposes", spec := "loopOpposes", unfollowed := true, recurses := true, apart := false }
def LoopOpposesSaid : Prop := loopOpposesRow.holds Try.pinned (OpenSpec.ofChange loopOpposesSpec)

/-- ITS FALSE NEIGHBOUR: 'it returns false'. Refute it at one input. -/
def loopOpposesWrong : ChangeSpec := { name := "loopOpposes", fn := fun _ => fun
  | [d1, d2, d3] => { results := [.lit (.bool false)], args := [d1, d2, d3] }
  | _ => none }
def LoopOpposesWrongFalsely : Prop := loopOpposesRow.holds Try.pinned (OpenSpec.ofChange loopOpposesWrong)

/-- 'metrolablaw24.LoopChecks': WHATEVER THE INPUT: true; the input reads as it did. -/
def loopChecksSpec : ChangeSpec := { name := "loopChecks", fn := fun _ => fun
  | [d1, d2] => { results := [.lit (.bool true)], args := [d1, d2] }
  | _ => none }
def loopChecksRow : OpenClaim := { program := "ytdcedfciaaooiab", sum := "5faecb9de6a207dc2f963e7599a9f46344c8cf3f2aafc78a97cc1fb9b694e0b4", func := "metrolab/metrolablaw24.LoopChecks", spec := "loopChecks", unfollowed := true, recurses := true, apart := false }
def LoopChecksSaid : Prop := loopChecksRow.holds Try.pinned (OpenSpec.ofChange loopChecksSpec)

/-- ITS FALSE NEIGHBOUR: 'it returns false'. Refute it at one input. -/
def loopChecksWrong : ChangeSpec := { name := "loopChecks", fn := fun _ => fun
  | [d1, d2] => { results := [.lit (.bool false)], args := [d1, d2] }
  | _ => none }
def LoopChecksWrongFalsely : Prop := loopChecksRow.holds Try.pinned (OpenSpec.ofChange loopChecksWrong)

/-- 'metrolablaw24.LoopTurns': WHATEVER THE INPUT: true; the input reads as it did. -/
def loopTurnsSpec : ChangeSpec := { name := "loopTurns", fn := fun _ => fun
  | [d1, d2] => { results := [.lit (.bool true)], args := [d1, d2] }
  | _ => none }
def loopTurnsRow : OpenClaim := { program := "ytdcedfciaaooiab", sum := "5faecb9de6a207dc2f963e7599a9f46344c8cf3f2aafc78a97cc1fb9b694e0b4", func := "metrolab/metrolablaw24.LoopTurns", spec := "loopTurns", unfollowed := true, recurses := true, apart := false }
def LoopTurnsSaid : Prop := loopTurnsRow.holds Try.pinned (OpenSpec.ofChange loopTurnsSpec)

/-- ITS FALSE NEIGHBOUR: 'it returns false'. Refute it at one input. -/
def loopTurnsWrong : ChangeSpec := { name := "loopTurns", fn := fun _ => fun
  | [d1, d2] => { results := [.lit (.bool false)], args := [d1, d2] }
  | _ => none }
def LoopTurnsWrongFalsely : Prop := loopTurnsRow.holds Try.pinned (OpenSpec.ofChange loopTurnsWrong)

/- THE SECOND FORM. 'bulk': how many values and letters a reading holds, each counted each time it is reached (what is shared counts as often as it is met; a slice's spare places count too). A statement '..UptoSaid' is the law's where the arguments, and the package variables that the reading takes, are together of bulk at most 1048576: NARROWER than '..Said'. Prove '..Said' where nothing that the law and all that it calls make is longer than what came in: it says more and counts as full. Else prove '..UptoSaid'. A law counts once. -/
mutual
def uptoBulk {H : Type} : DataW H → Nat
  | .lit (.string bytes) => bytes.length + 1
  | .lit _ => 1
  | .nil => 1
  | .ptr d => uptoBulk d + 1
  | .slice elems spare => uptoBulkAll elems + uptoBulkAll spare + 1
  | .agg parts => uptoBulkAll parts + 1
  | .iface _ d => uptoBulk d + 1
  | .map entries => uptoBulkEntries entries + 1
  | .held _ => 1
def uptoBulkAll {H : Type} : List (DataW H) → Nat
  | [] => 0
  | d :: r => uptoBulk d + uptoBulkAll r
def uptoBulkEntries {H : Type} : List (Lit × DataW H) → Nat
  | [] => 0
  | x :: r => uptoBulkEntry x + uptoBulkEntries r
def uptoBulkEntry {H : Type} : Lit × DataW H → Nat
  | (.string bytes, d) => bytes.length + uptoBulk d + 1
  | (_, d) => uptoBulk d + 1
 end
def uptoSmall : (H : Type) → List (DataW H) → Bool := fun _ ds => decide (uptoBulkAll ds ≤ 1048576)
def OpenSpec.upto (s : _root_.Go.ChangeSpec) : _root_.Go.OpenSpec := { _root_.Go.OpenSpec.ofChange s with cond := some uptoSmall }

/-- 'metrolablaw25.StackLimits', WHERE WHAT IT READS IS OF BULK AT MOST 1048576: true; the input reads as it did. -/
def stackLimitsUptoRow : OpenClaim := { program := "ytdcedfciaaooiab", sum := "5faecb9de6a207dc2f963e7599a9f46344c8cf3f2aafc78a97cc1fb9b694e0b4", func := "metrolab/metrolablaw25.StackLimits", spec := "stackLimits", unfollowed := true, recurses := true, apart := false, narrowed := true }
def StackLimitsUptoSaid : Prop := stackLimitsUptoRow.holds Try.pinned (OpenSpec.upto stackLimitsSpec)

/-- 'metrolablaw25.StackKeeps', WHERE WHAT IT READS IS OF BULK AT MOST 1048576: true; the input reads as it did. -/
def stackKeepsUptoRow : OpenClaim := { program := "ytdcedfciaaooiab", sum := "5faecb9de6a207dc2f963e7599a9f46344c8cf3f2aafc78a97cc1fb9b694e0b4", func := "metrolab/metrolablaw25.StackKeeps", spec := "stackKeeps", unfollowed := true, recurses := true, apart := false, narrowed := true }
def StackKeepsUptoSaid : Prop := stackKeepsUptoRow.holds Try.pinned (OpenSpec.upto stackKeepsSpec)

/-- 'metrolablaw25.StackRoom', WHERE WHAT IT READS IS OF BULK AT MOST 1048576: true; the input reads as it did. -/
def stackRoomUptoRow : OpenClaim := { program := "ytdcedfciaaooiab", sum := "5faecb9de6a207dc2f963e7599a9f46344c8cf3f2aafc78a97cc1fb9b694e0b4", func := "metrolab/metrolablaw25.StackRoom", spec := "stackRoom", unfollowed := true, recurses := true, apart := false, narrowed := true }
def StackRoomUptoSaid : Prop := stackRoomUptoRow.holds Try.pinned (OpenSpec.upto stackRoomSpec)

/-- 'metrolablaw25.StackAdds', WHERE WHAT IT READS IS OF BULK AT MOST 1048576: true; the input reads as it did. -/
def stackAddsUptoRow : OpenClaim := { program := "ytdcedfciaaooiab", sum := "5faecb9de6a207dc2f963e7599a9f46344c8cf3f2aafc78a97cc1fb9b694e0b4", func := "metrolab/metrolablaw25.StackAdds", spec := "stackAdds", unfollowed := true, recurses := true, apart := false, narrowed := true }
def StackAddsUptoSaid : Prop := stackAddsUptoRow.holds Try.pinned (OpenSpec.upto stackAddsSpec)

/-- 'metrolablaw25.StackAttains', WHERE WHAT IT READS IS OF BULK AT MOST 1048576: true; the input reads as it did. -/
def stackAttainsUptoRow : OpenClaim := { program := "ytdcedfciaaooiab", sum := "5faecb9de6a207dc2f963e7599a9f46344c8cf3f2aafc78a97cc1fb9b694e0b4", func := "metrolab/metrolablaw25.StackAttains", spec := "stackAttains", unfollowed := true, recurses := true, apart := false, narrowed := true }
def StackAttainsUptoSaid : Prop := stackAttainsUptoRow.holds Try.pinned (OpenSpec.upto stackAttainsSpec)

/-- 'metrolablaw24.LoopSums', WHERE WHAT IT READS IS OF BULK AT MOST 1048576: true; the input reads as it did. -/
def loopSumsUptoRow : OpenClaim := { program := "ytdcedfciaaooiab", sum := "5faecb9de6a207dc2f963e7599a9f46344c8cf3f2aafc78a97cc1fb9b694e0b4", func := "metrolab/metrolablaw24.LoopSums", spec := "loopSums", unfollowed := true, recurses := true, apart := false, narrowed := true }
def LoopSumsUptoSaid : Prop := loopSumsUptoRow.holds Try.pinned (OpenSpec.upto loopSumsSpec)

/-- 'metrolablaw24.LoopFinds', WHERE WHAT IT READS IS OF BULK AT MOST 1048576: true; the input reads as it did. -/
def loopFindsUptoRow : OpenClaim := { program := "ytdcedfciaaooiab", sum := "5faecb9de6a207dc2f963e7599a9f46344c8cf3f2aafc78a97cc1fb9b694e0b4", func := "metrolab/metrolablaw24.LoopFinds", spec := "loopFinds", unfollowed := true, recurses := true, apart := false, narrowed := true }
def LoopFindsUptoSaid : Prop := loopFindsUptoRow.holds Try.pinned (OpenSpec.upto loopFindsSpec)

/-- 'metrolablaw24.LoopRounds', WHERE WHAT IT READS IS OF BULK AT MOST 1048576: true; the input reads as it did. -/
def loopRoundsUptoRow : OpenClaim := { program := "ytdcedfciaaooiab", sum := "5faecb9de6a207dc2f963e7599a9f46344c8cf3f2aafc78a97cc1fb9b694e0b4", func := "metrolab/metrolablaw24.LoopRounds", spec := "loopRounds", unfollowed := true, recurses := true, apart := false, narrowed := true }
def LoopRoundsUptoSaid : Prop := loopRoundsUptoRow.holds Try.pinned (OpenSpec.upto loopRoundsSpec)

/-- 'metrolablaw24.LoopCounts', WHERE WHAT IT READS IS OF BULK AT MOST 1048576: true; the input reads as it did. -/
def loopCountsUptoRow : OpenClaim := { program := "ytdcedfciaaooiab", sum := "5faecb9de6a207dc2f963e7599a9f46344c8cf3f2aafc78a97cc1fb9b694e0b4", func := "metrolab/metrolablaw24.LoopCounts", spec := "loopCounts", unfollowed := true, recurses := true, apart := false, narrowed := true }
def LoopCountsUptoSaid : Prop := loopCountsUptoRow.holds Try.pinned (OpenSpec.upto loopCountsSpec)

/-- 'metrolablaw24.LoopOpposes', WHERE WHAT IT READS IS OF BULK AT MOST 1048576: true; the input reads as it did. -/
def loopOpposesUptoRow : OpenClaim := { program := "ytdcedfciaaooiab", sum := "5faecb9de6a207dc2f963e7599a9f46344c8cf3f2aafc78a97cc1fb9b694e0b4", func := "metrolab/metrolablaw24.LoopOpposes", spec := "loopOpposes", unfollowed := true, recurses := true, apart := false, narrowed := true }
def LoopOpposesUptoSaid : Prop := loopOpposesUptoRow.holds Try.pinned (OpenSpec.upto loopOpposesSpec)

/-- 'metrolablaw24.LoopChecks', WHERE WHAT IT READS IS OF BULK AT MOST 1048576: true; the input reads as it did. -/
def loopChecksUptoRow : OpenClaim := { program := "ytdcedfciaaooiab", sum := "5faecb9de6a207dc2f963e7599a9f46344c8cf3f2aafc78a97cc1fb9b694e0b4", func := "metrolab/metrolablaw24.LoopChecks", spec := "loopChecks", unfollowed := true, recurses := true, apart := false, narrowed := true }
def LoopChecksUptoSaid : Prop := loopChecksUptoRow.holds Try.pinned (OpenSpec.upto loopChecksSpec)

/-- 'metrolablaw24.LoopTurns', WHERE WHAT IT READS IS OF BULK AT MOST 1048576: true; the input reads as it did. -/
def loopTurnsUptoRow : OpenClaim := { program := "ytdcedfciaaooiab", sum := "5faecb9de6a207dc2f963e7599a9f46344c8cf3f2aafc78a97cc1fb9b694e0b4", func := "metrolab/metrolablaw24.LoopTurns", spec := "loopTurns", unfollowed := true, recurses := true, apart := false, narrowed := true }
def LoopTurnsUptoSaid : Prop := loopTurnsUptoRow.holds Try.pinned (OpenSpec.upto loopTurnsSpec)

end Rows
end Go.Proofs.Ytdcedfciaaooiab
