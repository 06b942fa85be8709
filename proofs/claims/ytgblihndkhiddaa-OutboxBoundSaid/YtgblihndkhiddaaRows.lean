/-
  No cell of these rows narrows 'for every input' (looked for: loops, veiled, ifaces, maps, wideKeys, modest, calm, conditions, laid).
  DERIVED. THE GIVEN ROWS OF THIS SEAT. 9 by the template 'for every input the law returns true; each argument reads behind the call as it read before'; 0 by the template 'total and deterministic' (their statements: YtgblihndkhiddaaTotals.lean).
  GIVEN WITH THE SEED: the statements are not yours to turn. If you find one false, say at which input.
  Laid BY PROGRAM, IN A SANDBOX (cutbox-rows.mjs): the forced cells as the released guide's own fill.sh prints them over the translation 460ffb25580e2b78… (all of the seat's roots in one cut). By AI agents, Wed Nov 11 2026. No macro, syntax, notation, axiom, sorry.
-/
import Derived.Test.YtgblihndkhiddaaChecked
import GoSem.Claim
import GoSem.ClaimJoined
import GoSem.ClaimMapViews
import Derived.JoinedTies
import Derived.KernelRfl
namespace Go.Proofs.Ytgblihndkhiddaa
/- THE CELL 'sum', in the pinned program and in every row, IS THE sha256 OF THE DUMP (.gsa) THAT YtgblihndkhiddaaProg.lean LOADS. Nothing in Lean hashes anything: it is a label: what it is worth is what the hold of that sum in a sandbox is worth. -/
noncomputable def Try.pinned : Pinned := { name := "ytgblihndkhiddaa", sum := "460ffb25580e2b7855f0423d556d7c3fd5fc56088404bc29cd09a21832e24176", checked := Try.checked }
namespace Rows
def none {H : Type} : Left H := { results := [], args := [] }

/-- 'tiltyardlaw25.OutboxRuns': WHATEVER THE INPUT: true; the input reads as it did. -/
def outboxRunsSpec : ChangeSpec := { name := "outboxRuns", fn := fun _ => fun
  | [d1, d2, d3] => { results := [.lit (.bool true)], args := [d1, d2, d3] }
  | _ => none }
def outboxRunsRow : OpenClaim := { program := "ytgblihndkhiddaa", sum := "460ffb25580e2b7855f0423d556d7c3fd5fc56088404bc29cd09a21832e24176", func := "tiltyard/tiltyardlaw25.OutboxRuns", spec := "outboxRuns", apart := false }
def OutboxRunsSaid : Prop := outboxRunsRow.holds Try.pinned (OpenSpec.ofChange outboxRunsSpec)

/-- ITS FALSE NEIGHBOUR: 'it returns false'. Refute it at one input. -/
def outboxRunsWrong : ChangeSpec := { name := "outboxRuns", fn := fun _ => fun
  | [d1, d2, d3] => { results := [.lit (.bool false)], args := [d1, d2, d3] }
  | _ => none }
def OutboxRunsWrongFalsely : Prop := outboxRunsRow.holds Try.pinned (OpenSpec.ofChange outboxRunsWrong)

/-- 'tiltyardlaw25.OutboxBound': WHATEVER THE INPUT: true; the input reads as it did. -/
def outboxBoundSpec : ChangeSpec := { name := "outboxBound", fn := fun _ => fun
  | [d1, d2, d3] => { results := [.lit (.bool true)], args := [d1, d2, d3] }
  | _ => none }
def outboxBoundRow : OpenClaim := { program := "ytgblihndkhiddaa", sum := "460ffb25580e2b7855f0423d556d7c3fd5fc56088404bc29cd09a21832e24176", func := "tiltyard/tiltyardlaw25.OutboxBound", spec := "outboxBound", apart := false }
def OutboxBoundSaid : Prop := outboxBoundRow.holds Try.pinned (OpenSpec.ofChange outboxBoundSpec)

/-- ITS FALSE NEIGHBOUR: 'it returns false'. Refute it at one input. -/
def outboxBoundWrong : ChangeSpec := { name := "outboxBound", fn := fun _ => fun
  | [d1, d2, d3] => { results := [.lit (.bool false)], args := [d1, d2, d3] }
  | _ => none }
def OutboxBoundWrongFalsely : Prop := outboxBoundRow.holds Try.pinned (OpenSpec.ofChange outboxBoundWrong)

/-- 'tiltyardlaw05.FrameWraps': WHATEVER THE INPUT: true; the input reads as it did. -/
def frameWrapsSpec : ChangeSpec := { name := "frameWraps", fn := fun _ => fun
  | [d] => { results := [.lit (.bool true)], args := [d] }
  | _ => none }
def frameWrapsRow : OpenClaim := { program := "ytgblihndkhiddaa", sum := "460ffb25580e2b7855f0423d556d7c3fd5fc56088404bc29cd09a21832e24176", func := "tiltyard/tiltyardlaw05.FrameWraps", spec := "frameWraps", apart := false }
def FrameWrapsSaid : Prop := frameWrapsRow.holds Try.pinned (OpenSpec.ofChange frameWrapsSpec)

/-- ITS FALSE NEIGHBOUR: 'it returns false'. Refute it at one input. -/
def frameWrapsWrong : ChangeSpec := { name := "frameWraps", fn := fun _ => fun
  | [d] => { results := [.lit (.bool false)], args := [d] }
  | _ => none }
def FrameWrapsWrongFalsely : Prop := frameWrapsRow.holds Try.pinned (OpenSpec.ofChange frameWrapsWrong)

/-- 'tiltyardlaw05.FrameFeeds': WHATEVER THE INPUT: true; the input reads as it did. -/
def frameFeedsSpec : ChangeSpec := { name := "frameFeeds", fn := fun _ => fun
  | [d] => { results := [.lit (.bool true)], args := [d] }
  | _ => none }
def frameFeedsRow : OpenClaim := { program := "ytgblihndkhiddaa", sum := "460ffb25580e2b7855f0423d556d7c3fd5fc56088404bc29cd09a21832e24176", func := "tiltyard/tiltyardlaw05.FrameFeeds", spec := "frameFeeds", apart := false }
def FrameFeedsSaid : Prop := frameFeedsRow.holds Try.pinned (OpenSpec.ofChange frameFeedsSpec)

/-- ITS FALSE NEIGHBOUR: 'it returns false'. Refute it at one input. -/
def frameFeedsWrong : ChangeSpec := { name := "frameFeeds", fn := fun _ => fun
  | [d] => { results := [.lit (.bool false)], args := [d] }
  | _ => none }
def FrameFeedsWrongFalsely : Prop := frameFeedsRow.holds Try.pinned (OpenSpec.ofChange frameFeedsWrong)

/-- 'tiltyardlaw05.FrameCut': WHATEVER THE INPUT: true; the input reads as it did. -/
def frameCutSpec : ChangeSpec := { name := "frameCut", fn := fun _ => fun
  | [d1, d2, d3] => { results := [.lit (.bool true)], args := [d1, d2, d3] }
  | _ => none }
def frameCutRow : OpenClaim := { program := "ytgblihndkhiddaa", sum := "460ffb25580e2b7855f0423d556d7c3fd5fc56088404bc29cd09a21832e24176", func := "tiltyard/tiltyardlaw05.FrameCut", spec := "frameCut", apart := false }
def FrameCutSaid : Prop := frameCutRow.holds Try.pinned (OpenSpec.ofChange frameCutSpec)

/-- ITS FALSE NEIGHBOUR: 'it returns false'. Refute it at one input. -/
def frameCutWrong : ChangeSpec := { name := "frameCut", fn := fun _ => fun
  | [d1, d2, d3] => { results := [.lit (.bool false)], args := [d1, d2, d3] }
  | _ => none }
def FrameCutWrongFalsely : Prop := frameCutRow.holds Try.pinned (OpenSpec.ofChange frameCutWrong)

/-- 'tiltyardlaw05.FrameBack': WHATEVER THE INPUT: true; the input reads as it did. -/
def frameBackSpec : ChangeSpec := { name := "frameBack", fn := fun _ => fun
  | [d] => { results := [.lit (.bool true)], args := [d] }
  | _ => none }
def frameBackRow : OpenClaim := { program := "ytgblihndkhiddaa", sum := "460ffb25580e2b7855f0423d556d7c3fd5fc56088404bc29cd09a21832e24176", func := "tiltyard/tiltyardlaw05.FrameBack", spec := "frameBack", apart := false }
def FrameBackSaid : Prop := frameBackRow.holds Try.pinned (OpenSpec.ofChange frameBackSpec)

/-- ITS FALSE NEIGHBOUR: 'it returns false'. Refute it at one input. -/
def frameBackWrong : ChangeSpec := { name := "frameBack", fn := fun _ => fun
  | [d] => { results := [.lit (.bool false)], args := [d] }
  | _ => none }
def FrameBackWrongFalsely : Prop := frameBackRow.holds Try.pinned (OpenSpec.ofChange frameBackWrong)

/-- 'tiltyardlaw05.FrameOnly': WHATEVER THE INPUT: true; the input reads as it did. -/
def frameOnlySpec : ChangeSpec := { name := "frameOnly", fn := fun _ => fun
  | [d] => { results := [.lit (.bool true)], args := [d] }
  | _ => none }
def frameOnlyRow : OpenClaim := { program := "ytgblihndkhiddaa", sum := "460ffb25580e2b7855f0423d556d7c3fd5fc56088404bc29cd09a21832e24176", func := "tiltyard/tiltyardlaw05.FrameOnly", spec := "frameOnly", apart := false }
def FrameOnlySaid : Prop := frameOnlyRow.holds Try.pinned (OpenSpec.ofChange frameOnlySpec)

/-- ITS FALSE NEIGHBOUR: 'it returns false'. Refute it at one input. -/
def frameOnlyWrong : ChangeSpec := { name := "frameOnly", fn := fun _ => fun
  | [d] => { results := [.lit (.bool false)], args := [d] }
  | _ => none }
def FrameOnlyWrongFalsely : Prop := frameOnlyRow.holds Try.pinned (OpenSpec.ofChange frameOnlyWrong)

/-- 'tiltyardlaw05.FrameHeld': WHATEVER THE INPUT: true; the input reads as it did. -/
def frameHeldSpec : ChangeSpec := { name := "frameHeld", fn := fun _ => fun
  | [d] => { results := [.lit (.bool true)], args := [d] }
  | _ => none }
def frameHeldRow : OpenClaim := { program := "ytgblihndkhiddaa", sum := "460ffb25580e2b7855f0423d556d7c3fd5fc56088404bc29cd09a21832e24176", func := "tiltyard/tiltyardlaw05.FrameHeld", spec := "frameHeld", apart := false }
def FrameHeldSaid : Prop := frameHeldRow.holds Try.pinned (OpenSpec.ofChange frameHeldSpec)

/-- ITS FALSE NEIGHBOUR: 'it returns false'. Refute it at one input. -/
def frameHeldWrong : ChangeSpec := { name := "frameHeld", fn := fun _ => fun
  | [d] => { results := [.lit (.bool false)], args := [d] }
  | _ => none }
def FrameHeldWrongFalsely : Prop := frameHeldRow.holds Try.pinned (OpenSpec.ofChange frameHeldWrong)

/-- 'tiltyardlaw05.FrameDead': WHATEVER THE INPUT: true; the input reads as it did. -/
def frameDeadSpec : ChangeSpec := { name := "frameDead", fn := fun _ => fun
  | [d1, d2, d3] => { results := [.lit (.bool true)], args := [d1, d2, d3] }
  | _ => none }
def frameDeadRow : OpenClaim := { program := "ytgblihndkhiddaa", sum := "460ffb25580e2b7855f0423d556d7c3fd5fc56088404bc29cd09a21832e24176", func := "tiltyard/tiltyardlaw05.FrameDead", spec := "frameDead", apart := false }
def FrameDeadSaid : Prop := frameDeadRow.holds Try.pinned (OpenSpec.ofChange frameDeadSpec)

/-- ITS FALSE NEIGHBOUR: 'it returns false'. Refute it at one input. -/
def frameDeadWrong : ChangeSpec := { name := "frameDead", fn := fun _ => fun
  | [d1, d2, d3] => { results := [.lit (.bool false)], args := [d1, d2, d3] }
  | _ => none }
def FrameDeadWrongFalsely : Prop := frameDeadRow.holds Try.pinned (OpenSpec.ofChange frameDeadWrong)

/- THE SECOND FORM. 'bulk': how many values and letters a reading holds, each counted each time it is reached (what is shared counts as often as it is met; a slice's spare places count too). A statement '..UptoSaid' is the law's where the arguments, and the package variables that the reading takes, are together of bulk at most 1048576: NARROWER than '..Said'. Prove '..Said' where nothing that the law and all that it calls make is longer than what came in: it says more and counts as full. Else prove '..UptoSaid'. A law counts once. -/
mutual
def uptoBulk {H : Type} : DataW H → Nat
  | .lit (.string bytes) => bytes.length + 1
  | .lit _ => 1
  | .nil => 1
  | .ptr d => uptoBulk d + 1
  | .slice elems spare => uptoBulkAll elems + uptoBulkAll spare + 1
  | .agg parts => uptoBulkAll parts + 1
  | .iface _ d => uptoBulk d + 1
  | .map entries => uptoBulkEntries entries + 1
  | .held _ => 1
def uptoBulkAll {H : Type} : List (DataW H) → Nat
  | [] => 0
  | d :: r => uptoBulk d + uptoBulkAll r
def uptoBulkEntries {H : Type} : List (Lit × DataW H) → Nat
  | [] => 0
  | x :: r => uptoBulkEntry x + uptoBulkEntries r
def uptoBulkEntry {H : Type} : Lit × DataW H → Nat
  | (.string bytes, d) => bytes.length + uptoBulk d + 1
  | (_, d) => uptoBulk d + 1
 end
def uptoSmall : (H : Type) → List (DataW H) → Bool := fun _ ds => decide (uptoBulkAll ds ≤ 1048576)
def OpenSpec.upto (s : _root_.Go.ChangeSpec) : _root_.Go.OpenSpec := { _root_.Go.OpenSpec.ofChange s with cond := some uptoSmall }

/-- 'tiltyardlaw25.OutboxRuns', WHERE WHAT IT READS IS OF BULK AT MOST 1048576: true; the input reads as it did. -/
def outboxRunsUptoRow : OpenClaim := { program := "ytgblihndkhiddaa", sum := "460ffb25580e2b7855f0423d556d7c3fd5fc56088404bc29cd09a21832e24176", func := "tiltyard/tiltyardlaw25.OutboxRuns", spec := "outboxRuns", apart := false, narrowed := true }
def OutboxRunsUptoSaid : Prop := outboxRunsUptoRow.holds Try.pinned (OpenSpec.upto outboxRunsSpec)

/-- 'tiltyardlaw25.OutboxBound', WHERE WHAT IT READS IS OF BULK AT MOST 1048576: true; the input reads as it did. -/
def outboxBoundUptoRow : OpenClaim := { program := "ytgblihndkhiddaa", sum := "460ffb25580e2b7855f0423d556d7c3fd5fc56088404bc29cd09a21832e24176", func := "tiltyard/tiltyardlaw25.OutboxBound", spec := "outboxBound", apart := false, narrowed := true }
def OutboxBoundUptoSaid : Prop := outboxBoundUptoRow.holds Try.pinned (OpenSpec.upto outboxBoundSpec)

/-- 'tiltyardlaw05.FrameWraps', WHERE WHAT IT READS IS OF BULK AT MOST 1048576: true; the input reads as it did. -/
def frameWrapsUptoRow : OpenClaim := { program := "ytgblihndkhiddaa", sum := "460ffb25580e2b7855f0423d556d7c3fd5fc56088404bc29cd09a21832e24176", func := "tiltyard/tiltyardlaw05.FrameWraps", spec := "frameWraps", apart := false, narrowed := true }
def FrameWrapsUptoSaid : Prop := frameWrapsUptoRow.holds Try.pinned (OpenSpec.upto frameWrapsSpec)

/-- 'tiltyardlaw05.FrameFeeds', WHERE WHAT IT READS IS OF BULK AT MOST 1048576: true; the input reads as it did. -/
def frameFeedsUptoRow : OpenClaim := { program := "ytgblihndkhiddaa", sum := "460ffb25580e2b7855f0423d556d7c3fd5fc56088404bc29cd09a21832e24176", func := "tiltyard/tiltyardlaw05.FrameFeeds", spec := "frameFeeds", apart := false, narrowed := true }
def FrameFeedsUptoSaid : Prop := frameFeedsUptoRow.holds Try.pinned (OpenSpec.upto frameFeedsSpec)

/-- 'tiltyardlaw05.FrameCut', WHERE WHAT IT READS IS OF BULK AT MOST 1048576: true; the input reads as it did. -/
def frameCutUptoRow : OpenClaim := { program := "ytgblihndkhiddaa", sum := "460ffb25580e2b7855f0423d556d7c3fd5fc56088404bc29cd09a21832e24176", func := "tiltyard/tiltyardlaw05.FrameCut", spec := "frameCut", apart := false, narrowed := true }
def FrameCutUptoSaid : Prop := frameCutUptoRow.holds Try.pinned (OpenSpec.upto frameCutSpec)

/-- 'tiltyardlaw05.FrameBack', WHERE WHAT IT READS IS OF BULK AT MOST 1048576: true; the input reads as it did. -/
def frameBackUptoRow : OpenClaim := { program := "ytgblihndkhiddaa", sum := "460ffb25580e2b7855f0423d556d7c3fd5fc56088404bc29cd09a21832e24176", func := "tiltyard/tiltyardlaw05.FrameBack", spec := "frameBack", apart := false, narrowed := true }
def FrameBackUptoSaid : Prop := frameBackUptoRow.holds Try.pinned (OpenSpec.upto frameBackSpec)

/-- 'tiltyardlaw05.FrameOnly', WHERE WHAT IT READS IS OF BULK AT MOST 1048576: true; the input reads as it did. -/
def frameOnlyUptoRow : OpenClaim := { program := "ytgblihndkhiddaa", sum := "460ffb25580e2b7855f0423d556d7c3fd5fc56088404bc29cd09a21832e24176", func := "tiltyard/tiltyardlaw05.FrameOnly", spec := "frameOnly", apart := false, narrowed := true }
def FrameOnlyUptoSaid : Prop := frameOnlyUptoRow.holds Try.pinned (OpenSpec.upto frameOnlySpec)

/-- 'tiltyardlaw05.FrameHeld', WHERE WHAT IT READS IS OF BULK AT MOST 1048576: true; the input reads as it did. -/
def frameHeldUptoRow : OpenClaim := { program := "ytgblihndkhiddaa", sum := "460ffb25580e2b7855f0423d556d7c3fd5fc56088404bc29cd09a21832e24176", func := "tiltyard/tiltyardlaw05.FrameHeld", spec := "frameHeld", apart := false, narrowed := true }
def FrameHeldUptoSaid : Prop := frameHeldUptoRow.holds Try.pinned (OpenSpec.upto frameHeldSpec)

/-- 'tiltyardlaw05.FrameDead', WHERE WHAT IT READS IS OF BULK AT MOST 1048576: true; the input reads as it did. -/
def frameDeadUptoRow : OpenClaim := { program := "ytgblihndkhiddaa", sum := "460ffb25580e2b7855f0423d556d7c3fd5fc56088404bc29cd09a21832e24176", func := "tiltyard/tiltyardlaw05.FrameDead", spec := "frameDead", apart := false, narrowed := true }
def FrameDeadUptoSaid : Prop := frameDeadUptoRow.holds Try.pinned (OpenSpec.upto frameDeadSpec)

end Rows
end Go.Proofs.Ytgblihndkhiddaa
