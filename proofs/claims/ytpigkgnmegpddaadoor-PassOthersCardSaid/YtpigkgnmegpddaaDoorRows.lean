/-
  NARROWER THAN 'FOR EVERY INPUT', by the rows' own cells (each row's printed sentence says how): ShaSteps: laid · ShaSums: laid · ShaParts: laid · ShaKept: laid · ShaChain: laid · MacTags: laid · MacMade: laid · MacKeys: laid · MacKept: laid · MacFits: laid · MacOwn: laid · PassSeals: laid · PassOld: laid · PassTickets: laid · PassTokens: laid · PassOthers: laid · PassBack: laid · PassNil: laid.
  DERIVED. THE GIVEN ROWS OF THIS SEAT. 18 by the template 'for every input the law returns true; each argument reads behind the call as it read before'; 0 by the template 'total and deterministic' (their statements: YtpigkgnmegpddaaDoorTotals.lean).
  GIVEN WITH THE SEED: the statements are not yours to turn. If you find one false, say at which input.
  Laid BY PROGRAM, IN A SANDBOX (cutbox-rows.mjs): the forced cells as the released guide's own fill.sh prints them over the translation ab46889059b34a27… (all of the seat's roots in one cut). By AI agents, Wed Nov 11 2026. No macro, syntax, notation, axiom, sorry.
-/
import Derived.Test.YtpigkgnmegpddaaDoorChecked
import GoSem.Claim
import GoSem.ClaimJoined
import GoSem.ClaimMapViews
import Derived.JoinedTies
import Derived.KernelRfl
namespace Go.Proofs.YtpigkgnmegpddaaDoor
/- THE CELL 'sum', in the pinned program and in every row, IS THE sha256 OF THE DUMP (.gsa) THAT YtpigkgnmegpddaaDoorProg.lean LOADS. Nothing in Lean hashes anything: it is a label: what it is worth is what the hold of that sum in a sandbox is worth. -/
noncomputable def Tryd.pinned : Pinned := { name := "ytpigkgnmegpddaadoor", sum := "ab46889059b34a2782bfc005839061c5d19c8276176093d96b84d2845003ebde", checked := Tryd.checked }
namespace Rows
def none {H : Type} : Left H := { results := [], args := [] }

/- WHAT THE LISTED PACKAGE-LEVEL VARIABLES READ AS WHEN THE CALL BEGINS. Each datum BY PROGRAM (the guide's laid-datum.mjs) off the statement by which the dump's own 'gosem.cut.vars' lays the variable. In a bare row this is a premise. The card (YtpigkgnmegpddaaDoorCards.lean) ties it to the program's text. -/
def laid_tiltyard_sha_first {H : Type} : DataW H := .agg [.lit (.int .u32 1779033703), .lit (.int .u32 3144134277), .lit (.int .u32 1013904242), .lit (.int .u32 2773480762), .lit (.int .u32 1359893119), .lit (.int .u32 2600822924), .lit (.int .u32 528734635), .lit (.int .u32 1541459225)]
def laid_tiltyard_sha_rounds {H : Type} : DataW H := .agg [.lit (.int .u32 1116352408), .lit (.int .u32 1899447441), .lit (.int .u32 3049323471), .lit (.int .u32 3921009573), .lit (.int .u32 961987163), .lit (.int .u32 1508970993), .lit (.int .u32 2453635748), .lit (.int .u32 2870763221), .lit (.int .u32 3624381080), .lit (.int .u32 310598401), .lit (.int .u32 607225278), .lit (.int .u32 1426881987), .lit (.int .u32 1925078388), .lit (.int .u32 2162078206), .lit (.int .u32 2614888103), .lit (.int .u32 3248222580), .lit (.int .u32 3835390401), .lit (.int .u32 4022224774), .lit (.int .u32 264347078), .lit (.int .u32 604807628), .lit (.int .u32 770255983), .lit (.int .u32 1249150122), .lit (.int .u32 1555081692), .lit (.int .u32 1996064986), .lit (.int .u32 2554220882), .lit (.int .u32 2821834349), .lit (.int .u32 2952996808), .lit (.int .u32 3210313671), .lit (.int .u32 3336571891), .lit (.int .u32 3584528711), .lit (.int .u32 113926993), .lit (.int .u32 338241895), .lit (.int .u32 666307205), .lit (.int .u32 773529912), .lit (.int .u32 1294757372), .lit (.int .u32 1396182291), .lit (.int .u32 1695183700), .lit (.int .u32 1986661051), .lit (.int .u32 2177026350), .lit (.int .u32 2456956037), .lit (.int .u32 2730485921), .lit (.int .u32 2820302411), .lit (.int .u32 3259730800), .lit (.int .u32 3345764771), .lit (.int .u32 3516065817), .lit (.int .u32 3600352804), .lit (.int .u32 4094571909), .lit (.int .u32 275423344), .lit (.int .u32 430227734), .lit (.int .u32 506948616), .lit (.int .u32 659060556), .lit (.int .u32 883997877), .lit (.int .u32 958139571), .lit (.int .u32 1322822218), .lit (.int .u32 1537002063), .lit (.int .u32 1747873779), .lit (.int .u32 1955562222), .lit (.int .u32 2024104815), .lit (.int .u32 2227730452), .lit (.int .u32 2361852424), .lit (.int .u32 2428436474), .lit (.int .u32 2756734187), .lit (.int .u32 3204031479), .lit (.int .u32 3329325298)]

/-- 'tiltyardlaw02.ShaSteps': WHATEVER THE INPUT: true; the input reads as it did. -/
def shaStepsSpec : ChangeSpec := { name := "shaSteps", fn := fun _ => fun
  | [d1, d2] => { results := [.lit (.bool true)], args := [d1, d2] }
  | _ => none }
def shaStepsRow : OpenClaim := { program := "ytpigkgnmegpddaadoor", sum := "ab46889059b34a2782bfc005839061c5d19c8276176093d96b84d2845003ebde", func := "tiltyard/tiltyardlaw02.ShaSteps", spec := "shaSteps", named := ["tiltyard/sha.rounds", "tiltyard/sha.first"], apart := false, laid := [("tiltyard/sha.first", laid_tiltyard_sha_first), ("tiltyard/sha.rounds", laid_tiltyard_sha_rounds)] }
def ShaStepsSaid : Prop := shaStepsRow.holds Tryd.pinned (OpenSpec.ofChange shaStepsSpec)

/-- ITS FALSE NEIGHBOUR: 'it returns false'. Refute it at one input. -/
def shaStepsWrong : ChangeSpec := { name := "shaSteps", fn := fun _ => fun
  | [d1, d2] => { results := [.lit (.bool false)], args := [d1, d2] }
  | _ => none }
def ShaStepsWrongFalsely : Prop := shaStepsRow.holds Tryd.pinned (OpenSpec.ofChange shaStepsWrong)

/-- 'tiltyardlaw02.ShaSums': WHATEVER THE INPUT: true; the input reads as it did. -/
def shaSumsSpec : ChangeSpec := { name := "shaSums", fn := fun _ => fun
  | [d] => { results := [.lit (.bool true)], args := [d] }
  | _ => none }
def shaSumsRow : OpenClaim := { program := "ytpigkgnmegpddaadoor", sum := "ab46889059b34a2782bfc005839061c5d19c8276176093d96b84d2845003ebde", func := "tiltyard/tiltyardlaw02.ShaSums", spec := "shaSums", named := ["tiltyard/sha.first", "tiltyard/sha.rounds"], apart := false, laid := [("tiltyard/sha.first", laid_tiltyard_sha_first), ("tiltyard/sha.rounds", laid_tiltyard_sha_rounds)] }
def ShaSumsSaid : Prop := shaSumsRow.holds Tryd.pinned (OpenSpec.ofChange shaSumsSpec)

/-- ITS FALSE NEIGHBOUR: 'it returns false'. Refute it at one input. -/
def shaSumsWrong : ChangeSpec := { name := "shaSums", fn := fun _ => fun
  | [d] => { results := [.lit (.bool false)], args := [d] }
  | _ => none }
def ShaSumsWrongFalsely : Prop := shaSumsRow.holds Tryd.pinned (OpenSpec.ofChange shaSumsWrong)

/-- 'tiltyardlaw02.ShaParts': WHATEVER THE INPUT: true; the input reads as it did. -/
def shaPartsSpec : ChangeSpec := { name := "shaParts", fn := fun _ => fun
  | [d] => { results := [.lit (.bool true)], args := [d] }
  | _ => none }
def shaPartsRow : OpenClaim := { program := "ytpigkgnmegpddaadoor", sum := "ab46889059b34a2782bfc005839061c5d19c8276176093d96b84d2845003ebde", func := "tiltyard/tiltyardlaw02.ShaParts", spec := "shaParts", named := ["tiltyard/sha.first", "tiltyard/sha.rounds"], apart := false, laid := [("tiltyard/sha.first", laid_tiltyard_sha_first), ("tiltyard/sha.rounds", laid_tiltyard_sha_rounds)] }
def ShaPartsSaid : Prop := shaPartsRow.holds Tryd.pinned (OpenSpec.ofChange shaPartsSpec)

/-- ITS FALSE NEIGHBOUR: 'it returns false'. Refute it at one input. -/
def shaPartsWrong : ChangeSpec := { name := "shaParts", fn := fun _ => fun
  | [d] => { results := [.lit (.bool false)], args := [d] }
  | _ => none }
def ShaPartsWrongFalsely : Prop := shaPartsRow.holds Tryd.pinned (OpenSpec.ofChange shaPartsWrong)

/-- 'tiltyardlaw02.ShaKept': WHATEVER THE INPUT: true; the input reads as it did. -/
def shaKeptSpec : ChangeSpec := { name := "shaKept", fn := fun _ => fun
  | [d] => { results := [.lit (.bool true)], args := [d] }
  | _ => none }
def shaKeptRow : OpenClaim := { program := "ytpigkgnmegpddaadoor", sum := "ab46889059b34a2782bfc005839061c5d19c8276176093d96b84d2845003ebde", func := "tiltyard/tiltyardlaw02.ShaKept", spec := "shaKept", named := ["tiltyard/sha.first", "tiltyard/sha.rounds"], apart := false, laid := [("tiltyard/sha.first", laid_tiltyard_sha_first), ("tiltyard/sha.rounds", laid_tiltyard_sha_rounds)] }
def ShaKeptSaid : Prop := shaKeptRow.holds Tryd.pinned (OpenSpec.ofChange shaKeptSpec)

/-- ITS FALSE NEIGHBOUR: 'it returns false'. Refute it at one input. -/
def shaKeptWrong : ChangeSpec := { name := "shaKept", fn := fun _ => fun
  | [d] => { results := [.lit (.bool false)], args := [d] }
  | _ => none }
def ShaKeptWrongFalsely : Prop := shaKeptRow.holds Tryd.pinned (OpenSpec.ofChange shaKeptWrong)

/-- 'tiltyardlaw02.ShaChain': WHATEVER THE INPUT: true; the input reads as it did. -/
def shaChainSpec : ChangeSpec := { name := "shaChain", fn := fun _ => fun
  | [d] => { results := [.lit (.bool true)], args := [d] }
  | _ => none }
def shaChainRow : OpenClaim := { program := "ytpigkgnmegpddaadoor", sum := "ab46889059b34a2782bfc005839061c5d19c8276176093d96b84d2845003ebde", func := "tiltyard/tiltyardlaw02.ShaChain", spec := "shaChain", named := ["tiltyard/sha.rounds", "tiltyard/sha.first"], apart := false, laid := [("tiltyard/sha.first", laid_tiltyard_sha_first), ("tiltyard/sha.rounds", laid_tiltyard_sha_rounds)] }
def ShaChainSaid : Prop := shaChainRow.holds Tryd.pinned (OpenSpec.ofChange shaChainSpec)

/-- ITS FALSE NEIGHBOUR: 'it returns false'. Refute it at one input. -/
def shaChainWrong : ChangeSpec := { name := "shaChain", fn := fun _ => fun
  | [d] => { results := [.lit (.bool false)], args := [d] }
  | _ => none }
def ShaChainWrongFalsely : Prop := shaChainRow.holds Tryd.pinned (OpenSpec.ofChange shaChainWrong)

/-- 'tiltyardlaw03.MacTags': WHATEVER THE INPUT: true; the input reads as it did. -/
def macTagsSpec : ChangeSpec := { name := "macTags", fn := fun _ => fun
  | [d1, d2] => { results := [.lit (.bool true)], args := [d1, d2] }
  | _ => none }
def macTagsRow : OpenClaim := { program := "ytpigkgnmegpddaadoor", sum := "ab46889059b34a2782bfc005839061c5d19c8276176093d96b84d2845003ebde", func := "tiltyard/tiltyardlaw03.MacTags", spec := "macTags", named := ["tiltyard/sha.first", "tiltyard/sha.rounds"], apart := false, laid := [("tiltyard/sha.first", laid_tiltyard_sha_first), ("tiltyard/sha.rounds", laid_tiltyard_sha_rounds)] }
def MacTagsSaid : Prop := macTagsRow.holds Tryd.pinned (OpenSpec.ofChange macTagsSpec)

/-- ITS FALSE NEIGHBOUR: 'it returns false'. Refute it at one input. -/
def macTagsWrong : ChangeSpec := { name := "macTags", fn := fun _ => fun
  | [d1, d2] => { results := [.lit (.bool false)], args := [d1, d2] }
  | _ => none }
def MacTagsWrongFalsely : Prop := macTagsRow.holds Tryd.pinned (OpenSpec.ofChange macTagsWrong)

/-- 'tiltyardlaw03.MacMade': WHATEVER THE INPUT: true; the input reads as it did. -/
def macMadeSpec : ChangeSpec := { name := "macMade", fn := fun _ => fun
  | [d1, d2] => { results := [.lit (.bool true)], args := [d1, d2] }
  | _ => none }
def macMadeRow : OpenClaim := { program := "ytpigkgnmegpddaadoor", sum := "ab46889059b34a2782bfc005839061c5d19c8276176093d96b84d2845003ebde", func := "tiltyard/tiltyardlaw03.MacMade", spec := "macMade", named := ["tiltyard/sha.first", "tiltyard/sha.rounds"], apart := false, laid := [("tiltyard/sha.first", laid_tiltyard_sha_first), ("tiltyard/sha.rounds", laid_tiltyard_sha_rounds)] }
def MacMadeSaid : Prop := macMadeRow.holds Tryd.pinned (OpenSpec.ofChange macMadeSpec)

/-- ITS FALSE NEIGHBOUR: 'it returns false'. Refute it at one input. -/
def macMadeWrong : ChangeSpec := { name := "macMade", fn := fun _ => fun
  | [d1, d2] => { results := [.lit (.bool false)], args := [d1, d2] }
  | _ => none }
def MacMadeWrongFalsely : Prop := macMadeRow.holds Tryd.pinned (OpenSpec.ofChange macMadeWrong)

/-- 'tiltyardlaw03.MacKeys': WHATEVER THE INPUT: true; the input reads as it did. -/
def macKeysSpec : ChangeSpec := { name := "macKeys", fn := fun _ => fun
  | [d1, d2] => { results := [.lit (.bool true)], args := [d1, d2] }
  | _ => none }
def macKeysRow : OpenClaim := { program := "ytpigkgnmegpddaadoor", sum := "ab46889059b34a2782bfc005839061c5d19c8276176093d96b84d2845003ebde", func := "tiltyard/tiltyardlaw03.MacKeys", spec := "macKeys", named := ["tiltyard/sha.first", "tiltyard/sha.rounds"], apart := false, laid := [("tiltyard/sha.first", laid_tiltyard_sha_first), ("tiltyard/sha.rounds", laid_tiltyard_sha_rounds)] }
def MacKeysSaid : Prop := macKeysRow.holds Tryd.pinned (OpenSpec.ofChange macKeysSpec)

/-- ITS FALSE NEIGHBOUR: 'it returns false'. Refute it at one input. -/
def macKeysWrong : ChangeSpec := { name := "macKeys", fn := fun _ => fun
  | [d1, d2] => { results := [.lit (.bool false)], args := [d1, d2] }
  | _ => none }
def MacKeysWrongFalsely : Prop := macKeysRow.holds Tryd.pinned (OpenSpec.ofChange macKeysWrong)

/-- 'tiltyardlaw03.MacKept': WHATEVER THE INPUT: true; the input reads as it did. -/
def macKeptSpec : ChangeSpec := { name := "macKept", fn := fun _ => fun
  | [d1, d2] => { results := [.lit (.bool true)], args := [d1, d2] }
  | _ => none }
def macKeptRow : OpenClaim := { program := "ytpigkgnmegpddaadoor", sum := "ab46889059b34a2782bfc005839061c5d19c8276176093d96b84d2845003ebde", func := "tiltyard/tiltyardlaw03.MacKept", spec := "macKept", named := ["tiltyard/sha.first", "tiltyard/sha.rounds"], apart := false, laid := [("tiltyard/sha.first", laid_tiltyard_sha_first), ("tiltyard/sha.rounds", laid_tiltyard_sha_rounds)] }
def MacKeptSaid : Prop := macKeptRow.holds Tryd.pinned (OpenSpec.ofChange macKeptSpec)

/-- ITS FALSE NEIGHBOUR: 'it returns false'. Refute it at one input. -/
def macKeptWrong : ChangeSpec := { name := "macKept", fn := fun _ => fun
  | [d1, d2] => { results := [.lit (.bool false)], args := [d1, d2] }
  | _ => none }
def MacKeptWrongFalsely : Prop := macKeptRow.holds Tryd.pinned (OpenSpec.ofChange macKeptWrong)

/-- 'tiltyardlaw03.MacFits': WHATEVER THE INPUT: true; the input reads as it did. -/
def macFitsSpec : ChangeSpec := { name := "macFits", fn := fun _ => fun
  | [d1, d2, d3] => { results := [.lit (.bool true)], args := [d1, d2, d3] }
  | _ => none }
def macFitsRow : OpenClaim := { program := "ytpigkgnmegpddaadoor", sum := "ab46889059b34a2782bfc005839061c5d19c8276176093d96b84d2845003ebde", func := "tiltyard/tiltyardlaw03.MacFits", spec := "macFits", named := ["tiltyard/sha.first", "tiltyard/sha.rounds"], apart := false, laid := [("tiltyard/sha.first", laid_tiltyard_sha_first), ("tiltyard/sha.rounds", laid_tiltyard_sha_rounds)] }
def MacFitsSaid : Prop := macFitsRow.holds Tryd.pinned (OpenSpec.ofChange macFitsSpec)

/-- ITS FALSE NEIGHBOUR: 'it returns false'. Refute it at one input. -/
def macFitsWrong : ChangeSpec := { name := "macFits", fn := fun _ => fun
  | [d1, d2, d3] => { results := [.lit (.bool false)], args := [d1, d2, d3] }
  | _ => none }
def MacFitsWrongFalsely : Prop := macFitsRow.holds Tryd.pinned (OpenSpec.ofChange macFitsWrong)

/-- 'tiltyardlaw03.MacOwn': WHATEVER THE INPUT: true; the input reads as it did. -/
def macOwnSpec : ChangeSpec := { name := "macOwn", fn := fun _ => fun
  | [d1, d2, d3] => { results := [.lit (.bool true)], args := [d1, d2, d3] }
  | _ => none }
def macOwnRow : OpenClaim := { program := "ytpigkgnmegpddaadoor", sum := "ab46889059b34a2782bfc005839061c5d19c8276176093d96b84d2845003ebde", func := "tiltyard/tiltyardlaw03.MacOwn", spec := "macOwn", named := ["tiltyard/sha.first", "tiltyard/sha.rounds"], apart := false, laid := [("tiltyard/sha.first", laid_tiltyard_sha_first), ("tiltyard/sha.rounds", laid_tiltyard_sha_rounds)] }
def MacOwnSaid : Prop := macOwnRow.holds Tryd.pinned (OpenSpec.ofChange macOwnSpec)

/-- ITS FALSE NEIGHBOUR: 'it returns false'. Refute it at one input. -/
def macOwnWrong : ChangeSpec := { name := "macOwn", fn := fun _ => fun
  | [d1, d2, d3] => { results := [.lit (.bool false)], args := [d1, d2, d3] }
  | _ => none }
def MacOwnWrongFalsely : Prop := macOwnRow.holds Tryd.pinned (OpenSpec.ofChange macOwnWrong)

/-- 'tiltyardlaw06.PassSeals': WHATEVER THE INPUT: true; the input reads as it did. -/
def passSealsSpec : ChangeSpec := { name := "passSeals", fn := fun _ => fun
  | [d1, d2, d3] => { results := [.lit (.bool true)], args := [d1, d2, d3] }
  | _ => none }
def passSealsRow : OpenClaim := { program := "ytpigkgnmegpddaadoor", sum := "ab46889059b34a2782bfc005839061c5d19c8276176093d96b84d2845003ebde", func := "tiltyard/tiltyardlaw06.PassSeals", spec := "passSeals", named := ["tiltyard/sha.first", "tiltyard/sha.rounds"], apart := false, laid := [("tiltyard/sha.first", laid_tiltyard_sha_first), ("tiltyard/sha.rounds", laid_tiltyard_sha_rounds)] }
def PassSealsSaid : Prop := passSealsRow.holds Tryd.pinned (OpenSpec.ofChange passSealsSpec)

/-- ITS FALSE NEIGHBOUR: 'it returns false'. Refute it at one input. -/
def passSealsWrong : ChangeSpec := { name := "passSeals", fn := fun _ => fun
  | [d1, d2, d3] => { results := [.lit (.bool false)], args := [d1, d2, d3] }
  | _ => none }
def PassSealsWrongFalsely : Prop := passSealsRow.holds Tryd.pinned (OpenSpec.ofChange passSealsWrong)

/-- 'tiltyardlaw06.PassOld': WHATEVER THE INPUT: true; the input reads as it did. -/
def passOldSpec : ChangeSpec := { name := "passOld", fn := fun _ => fun
  | [d1, d2, d3] => { results := [.lit (.bool true)], args := [d1, d2, d3] }
  | _ => none }
def passOldRow : OpenClaim := { program := "ytpigkgnmegpddaadoor", sum := "ab46889059b34a2782bfc005839061c5d19c8276176093d96b84d2845003ebde", func := "tiltyard/tiltyardlaw06.PassOld", spec := "passOld", named := ["tiltyard/sha.first", "tiltyard/sha.rounds"], apart := false, laid := [("tiltyard/sha.first", laid_tiltyard_sha_first), ("tiltyard/sha.rounds", laid_tiltyard_sha_rounds)] }
def PassOldSaid : Prop := passOldRow.holds Tryd.pinned (OpenSpec.ofChange passOldSpec)

/-- ITS FALSE NEIGHBOUR: 'it returns false'. Refute it at one input. -/
def passOldWrong : ChangeSpec := { name := "passOld", fn := fun _ => fun
  | [d1, d2, d3] => { results := [.lit (.bool false)], args := [d1, d2, d3] }
  | _ => none }
def PassOldWrongFalsely : Prop := passOldRow.holds Tryd.pinned (OpenSpec.ofChange passOldWrong)

/-- 'tiltyardlaw06.PassTickets': WHATEVER THE INPUT: true; the input reads as it did. -/
def passTicketsSpec : ChangeSpec := { name := "passTickets", fn := fun _ => fun
  | [d1, d2] => { results := [.lit (.bool true)], args := [d1, d2] }
  | _ => none }
def passTicketsRow : OpenClaim := { program := "ytpigkgnmegpddaadoor", sum := "ab46889059b34a2782bfc005839061c5d19c8276176093d96b84d2845003ebde", func := "tiltyard/tiltyardlaw06.PassTickets", spec := "passTickets", named := ["tiltyard/sha.first", "tiltyard/sha.rounds"], apart := false, laid := [("tiltyard/sha.first", laid_tiltyard_sha_first), ("tiltyard/sha.rounds", laid_tiltyard_sha_rounds)] }
def PassTicketsSaid : Prop := passTicketsRow.holds Tryd.pinned (OpenSpec.ofChange passTicketsSpec)

/-- ITS FALSE NEIGHBOUR: 'it returns false'. Refute it at one input. -/
def passTicketsWrong : ChangeSpec := { name := "passTickets", fn := fun _ => fun
  | [d1, d2] => { results := [.lit (.bool false)], args := [d1, d2] }
  | _ => none }
def PassTicketsWrongFalsely : Prop := passTicketsRow.holds Tryd.pinned (OpenSpec.ofChange passTicketsWrong)

/-- 'tiltyardlaw06.PassTokens': WHATEVER THE INPUT: true; the input reads as it did. -/
def passTokensSpec : ChangeSpec := { name := "passTokens", fn := fun _ => fun
  | [d1, d2] => { results := [.lit (.bool true)], args := [d1, d2] }
  | _ => none }
def passTokensRow : OpenClaim := { program := "ytpigkgnmegpddaadoor", sum := "ab46889059b34a2782bfc005839061c5d19c8276176093d96b84d2845003ebde", func := "tiltyard/tiltyardlaw06.PassTokens", spec := "passTokens", named := ["tiltyard/sha.first", "tiltyard/sha.rounds"], apart := false, laid := [("tiltyard/sha.first", laid_tiltyard_sha_first), ("tiltyard/sha.rounds", laid_tiltyard_sha_rounds)] }
def PassTokensSaid : Prop := passTokensRow.holds Tryd.pinned (OpenSpec.ofChange passTokensSpec)

/-- ITS FALSE NEIGHBOUR: 'it returns false'. Refute it at one input. -/
def passTokensWrong : ChangeSpec := { name := "passTokens", fn := fun _ => fun
  | [d1, d2] => { results := [.lit (.bool false)], args := [d1, d2] }
  | _ => none }
def PassTokensWrongFalsely : Prop := passTokensRow.holds Tryd.pinned (OpenSpec.ofChange passTokensWrong)

/-- 'tiltyardlaw06.PassOthers': WHATEVER THE INPUT: true; the input reads as it did. -/
def passOthersSpec : ChangeSpec := { name := "passOthers", fn := fun _ => fun
  | [d1, d2, d3] => { results := [.lit (.bool true)], args := [d1, d2, d3] }
  | _ => none }
def passOthersRow : OpenClaim := { program := "ytpigkgnmegpddaadoor", sum := "ab46889059b34a2782bfc005839061c5d19c8276176093d96b84d2845003ebde", func := "tiltyard/tiltyardlaw06.PassOthers", spec := "passOthers", named := ["tiltyard/sha.first", "tiltyard/sha.rounds"], apart := false, laid := [("tiltyard/sha.first", laid_tiltyard_sha_first), ("tiltyard/sha.rounds", laid_tiltyard_sha_rounds)] }
def PassOthersSaid : Prop := passOthersRow.holds Tryd.pinned (OpenSpec.ofChange passOthersSpec)

/-- ITS FALSE NEIGHBOUR: 'it returns false'. Refute it at one input. -/
def passOthersWrong : ChangeSpec := { name := "passOthers", fn := fun _ => fun
  | [d1, d2, d3] => { results := [.lit (.bool false)], args := [d1, d2, d3] }
  | _ => none }
def PassOthersWrongFalsely : Prop := passOthersRow.holds Tryd.pinned (OpenSpec.ofChange passOthersWrong)

/-- 'tiltyardlaw06.PassBack': WHATEVER THE INPUT: true; the input reads as it did. -/
def passBackSpec : ChangeSpec := { name := "passBack", fn := fun _ => fun
  | [d1, d2, d3] => { results := [.lit (.bool true)], args := [d1, d2, d3] }
  | _ => none }
def passBackRow : OpenClaim := { program := "ytpigkgnmegpddaadoor", sum := "ab46889059b34a2782bfc005839061c5d19c8276176093d96b84d2845003ebde", func := "tiltyard/tiltyardlaw06.PassBack", spec := "passBack", named := ["tiltyard/sha.first", "tiltyard/sha.rounds"], apart := false, laid := [("tiltyard/sha.first", laid_tiltyard_sha_first), ("tiltyard/sha.rounds", laid_tiltyard_sha_rounds)] }
def PassBackSaid : Prop := passBackRow.holds Tryd.pinned (OpenSpec.ofChange passBackSpec)

/-- ITS FALSE NEIGHBOUR: 'it returns false'. Refute it at one input. -/
def passBackWrong : ChangeSpec := { name := "passBack", fn := fun _ => fun
  | [d1, d2, d3] => { results := [.lit (.bool false)], args := [d1, d2, d3] }
  | _ => none }
def PassBackWrongFalsely : Prop := passBackRow.holds Tryd.pinned (OpenSpec.ofChange passBackWrong)

/-- 'tiltyardlaw06.PassNil': WHATEVER THE INPUT: true; the input reads as it did. -/
def passNilSpec : ChangeSpec := { name := "passNil", fn := fun _ => fun
  | [d1, d2, d3] => { results := [.lit (.bool true)], args := [d1, d2, d3] }
  | _ => none }
def passNilRow : OpenClaim := { program := "ytpigkgnmegpddaadoor", sum := "ab46889059b34a2782bfc005839061c5d19c8276176093d96b84d2845003ebde", func := "tiltyard/tiltyardlaw06.PassNil", spec := "passNil", named := ["tiltyard/sha.first", "tiltyard/sha.rounds"], apart := false, laid := [("tiltyard/sha.first", laid_tiltyard_sha_first), ("tiltyard/sha.rounds", laid_tiltyard_sha_rounds)] }
def PassNilSaid : Prop := passNilRow.holds Tryd.pinned (OpenSpec.ofChange passNilSpec)

/-- ITS FALSE NEIGHBOUR: 'it returns false'. Refute it at one input. -/
def passNilWrong : ChangeSpec := { name := "passNil", fn := fun _ => fun
  | [d1, d2, d3] => { results := [.lit (.bool false)], args := [d1, d2, d3] }
  | _ => none }
def PassNilWrongFalsely : Prop := passNilRow.holds Tryd.pinned (OpenSpec.ofChange passNilWrong)

/- THE SECOND FORM. 'bulk': how many values and letters a reading holds, each counted each time it is reached (what is shared counts as often as it is met; a slice's spare places count too). A statement '..UptoSaid' is the law's where the arguments, and the package variables that the reading takes, are together of bulk at most 1048576: NARROWER than '..Said'. Prove '..Said' where nothing that the law and all that it calls make is longer than what came in: it says more and counts as full. Else prove '..UptoSaid'. A law counts once. -/
mutual
def uptoBulk {H : Type} : DataW H → Nat
  | .lit (.string bytes) => bytes.length + 1
  | .lit _ => 1
  | .nil => 1
  | .ptr d => uptoBulk d + 1
  | .slice elems spare => uptoBulkAll elems + uptoBulkAll spare + 1
  | .agg parts => uptoBulkAll parts + 1
  | .iface _ d => uptoBulk d + 1
  | .map entries => uptoBulkEntries entries + 1
  | .held _ => 1
def uptoBulkAll {H : Type} : List (DataW H) → Nat
  | [] => 0
  | d :: r => uptoBulk d + uptoBulkAll r
def uptoBulkEntries {H : Type} : List (Lit × DataW H) → Nat
  | [] => 0
  | x :: r => uptoBulkEntry x + uptoBulkEntries r
def uptoBulkEntry {H : Type} : Lit × DataW H → Nat
  | (.string bytes, d) => bytes.length + uptoBulk d + 1
  | (_, d) => uptoBulk d + 1
 end
def uptoSmall : (H : Type) → List (DataW H) → Bool := fun _ ds => decide (uptoBulkAll ds ≤ 1048576)
def OpenSpec.upto (s : _root_.Go.ChangeSpec) : _root_.Go.OpenSpec := { _root_.Go.OpenSpec.ofChange s with cond := some uptoSmall }

/-- 'tiltyardlaw02.ShaSteps', WHERE WHAT IT READS IS OF BULK AT MOST 1048576: true; the input reads as it did. -/
def shaStepsUptoRow : OpenClaim := { program := "ytpigkgnmegpddaadoor", sum := "ab46889059b34a2782bfc005839061c5d19c8276176093d96b84d2845003ebde", func := "tiltyard/tiltyardlaw02.ShaSteps", spec := "shaSteps", named := ["tiltyard/sha.rounds", "tiltyard/sha.first"], apart := false, laid := [("tiltyard/sha.first", laid_tiltyard_sha_first), ("tiltyard/sha.rounds", laid_tiltyard_sha_rounds)], narrowed := true }
def ShaStepsUptoSaid : Prop := shaStepsUptoRow.holds Tryd.pinned (OpenSpec.upto shaStepsSpec)

/-- 'tiltyardlaw02.ShaSums', WHERE WHAT IT READS IS OF BULK AT MOST 1048576: true; the input reads as it did. -/
def shaSumsUptoRow : OpenClaim := { program := "ytpigkgnmegpddaadoor", sum := "ab46889059b34a2782bfc005839061c5d19c8276176093d96b84d2845003ebde", func := "tiltyard/tiltyardlaw02.ShaSums", spec := "shaSums", named := ["tiltyard/sha.first", "tiltyard/sha.rounds"], apart := false, laid := [("tiltyard/sha.first", laid_tiltyard_sha_first), ("tiltyard/sha.rounds", laid_tiltyard_sha_rounds)], narrowed := true }
def ShaSumsUptoSaid : Prop := shaSumsUptoRow.holds Tryd.pinned (OpenSpec.upto shaSumsSpec)

/-- 'tiltyardlaw02.ShaParts', WHERE WHAT IT READS IS OF BULK AT MOST 1048576: true; the input reads as it did. -/
def shaPartsUptoRow : OpenClaim := { program := "ytpigkgnmegpddaadoor", sum := "ab46889059b34a2782bfc005839061c5d19c8276176093d96b84d2845003ebde", func := "tiltyard/tiltyardlaw02.ShaParts", spec := "shaParts", named := ["tiltyard/sha.first", "tiltyard/sha.rounds"], apart := false, laid := [("tiltyard/sha.first", laid_tiltyard_sha_first), ("tiltyard/sha.rounds", laid_tiltyard_sha_rounds)], narrowed := true }
def ShaPartsUptoSaid : Prop := shaPartsUptoRow.holds Tryd.pinned (OpenSpec.upto shaPartsSpec)

/-- 'tiltyardlaw02.ShaKept', WHERE WHAT IT READS IS OF BULK AT MOST 1048576: true; the input reads as it did. -/
def shaKeptUptoRow : OpenClaim := { program := "ytpigkgnmegpddaadoor", sum := "ab46889059b34a2782bfc005839061c5d19c8276176093d96b84d2845003ebde", func := "tiltyard/tiltyardlaw02.ShaKept", spec := "shaKept", named := ["tiltyard/sha.first", "tiltyard/sha.rounds"], apart := false, laid := [("tiltyard/sha.first", laid_tiltyard_sha_first), ("tiltyard/sha.rounds", laid_tiltyard_sha_rounds)], narrowed := true }
def ShaKeptUptoSaid : Prop := shaKeptUptoRow.holds Tryd.pinned (OpenSpec.upto shaKeptSpec)

/-- 'tiltyardlaw02.ShaChain', WHERE WHAT IT READS IS OF BULK AT MOST 1048576: true; the input reads as it did. -/
def shaChainUptoRow : OpenClaim := { program := "ytpigkgnmegpddaadoor", sum := "ab46889059b34a2782bfc005839061c5d19c8276176093d96b84d2845003ebde", func := "tiltyard/tiltyardlaw02.ShaChain", spec := "shaChain", named := ["tiltyard/sha.rounds", "tiltyard/sha.first"], apart := false, laid := [("tiltyard/sha.first", laid_tiltyard_sha_first), ("tiltyard/sha.rounds", laid_tiltyard_sha_rounds)], narrowed := true }
def ShaChainUptoSaid : Prop := shaChainUptoRow.holds Tryd.pinned (OpenSpec.upto shaChainSpec)

/-- 'tiltyardlaw03.MacTags', WHERE WHAT IT READS IS OF BULK AT MOST 1048576: true; the input reads as it did. -/
def macTagsUptoRow : OpenClaim := { program := "ytpigkgnmegpddaadoor", sum := "ab46889059b34a2782bfc005839061c5d19c8276176093d96b84d2845003ebde", func := "tiltyard/tiltyardlaw03.MacTags", spec := "macTags", named := ["tiltyard/sha.first", "tiltyard/sha.rounds"], apart := false, laid := [("tiltyard/sha.first", laid_tiltyard_sha_first), ("tiltyard/sha.rounds", laid_tiltyard_sha_rounds)], narrowed := true }
def MacTagsUptoSaid : Prop := macTagsUptoRow.holds Tryd.pinned (OpenSpec.upto macTagsSpec)

/-- 'tiltyardlaw03.MacMade', WHERE WHAT IT READS IS OF BULK AT MOST 1048576: true; the input reads as it did. -/
def macMadeUptoRow : OpenClaim := { program := "ytpigkgnmegpddaadoor", sum := "ab46889059b34a2782bfc005839061c5d19c8276176093d96b84d2845003ebde", func := "tiltyard/tiltyardlaw03.MacMade", spec := "macMade", named := ["tiltyard/sha.first", "tiltyard/sha.rounds"], apart := false, laid := [("tiltyard/sha.first", laid_tiltyard_sha_first), ("tiltyard/sha.rounds", laid_tiltyard_sha_rounds)], narrowed := true }
def MacMadeUptoSaid : Prop := macMadeUptoRow.holds Tryd.pinned (OpenSpec.upto macMadeSpec)

/-- 'tiltyardlaw03.MacKeys', WHERE WHAT IT READS IS OF BULK AT MOST 1048576: true; the input reads as it did. -/
def macKeysUptoRow : OpenClaim := { program := "ytpigkgnmegpddaadoor", sum := "ab46889059b34a2782bfc005839061c5d19c8276176093d96b84d2845003ebde", func := "tiltyard/tiltyardlaw03.MacKeys", spec := "macKeys", named := ["tiltyard/sha.first", "tiltyard/sha.rounds"], apart := false, laid := [("tiltyard/sha.first", laid_tiltyard_sha_first), ("tiltyard/sha.rounds", laid_tiltyard_sha_rounds)], narrowed := true }
def MacKeysUptoSaid : Prop := macKeysUptoRow.holds Tryd.pinned (OpenSpec.upto macKeysSpec)

/-- 'tiltyardlaw03.MacKept', WHERE WHAT IT READS IS OF BULK AT MOST 1048576: true; the input reads as it did. -/
def macKeptUptoRow : OpenClaim := { program := "ytpigkgnmegpddaadoor", sum := "ab46889059b34a2782bfc005839061c5d19c8276176093d96b84d2845003ebde", func := "tiltyard/tiltyardlaw03.MacKept", spec := "macKept", named := ["tiltyard/sha.first", "tiltyard/sha.rounds"], apart := false, laid := [("tiltyard/sha.first", laid_tiltyard_sha_first), ("tiltyard/sha.rounds", laid_tiltyard_sha_rounds)], narrowed := true }
def MacKeptUptoSaid : Prop := macKeptUptoRow.holds Tryd.pinned (OpenSpec.upto macKeptSpec)

/-- 'tiltyardlaw03.MacFits', WHERE WHAT IT READS IS OF BULK AT MOST 1048576: true; the input reads as it did. -/
def macFitsUptoRow : OpenClaim := { program := "ytpigkgnmegpddaadoor", sum := "ab46889059b34a2782bfc005839061c5d19c8276176093d96b84d2845003ebde", func := "tiltyard/tiltyardlaw03.MacFits", spec := "macFits", named := ["tiltyard/sha.first", "tiltyard/sha.rounds"], apart := false, laid := [("tiltyard/sha.first", laid_tiltyard_sha_first), ("tiltyard/sha.rounds", laid_tiltyard_sha_rounds)], narrowed := true }
def MacFitsUptoSaid : Prop := macFitsUptoRow.holds Tryd.pinned (OpenSpec.upto macFitsSpec)

/-- 'tiltyardlaw03.MacOwn', WHERE WHAT IT READS IS OF BULK AT MOST 1048576: true; the input reads as it did. -/
def macOwnUptoRow : OpenClaim := { program := "ytpigkgnmegpddaadoor", sum := "ab46889059b34a2782bfc005839061c5d19c8276176093d96b84d2845003ebde", func := "tiltyard/tiltyardlaw03.MacOwn", spec := "macOwn", named := ["tiltyard/sha.first", "tiltyard/sha.rounds"], apart := false, laid := [("tiltyard/sha.first", laid_tiltyard_sha_first), ("tiltyard/sha.rounds", laid_tiltyard_sha_rounds)], narrowed := true }
def MacOwnUptoSaid : Prop := macOwnUptoRow.holds Tryd.pinned (OpenSpec.upto macOwnSpec)

/-- 'tiltyardlaw06.PassSeals', WHERE WHAT IT READS IS OF BULK AT MOST 1048576: true; the input reads as it did. -/
def passSealsUptoRow : OpenClaim := { program := "ytpigkgnmegpddaadoor", sum := "ab46889059b34a2782bfc005839061c5d19c8276176093d96b84d2845003ebde", func := "tiltyard/tiltyardlaw06.PassSeals", spec := "passSeals", named := ["tiltyard/sha.first", "tiltyard/sha.rounds"], apart := false, laid := [("tiltyard/sha.first", laid_tiltyard_sha_first), ("tiltyard/sha.rounds", laid_tiltyard_sha_rounds)], narrowed := true }
def PassSealsUptoSaid : Prop := passSealsUptoRow.holds Tryd.pinned (OpenSpec.upto passSealsSpec)

/-- 'tiltyardlaw06.PassOld', WHERE WHAT IT READS IS OF BULK AT MOST 1048576: true; the input reads as it did. -/
def passOldUptoRow : OpenClaim := { program := "ytpigkgnmegpddaadoor", sum := "ab46889059b34a2782bfc005839061c5d19c8276176093d96b84d2845003ebde", func := "tiltyard/tiltyardlaw06.PassOld", spec := "passOld", named := ["tiltyard/sha.first", "tiltyard/sha.rounds"], apart := false, laid := [("tiltyard/sha.first", laid_tiltyard_sha_first), ("tiltyard/sha.rounds", laid_tiltyard_sha_rounds)], narrowed := true }
def PassOldUptoSaid : Prop := passOldUptoRow.holds Tryd.pinned (OpenSpec.upto passOldSpec)

/-- 'tiltyardlaw06.PassTickets', WHERE WHAT IT READS IS OF BULK AT MOST 1048576: true; the input reads as it did. -/
def passTicketsUptoRow : OpenClaim := { program := "ytpigkgnmegpddaadoor", sum := "ab46889059b34a2782bfc005839061c5d19c8276176093d96b84d2845003ebde", func := "tiltyard/tiltyardlaw06.PassTickets", spec := "passTickets", named := ["tiltyard/sha.first", "tiltyard/sha.rounds"], apart := false, laid := [("tiltyard/sha.first", laid_tiltyard_sha_first), ("tiltyard/sha.rounds", laid_tiltyard_sha_rounds)], narrowed := true }
def PassTicketsUptoSaid : Prop := passTicketsUptoRow.holds Tryd.pinned (OpenSpec.upto passTicketsSpec)

/-- 'tiltyardlaw06.PassTokens', WHERE WHAT IT READS IS OF BULK AT MOST 1048576: true; the input reads as it did. -/
def passTokensUptoRow : OpenClaim := { program := "ytpigkgnmegpddaadoor", sum := "ab46889059b34a2782bfc005839061c5d19c8276176093d96b84d2845003ebde", func := "tiltyard/tiltyardlaw06.PassTokens", spec := "passTokens", named := ["tiltyard/sha.first", "tiltyard/sha.rounds"], apart := false, laid := [("tiltyard/sha.first", laid_tiltyard_sha_first), ("tiltyard/sha.rounds", laid_tiltyard_sha_rounds)], narrowed := true }
def PassTokensUptoSaid : Prop := passTokensUptoRow.holds Tryd.pinned (OpenSpec.upto passTokensSpec)

/-- 'tiltyardlaw06.PassOthers', WHERE WHAT IT READS IS OF BULK AT MOST 1048576: true; the input reads as it did. -/
def passOthersUptoRow : OpenClaim := { program := "ytpigkgnmegpddaadoor", sum := "ab46889059b34a2782bfc005839061c5d19c8276176093d96b84d2845003ebde", func := "tiltyard/tiltyardlaw06.PassOthers", spec := "passOthers", named := ["tiltyard/sha.first", "tiltyard/sha.rounds"], apart := false, laid := [("tiltyard/sha.first", laid_tiltyard_sha_first), ("tiltyard/sha.rounds", laid_tiltyard_sha_rounds)], narrowed := true }
def PassOthersUptoSaid : Prop := passOthersUptoRow.holds Tryd.pinned (OpenSpec.upto passOthersSpec)

/-- 'tiltyardlaw06.PassBack', WHERE WHAT IT READS IS OF BULK AT MOST 1048576: true; the input reads as it did. -/
def passBackUptoRow : OpenClaim := { program := "ytpigkgnmegpddaadoor", sum := "ab46889059b34a2782bfc005839061c5d19c8276176093d96b84d2845003ebde", func := "tiltyard/tiltyardlaw06.PassBack", spec := "passBack", named := ["tiltyard/sha.first", "tiltyard/sha.rounds"], apart := false, laid := [("tiltyard/sha.first", laid_tiltyard_sha_first), ("tiltyard/sha.rounds", laid_tiltyard_sha_rounds)], narrowed := true }
def PassBackUptoSaid : Prop := passBackUptoRow.holds Tryd.pinned (OpenSpec.upto passBackSpec)

/-- 'tiltyardlaw06.PassNil', WHERE WHAT IT READS IS OF BULK AT MOST 1048576: true; the input reads as it did. -/
def passNilUptoRow : OpenClaim := { program := "ytpigkgnmegpddaadoor", sum := "ab46889059b34a2782bfc005839061c5d19c8276176093d96b84d2845003ebde", func := "tiltyard/tiltyardlaw06.PassNil", spec := "passNil", named := ["tiltyard/sha.first", "tiltyard/sha.rounds"], apart := false, laid := [("tiltyard/sha.first", laid_tiltyard_sha_first), ("tiltyard/sha.rounds", laid_tiltyard_sha_rounds)], narrowed := true }
def PassNilUptoSaid : Prop := passNilUptoRow.holds Tryd.pinned (OpenSpec.upto passNilSpec)

end Rows
end Go.Proofs.YtpigkgnmegpddaaDoor
