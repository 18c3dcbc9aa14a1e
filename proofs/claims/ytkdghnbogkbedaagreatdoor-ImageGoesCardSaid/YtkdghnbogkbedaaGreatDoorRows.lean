/-
  NARROWER THAN 'FOR EVERY INPUT', by the rows' own cells (each row's printed sentence says how): SuperNil: laid · ImageDiffs: laid · ImageGoes: laid · VaultKeeps: laid · VaultHeads: laid · VaultCites: laid · VaultEnds: laid · VaultLasts: laid · VaultAsks: laid · VaultPlays: laid · VaultLoads: laid · VaultNil: laid.
  DERIVED. THE GIVEN ROWS OF THIS SEAT. 12 by the template 'for every input the law returns true; each argument reads behind the call as it read before'; 0 by the template 'total and deterministic' (their statements: YtkdghnbogkbedaaGreatDoorTotals.lean).
  GIVEN WITH THE SEED: the statements are not yours to turn. If you find one false, say at which input.
  Laid BY PROGRAM, IN A SANDBOX (cutbox-rows.mjs): the forced cells as the released guide's own fill.sh prints them over the translation d99b87a31666aaab… (all of the seat's roots in one cut). By AI agents, Wed Nov 11 2026. No macro, syntax, notation, axiom, sorry.
-/
import Derived.Test.YtkdghnbogkbedaaGreatDoorChecked
import GoSem.Claim
import GoSem.ClaimJoined
import GoSem.ClaimMapViews
import Derived.JoinedTies
import Derived.KernelRfl
namespace Go.Proofs.YtkdghnbogkbedaaGreatDoor
/- THE CELL 'sum', in the pinned program and in every row, IS THE sha256 OF THE DUMP (.gsa) THAT YtkdghnbogkbedaaGreatDoorProg.lean LOADS. Nothing in Lean hashes anything: it is a label: what it is worth is what the hold of that sum in a sandbox is worth. -/
noncomputable def Tryz.pinned : Pinned := { name := "ytkdghnbogkbedaagreatdoor", sum := "d99b87a31666aaab8d0101c7f20d03026152ddb80e32c590be1d4faf05a16f62", checked := Tryz.checked }
namespace Rows
def none {H : Type} : Left H := { results := [], args := [] }

/- WHAT THE LISTED PACKAGE-LEVEL VARIABLES READ AS WHEN THE CALL BEGINS. Each datum BY PROGRAM (the guide's laid-datum.mjs) off the statement by which the dump's own 'gosem.cut.vars' lays the variable. In a bare row this is a premise. The card (YtkdghnbogkbedaaGreatDoorCards.lean) ties it to the program's text. -/
def laid_scrinium_sha_keys {H : Type} : DataW H := .agg [.lit (.int .u32 1116352408), .lit (.int .u32 1899447441), .lit (.int .u32 3049323471), .lit (.int .u32 3921009573), .lit (.int .u32 961987163), .lit (.int .u32 1508970993), .lit (.int .u32 2453635748), .lit (.int .u32 2870763221), .lit (.int .u32 3624381080), .lit (.int .u32 310598401), .lit (.int .u32 607225278), .lit (.int .u32 1426881987), .lit (.int .u32 1925078388), .lit (.int .u32 2162078206), .lit (.int .u32 2614888103), .lit (.int .u32 3248222580), .lit (.int .u32 3835390401), .lit (.int .u32 4022224774), .lit (.int .u32 264347078), .lit (.int .u32 604807628), .lit (.int .u32 770255983), .lit (.int .u32 1249150122), .lit (.int .u32 1555081692), .lit (.int .u32 1996064986), .lit (.int .u32 2554220882), .lit (.int .u32 2821834349), .lit (.int .u32 2952996808), .lit (.int .u32 3210313671), .lit (.int .u32 3336571891), .lit (.int .u32 3584528711), .lit (.int .u32 113926993), .lit (.int .u32 338241895), .lit (.int .u32 666307205), .lit (.int .u32 773529912), .lit (.int .u32 1294757372), .lit (.int .u32 1396182291), .lit (.int .u32 1695183700), .lit (.int .u32 1986661051), .lit (.int .u32 2177026350), .lit (.int .u32 2456956037), .lit (.int .u32 2730485921), .lit (.int .u32 2820302411), .lit (.int .u32 3259730800), .lit (.int .u32 3345764771), .lit (.int .u32 3516065817), .lit (.int .u32 3600352804), .lit (.int .u32 4094571909), .lit (.int .u32 275423344), .lit (.int .u32 430227734), .lit (.int .u32 506948616), .lit (.int .u32 659060556), .lit (.int .u32 883997877), .lit (.int .u32 958139571), .lit (.int .u32 1322822218), .lit (.int .u32 1537002063), .lit (.int .u32 1747873779), .lit (.int .u32 1955562222), .lit (.int .u32 2024104815), .lit (.int .u32 2227730452), .lit (.int .u32 2361852424), .lit (.int .u32 2428436474), .lit (.int .u32 2756734187), .lit (.int .u32 3204031479), .lit (.int .u32 3329325298)]
def laid_math_bits_deBruijn32tab {H : Type} : DataW H := .agg [.lit (.int .u8 0), .lit (.int .u8 1), .lit (.int .u8 28), .lit (.int .u8 2), .lit (.int .u8 29), .lit (.int .u8 14), .lit (.int .u8 24), .lit (.int .u8 3), .lit (.int .u8 30), .lit (.int .u8 22), .lit (.int .u8 20), .lit (.int .u8 15), .lit (.int .u8 25), .lit (.int .u8 17), .lit (.int .u8 4), .lit (.int .u8 8), .lit (.int .u8 31), .lit (.int .u8 27), .lit (.int .u8 13), .lit (.int .u8 23), .lit (.int .u8 21), .lit (.int .u8 19), .lit (.int .u8 16), .lit (.int .u8 7), .lit (.int .u8 26), .lit (.int .u8 12), .lit (.int .u8 18), .lit (.int .u8 6), .lit (.int .u8 11), .lit (.int .u8 5), .lit (.int .u8 10), .lit (.int .u8 9)]
def laid_math_bits_deBruijn64tab {H : Type} : DataW H := .agg [.lit (.int .u8 0), .lit (.int .u8 1), .lit (.int .u8 56), .lit (.int .u8 2), .lit (.int .u8 57), .lit (.int .u8 49), .lit (.int .u8 28), .lit (.int .u8 3), .lit (.int .u8 61), .lit (.int .u8 58), .lit (.int .u8 42), .lit (.int .u8 50), .lit (.int .u8 38), .lit (.int .u8 29), .lit (.int .u8 17), .lit (.int .u8 4), .lit (.int .u8 62), .lit (.int .u8 47), .lit (.int .u8 59), .lit (.int .u8 36), .lit (.int .u8 45), .lit (.int .u8 43), .lit (.int .u8 51), .lit (.int .u8 22), .lit (.int .u8 53), .lit (.int .u8 39), .lit (.int .u8 33), .lit (.int .u8 30), .lit (.int .u8 24), .lit (.int .u8 18), .lit (.int .u8 12), .lit (.int .u8 5), .lit (.int .u8 63), .lit (.int .u8 55), .lit (.int .u8 48), .lit (.int .u8 27), .lit (.int .u8 60), .lit (.int .u8 41), .lit (.int .u8 37), .lit (.int .u8 16), .lit (.int .u8 46), .lit (.int .u8 35), .lit (.int .u8 44), .lit (.int .u8 21), .lit (.int .u8 52), .lit (.int .u8 32), .lit (.int .u8 23), .lit (.int .u8 11), .lit (.int .u8 54), .lit (.int .u8 26), .lit (.int .u8 40), .lit (.int .u8 15), .lit (.int .u8 34), .lit (.int .u8 20), .lit (.int .u8 31), .lit (.int .u8 10), .lit (.int .u8 25), .lit (.int .u8 14), .lit (.int .u8 19), .lit (.int .u8 9), .lit (.int .u8 13), .lit (.int .u8 8), .lit (.int .u8 7), .lit (.int .u8 6)]
def laid_internal_strconv_uint64pow10 {H : Type} : DataW H := .agg [.lit (.int .u64 1), .lit (.int .u64 10), .lit (.int .u64 100), .lit (.int .u64 1000), .lit (.int .u64 10000), .lit (.int .u64 100000), .lit (.int .u64 1000000), .lit (.int .u64 10000000), .lit (.int .u64 100000000), .lit (.int .u64 1000000000), .lit (.int .u64 10000000000), .lit (.int .u64 100000000000), .lit (.int .u64 1000000000000), .lit (.int .u64 10000000000000), .lit (.int .u64 100000000000000), .lit (.int .u64 1000000000000000), .lit (.int .u64 10000000000000000), .lit (.int .u64 100000000000000000), .lit (.int .u64 1000000000000000000), .lit (.int .u64 10000000000000000000)]

/-- 'scriniumlaw18.SuperNil': WHATEVER THE INPUT: true; the input reads as it did. -/
def superNilSpec : ChangeSpec := { name := "superNil", fn := fun _ => fun
  | [d] => { results := [.lit (.bool true)], args := [d] }
  | _ => none }
def superNilRow : OpenClaim := { program := "ytkdghnbogkbedaagreatdoor", sum := "d99b87a31666aaab8d0101c7f20d03026152ddb80e32c590be1d4faf05a16f62", func := "scrinium/scriniumlaw18.SuperNil", spec := "superNil", inPlace := ["internal/abi.NoEscape", "internal/bytealg.MakeNoZero", "slices.overlaps[scrinium/api.Sum]"], unfollowed := true, recurses := true, named := ["scrinium/sha.keys"], apart := false, laid := [("scrinium/sha.keys", laid_scrinium_sha_keys)] }
def SuperNilSaid : Prop := superNilRow.holds Tryz.pinned (OpenSpec.ofChange superNilSpec)

/-- ITS FALSE NEIGHBOUR: 'it returns false'. Refute it at one input. -/
def superNilWrong : ChangeSpec := { name := "superNil", fn := fun _ => fun
  | [d] => { results := [.lit (.bool false)], args := [d] }
  | _ => none }
def SuperNilWrongFalsely : Prop := superNilRow.holds Tryz.pinned (OpenSpec.ofChange superNilWrong)

/-- 'scriniumlaw21.ImageDiffs': WHATEVER THE INPUT: true; the input reads as it did. -/
def imageDiffsSpec : ChangeSpec := { name := "imageDiffs", fn := fun _ => fun
  | [d1, d2, d3] => { results := [.lit (.bool true)], args := [d1, d2, d3] }
  | _ => none }
def imageDiffsRow : OpenClaim := { program := "ytkdghnbogkbedaagreatdoor", sum := "d99b87a31666aaab8d0101c7f20d03026152ddb80e32c590be1d4faf05a16f62", func := "scrinium/scriniumlaw21.ImageDiffs", spec := "imageDiffs", inPlace := ["internal/abi.NoEscape", "internal/bytealg.MakeNoZero", "internal/bytealg.abigen_runtime_cmpstring"], unfollowed := true, recurses := true, named := ["scrinium/sha.keys", "internal/strconv.uint64pow10", "math/bits.deBruijn32tab", "math/bits.deBruijn64tab"], apart := false, laid := [("math/bits.deBruijn32tab", laid_math_bits_deBruijn32tab), ("math/bits.deBruijn64tab", laid_math_bits_deBruijn64tab), ("internal/strconv.uint64pow10", laid_internal_strconv_uint64pow10), ("scrinium/sha.keys", laid_scrinium_sha_keys)] }
def ImageDiffsSaid : Prop := imageDiffsRow.holds Tryz.pinned (OpenSpec.ofChange imageDiffsSpec)

/-- ITS FALSE NEIGHBOUR: 'it returns false'. Refute it at one input. -/
def imageDiffsWrong : ChangeSpec := { name := "imageDiffs", fn := fun _ => fun
  | [d1, d2, d3] => { results := [.lit (.bool false)], args := [d1, d2, d3] }
  | _ => none }
def ImageDiffsWrongFalsely : Prop := imageDiffsRow.holds Tryz.pinned (OpenSpec.ofChange imageDiffsWrong)

/-- 'scriniumlaw21.ImageGoes': WHATEVER THE INPUT: true; the input reads as it did. -/
def imageGoesSpec : ChangeSpec := { name := "imageGoes", fn := fun _ => fun
  | [d1, d2] => { results := [.lit (.bool true)], args := [d1, d2] }
  | _ => none }
def imageGoesRow : OpenClaim := { program := "ytkdghnbogkbedaagreatdoor", sum := "d99b87a31666aaab8d0101c7f20d03026152ddb80e32c590be1d4faf05a16f62", func := "scrinium/scriniumlaw21.ImageGoes", spec := "imageGoes", inPlace := ["internal/abi.NoEscape", "internal/bytealg.MakeNoZero", "internal/bytealg.abigen_runtime_cmpstring"], unfollowed := true, recurses := true, named := ["scrinium/sha.keys", "internal/strconv.uint64pow10", "math/bits.deBruijn32tab", "math/bits.deBruijn64tab"], apart := false, laid := [("math/bits.deBruijn32tab", laid_math_bits_deBruijn32tab), ("math/bits.deBruijn64tab", laid_math_bits_deBruijn64tab), ("internal/strconv.uint64pow10", laid_internal_strconv_uint64pow10), ("scrinium/sha.keys", laid_scrinium_sha_keys)] }
def ImageGoesSaid : Prop := imageGoesRow.holds Tryz.pinned (OpenSpec.ofChange imageGoesSpec)

/-- ITS FALSE NEIGHBOUR: 'it returns false'. Refute it at one input. -/
def imageGoesWrong : ChangeSpec := { name := "imageGoes", fn := fun _ => fun
  | [d1, d2] => { results := [.lit (.bool false)], args := [d1, d2] }
  | _ => none }
def ImageGoesWrongFalsely : Prop := imageGoesRow.holds Tryz.pinned (OpenSpec.ofChange imageGoesWrong)

/-- 'scriniumlaw20.VaultKeeps': WHATEVER THE INPUT: true; the input reads as it did. -/
def vaultKeepsSpec : ChangeSpec := { name := "vaultKeeps", fn := fun _ => fun
  | [d1, d2] => { results := [.lit (.bool true)], args := [d1, d2] }
  | _ => none }
def vaultKeepsRow : OpenClaim := { program := "ytkdghnbogkbedaagreatdoor", sum := "d99b87a31666aaab8d0101c7f20d03026152ddb80e32c590be1d4faf05a16f62", func := "scrinium/scriniumlaw20.VaultKeeps", spec := "vaultKeeps", inPlace := ["internal/abi.NoEscape", "internal/bytealg.MakeNoZero", "slices.overlaps[scrinium/api.Sum]"], unfollowed := true, recurses := true, named := ["scrinium/sha.keys"], apart := false, laid := [("scrinium/sha.keys", laid_scrinium_sha_keys)] }
def VaultKeepsSaid : Prop := vaultKeepsRow.holds Tryz.pinned (OpenSpec.ofChange vaultKeepsSpec)

/-- ITS FALSE NEIGHBOUR: 'it returns false'. Refute it at one input. -/
def vaultKeepsWrong : ChangeSpec := { name := "vaultKeeps", fn := fun _ => fun
  | [d1, d2] => { results := [.lit (.bool false)], args := [d1, d2] }
  | _ => none }
def VaultKeepsWrongFalsely : Prop := vaultKeepsRow.holds Tryz.pinned (OpenSpec.ofChange vaultKeepsWrong)

/-- 'scriniumlaw20.VaultHeads': WHATEVER THE INPUT: true; the input reads as it did. -/
def vaultHeadsSpec : ChangeSpec := { name := "vaultHeads", fn := fun _ => fun
  | [d1, d2, d3] => { results := [.lit (.bool true)], args := [d1, d2, d3] }
  | _ => none }
def vaultHeadsRow : OpenClaim := { program := "ytkdghnbogkbedaagreatdoor", sum := "d99b87a31666aaab8d0101c7f20d03026152ddb80e32c590be1d4faf05a16f62", func := "scrinium/scriniumlaw20.VaultHeads", spec := "vaultHeads", inPlace := ["internal/abi.NoEscape", "internal/bytealg.MakeNoZero", "slices.overlaps[scrinium/api.Sum]"], unfollowed := true, recurses := true, named := ["scrinium/sha.keys"], apart := false, laid := [("scrinium/sha.keys", laid_scrinium_sha_keys)] }
def VaultHeadsSaid : Prop := vaultHeadsRow.holds Tryz.pinned (OpenSpec.ofChange vaultHeadsSpec)

/-- ITS FALSE NEIGHBOUR: 'it returns false'. Refute it at one input. -/
def vaultHeadsWrong : ChangeSpec := { name := "vaultHeads", fn := fun _ => fun
  | [d1, d2, d3] => { results := [.lit (.bool false)], args := [d1, d2, d3] }
  | _ => none }
def VaultHeadsWrongFalsely : Prop := vaultHeadsRow.holds Tryz.pinned (OpenSpec.ofChange vaultHeadsWrong)

/-- 'scriniumlaw20.VaultCites': WHATEVER THE INPUT: true; the input reads as it did. -/
def vaultCitesSpec : ChangeSpec := { name := "vaultCites", fn := fun _ => fun
  | [d1, d2] => { results := [.lit (.bool true)], args := [d1, d2] }
  | _ => none }
def vaultCitesRow : OpenClaim := { program := "ytkdghnbogkbedaagreatdoor", sum := "d99b87a31666aaab8d0101c7f20d03026152ddb80e32c590be1d4faf05a16f62", func := "scrinium/scriniumlaw20.VaultCites", spec := "vaultCites", inPlace := ["internal/abi.NoEscape", "internal/bytealg.MakeNoZero", "slices.overlaps[scrinium/api.Sum]"], unfollowed := true, recurses := true, named := ["scrinium/sha.keys"], apart := false, laid := [("scrinium/sha.keys", laid_scrinium_sha_keys)] }
def VaultCitesSaid : Prop := vaultCitesRow.holds Tryz.pinned (OpenSpec.ofChange vaultCitesSpec)

/-- ITS FALSE NEIGHBOUR: 'it returns false'. Refute it at one input. -/
def vaultCitesWrong : ChangeSpec := { name := "vaultCites", fn := fun _ => fun
  | [d1, d2] => { results := [.lit (.bool false)], args := [d1, d2] }
  | _ => none }
def VaultCitesWrongFalsely : Prop := vaultCitesRow.holds Tryz.pinned (OpenSpec.ofChange vaultCitesWrong)

/-- 'scriniumlaw20.VaultEnds': WHATEVER THE INPUT: true; the input reads as it did. -/
def vaultEndsSpec : ChangeSpec := { name := "vaultEnds", fn := fun _ => fun
  | [d1, d2] => { results := [.lit (.bool true)], args := [d1, d2] }
  | _ => none }
def vaultEndsRow : OpenClaim := { program := "ytkdghnbogkbedaagreatdoor", sum := "d99b87a31666aaab8d0101c7f20d03026152ddb80e32c590be1d4faf05a16f62", func := "scrinium/scriniumlaw20.VaultEnds", spec := "vaultEnds", inPlace := ["internal/abi.NoEscape", "internal/bytealg.MakeNoZero", "slices.overlaps[scrinium/api.Sum]"], unfollowed := true, recurses := true, named := ["scrinium/sha.keys"], apart := false, laid := [("scrinium/sha.keys", laid_scrinium_sha_keys)] }
def VaultEndsSaid : Prop := vaultEndsRow.holds Tryz.pinned (OpenSpec.ofChange vaultEndsSpec)

/-- ITS FALSE NEIGHBOUR: 'it returns false'. Refute it at one input. -/
def vaultEndsWrong : ChangeSpec := { name := "vaultEnds", fn := fun _ => fun
  | [d1, d2] => { results := [.lit (.bool false)], args := [d1, d2] }
  | _ => none }
def VaultEndsWrongFalsely : Prop := vaultEndsRow.holds Tryz.pinned (OpenSpec.ofChange vaultEndsWrong)

/-- 'scriniumlaw20.VaultLasts': WHATEVER THE INPUT: true; the input reads as it did. -/
def vaultLastsSpec : ChangeSpec := { name := "vaultLasts", fn := fun _ => fun
  | [d1, d2, d3] => { results := [.lit (.bool true)], args := [d1, d2, d3] }
  | _ => none }
def vaultLastsRow : OpenClaim := { program := "ytkdghnbogkbedaagreatdoor", sum := "d99b87a31666aaab8d0101c7f20d03026152ddb80e32c590be1d4faf05a16f62", func := "scrinium/scriniumlaw20.VaultLasts", spec := "vaultLasts", inPlace := ["internal/abi.NoEscape", "internal/bytealg.MakeNoZero", "slices.overlaps[scrinium/api.Sum]"], unfollowed := true, recurses := true, named := ["scrinium/sha.keys"], apart := false, laid := [("scrinium/sha.keys", laid_scrinium_sha_keys)] }
def VaultLastsSaid : Prop := vaultLastsRow.holds Tryz.pinned (OpenSpec.ofChange vaultLastsSpec)

/-- ITS FALSE NEIGHBOUR: 'it returns false'. Refute it at one input. -/
def vaultLastsWrong : ChangeSpec := { name := "vaultLasts", fn := fun _ => fun
  | [d1, d2, d3] => { results := [.lit (.bool false)], args := [d1, d2, d3] }
  | _ => none }
def VaultLastsWrongFalsely : Prop := vaultLastsRow.holds Tryz.pinned (OpenSpec.ofChange vaultLastsWrong)

/-- 'scriniumlaw20.VaultAsks': WHATEVER THE INPUT: true; the input reads as it did. -/
def vaultAsksSpec : ChangeSpec := { name := "vaultAsks", fn := fun _ => fun
  | [d1, d2, d3] => { results := [.lit (.bool true)], args := [d1, d2, d3] }
  | _ => none }
def vaultAsksRow : OpenClaim := { program := "ytkdghnbogkbedaagreatdoor", sum := "d99b87a31666aaab8d0101c7f20d03026152ddb80e32c590be1d4faf05a16f62", func := "scrinium/scriniumlaw20.VaultAsks", spec := "vaultAsks", inPlace := ["internal/abi.NoEscape", "internal/bytealg.MakeNoZero", "slices.overlaps[scrinium/api.Sum]"], unfollowed := true, recurses := true, named := ["scrinium/sha.keys"], apart := false, laid := [("scrinium/sha.keys", laid_scrinium_sha_keys)] }
def VaultAsksSaid : Prop := vaultAsksRow.holds Tryz.pinned (OpenSpec.ofChange vaultAsksSpec)

/-- ITS FALSE NEIGHBOUR: 'it returns false'. Refute it at one input. -/
def vaultAsksWrong : ChangeSpec := { name := "vaultAsks", fn := fun _ => fun
  | [d1, d2, d3] => { results := [.lit (.bool false)], args := [d1, d2, d3] }
  | _ => none }
def VaultAsksWrongFalsely : Prop := vaultAsksRow.holds Tryz.pinned (OpenSpec.ofChange vaultAsksWrong)

/-- 'scriniumlaw20.VaultPlays': WHATEVER THE INPUT: true; the input reads as it did. -/
def vaultPlaysSpec : ChangeSpec := { name := "vaultPlays", fn := fun _ => fun
  | [d1, d2, d3] => { results := [.lit (.bool true)], args := [d1, d2, d3] }
  | _ => none }
def vaultPlaysRow : OpenClaim := { program := "ytkdghnbogkbedaagreatdoor", sum := "d99b87a31666aaab8d0101c7f20d03026152ddb80e32c590be1d4faf05a16f62", func := "scrinium/scriniumlaw20.VaultPlays", spec := "vaultPlays", inPlace := ["internal/abi.NoEscape", "internal/bytealg.MakeNoZero", "slices.overlaps[scrinium/api.Sum]"], unfollowed := true, recurses := true, named := ["scrinium/sha.keys"], apart := false, laid := [("scrinium/sha.keys", laid_scrinium_sha_keys)] }
def VaultPlaysSaid : Prop := vaultPlaysRow.holds Tryz.pinned (OpenSpec.ofChange vaultPlaysSpec)

/-- ITS FALSE NEIGHBOUR: 'it returns false'. Refute it at one input. -/
def vaultPlaysWrong : ChangeSpec := { name := "vaultPlays", fn := fun _ => fun
  | [d1, d2, d3] => { results := [.lit (.bool false)], args := [d1, d2, d3] }
  | _ => none }
def VaultPlaysWrongFalsely : Prop := vaultPlaysRow.holds Tryz.pinned (OpenSpec.ofChange vaultPlaysWrong)

/-- 'scriniumlaw20.VaultLoads': WHATEVER THE INPUT: true; the input reads as it did. -/
def vaultLoadsSpec : ChangeSpec := { name := "vaultLoads", fn := fun _ => fun
  | [d1, d2] => { results := [.lit (.bool true)], args := [d1, d2] }
  | _ => none }
def vaultLoadsRow : OpenClaim := { program := "ytkdghnbogkbedaagreatdoor", sum := "d99b87a31666aaab8d0101c7f20d03026152ddb80e32c590be1d4faf05a16f62", func := "scrinium/scriniumlaw20.VaultLoads", spec := "vaultLoads", inPlace := ["internal/abi.NoEscape", "internal/bytealg.MakeNoZero", "slices.overlaps[scrinium/api.Sum]"], unfollowed := true, recurses := true, named := ["scrinium/sha.keys"], apart := false, laid := [("scrinium/sha.keys", laid_scrinium_sha_keys)] }
def VaultLoadsSaid : Prop := vaultLoadsRow.holds Tryz.pinned (OpenSpec.ofChange vaultLoadsSpec)

/-- ITS FALSE NEIGHBOUR: 'it returns false'. Refute it at one input. -/
def vaultLoadsWrong : ChangeSpec := { name := "vaultLoads", fn := fun _ => fun
  | [d1, d2] => { results := [.lit (.bool false)], args := [d1, d2] }
  | _ => none }
def VaultLoadsWrongFalsely : Prop := vaultLoadsRow.holds Tryz.pinned (OpenSpec.ofChange vaultLoadsWrong)

/-- 'scriniumlaw20.VaultNil': WHATEVER THE INPUT: true; the input reads as it did. -/
def vaultNilSpec : ChangeSpec := { name := "vaultNil", fn := fun _ => fun
  | [d] => { results := [.lit (.bool true)], args := [d] }
  | _ => none }
def vaultNilRow : OpenClaim := { program := "ytkdghnbogkbedaagreatdoor", sum := "d99b87a31666aaab8d0101c7f20d03026152ddb80e32c590be1d4faf05a16f62", func := "scrinium/scriniumlaw20.VaultNil", spec := "vaultNil", inPlace := ["internal/abi.NoEscape", "internal/bytealg.MakeNoZero", "slices.overlaps[scrinium/api.Sum]"], unfollowed := true, recurses := true, named := ["scrinium/sha.keys"], apart := false, laid := [("scrinium/sha.keys", laid_scrinium_sha_keys)] }
def VaultNilSaid : Prop := vaultNilRow.holds Tryz.pinned (OpenSpec.ofChange vaultNilSpec)

/-- ITS FALSE NEIGHBOUR: 'it returns false'. Refute it at one input. -/
def vaultNilWrong : ChangeSpec := { name := "vaultNil", fn := fun _ => fun
  | [d] => { results := [.lit (.bool false)], args := [d] }
  | _ => none }
def VaultNilWrongFalsely : Prop := vaultNilRow.holds Tryz.pinned (OpenSpec.ofChange vaultNilWrong)

/- THE SECOND FORM. 'bulk': how many values and letters a reading holds, each counted each time it is reached (what is shared counts as often as it is met; a slice's spare places count too). A statement '..UptoSaid' is the law's where the arguments, and the package variables that the reading takes, are together of bulk at most 1048576: NARROWER than '..Said'. Prove '..Said' where nothing that the law and all that it calls make is longer than what came in: it says more and counts as full. Else prove '..UptoSaid'. A law counts once. -/
mutual
def uptoBulk {H : Type} : DataW H → Nat
  | .lit (.string bytes) => bytes.length + 1
  | .lit _ => 1
  | .nil => 1
  | .ptr d => uptoBulk d + 1
  | .slice elems spare => uptoBulkAll elems + uptoBulkAll spare + 1
  | .agg parts => uptoBulkAll parts + 1
  | .iface _ d => uptoBulk d + 1
  | .map entries => uptoBulkEntries entries + 1
  | .held _ => 1
def uptoBulkAll {H : Type} : List (DataW H) → Nat
  | [] => 0
  | d :: r => uptoBulk d + uptoBulkAll r
def uptoBulkEntries {H : Type} : List (Lit × DataW H) → Nat
  | [] => 0
  | x :: r => uptoBulkEntry x + uptoBulkEntries r
def uptoBulkEntry {H : Type} : Lit × DataW H → Nat
  | (.string bytes, d) => bytes.length + uptoBulk d + 1
  | (_, d) => uptoBulk d + 1
 end
def uptoSmall : (H : Type) → List (DataW H) → Bool := fun _ ds => decide (uptoBulkAll ds ≤ 1048576)
def OpenSpec.upto (s : _root_.Go.ChangeSpec) : _root_.Go.OpenSpec := { _root_.Go.OpenSpec.ofChange s with cond := some uptoSmall }

/-- 'scriniumlaw18.SuperNil', WHERE WHAT IT READS IS OF BULK AT MOST 1048576: true; the input reads as it did. -/
def superNilUptoRow : OpenClaim := { program := "ytkdghnbogkbedaagreatdoor", sum := "d99b87a31666aaab8d0101c7f20d03026152ddb80e32c590be1d4faf05a16f62", func := "scrinium/scriniumlaw18.SuperNil", spec := "superNil", inPlace := ["internal/abi.NoEscape", "internal/bytealg.MakeNoZero", "slices.overlaps[scrinium/api.Sum]"], unfollowed := true, recurses := true, named := ["scrinium/sha.keys"], apart := false, laid := [("scrinium/sha.keys", laid_scrinium_sha_keys)], narrowed := true }
def SuperNilUptoSaid : Prop := superNilUptoRow.holds Tryz.pinned (OpenSpec.upto superNilSpec)

/-- 'scriniumlaw21.ImageDiffs', WHERE WHAT IT READS IS OF BULK AT MOST 1048576: true; the input reads as it did. -/
def imageDiffsUptoRow : OpenClaim := { program := "ytkdghnbogkbedaagreatdoor", sum := "d99b87a31666aaab8d0101c7f20d03026152ddb80e32c590be1d4faf05a16f62", func := "scrinium/scriniumlaw21.ImageDiffs", spec := "imageDiffs", inPlace := ["internal/abi.NoEscape", "internal/bytealg.MakeNoZero", "internal/bytealg.abigen_runtime_cmpstring"], unfollowed := true, recurses := true, named := ["scrinium/sha.keys", "internal/strconv.uint64pow10", "math/bits.deBruijn32tab", "math/bits.deBruijn64tab"], apart := false, laid := [("math/bits.deBruijn32tab", laid_math_bits_deBruijn32tab), ("math/bits.deBruijn64tab", laid_math_bits_deBruijn64tab), ("internal/strconv.uint64pow10", laid_internal_strconv_uint64pow10), ("scrinium/sha.keys", laid_scrinium_sha_keys)], narrowed := true }
def ImageDiffsUptoSaid : Prop := imageDiffsUptoRow.holds Tryz.pinned (OpenSpec.upto imageDiffsSpec)

/-- 'scriniumlaw21.ImageGoes', WHERE WHAT IT READS IS OF BULK AT MOST 1048576: true; the input reads as it did. -/
def imageGoesUptoRow : OpenClaim := { program := "ytkdghnbogkbedaagreatdoor", sum := "d99b87a31666aaab8d0101c7f20d03026152ddb80e32c590be1d4faf05a16f62", func := "scrinium/scriniumlaw21.ImageGoes", spec := "imageGoes", inPlace := ["internal/abi.NoEscape", "internal/bytealg.MakeNoZero", "internal/bytealg.abigen_runtime_cmpstring"], unfollowed := true, recurses := true, named := ["scrinium/sha.keys", "internal/strconv.uint64pow10", "math/bits.deBruijn32tab", "math/bits.deBruijn64tab"], apart := false, laid := [("math/bits.deBruijn32tab", laid_math_bits_deBruijn32tab), ("math/bits.deBruijn64tab", laid_math_bits_deBruijn64tab), ("internal/strconv.uint64pow10", laid_internal_strconv_uint64pow10), ("scrinium/sha.keys", laid_scrinium_sha_keys)], narrowed := true }
def ImageGoesUptoSaid : Prop := imageGoesUptoRow.holds Tryz.pinned (OpenSpec.upto imageGoesSpec)

/-- 'scriniumlaw20.VaultKeeps', WHERE WHAT IT READS IS OF BULK AT MOST 1048576: true; the input reads as it did. -/
def vaultKeepsUptoRow : OpenClaim := { program := "ytkdghnbogkbedaagreatdoor", sum := "d99b87a31666aaab8d0101c7f20d03026152ddb80e32c590be1d4faf05a16f62", func := "scrinium/scriniumlaw20.VaultKeeps", spec := "vaultKeeps", inPlace := ["internal/abi.NoEscape", "internal/bytealg.MakeNoZero", "slices.overlaps[scrinium/api.Sum]"], unfollowed := true, recurses := true, named := ["scrinium/sha.keys"], apart := false, laid := [("scrinium/sha.keys", laid_scrinium_sha_keys)], narrowed := true }
def VaultKeepsUptoSaid : Prop := vaultKeepsUptoRow.holds Tryz.pinned (OpenSpec.upto vaultKeepsSpec)

/-- 'scriniumlaw20.VaultHeads', WHERE WHAT IT READS IS OF BULK AT MOST 1048576: true; the input reads as it did. -/
def vaultHeadsUptoRow : OpenClaim := { program := "ytkdghnbogkbedaagreatdoor", sum := "d99b87a31666aaab8d0101c7f20d03026152ddb80e32c590be1d4faf05a16f62", func := "scrinium/scriniumlaw20.VaultHeads", spec := "vaultHeads", inPlace := ["internal/abi.NoEscape", "internal/bytealg.MakeNoZero", "slices.overlaps[scrinium/api.Sum]"], unfollowed := true, recurses := true, named := ["scrinium/sha.keys"], apart := false, laid := [("scrinium/sha.keys", laid_scrinium_sha_keys)], narrowed := true }
def VaultHeadsUptoSaid : Prop := vaultHeadsUptoRow.holds Tryz.pinned (OpenSpec.upto vaultHeadsSpec)

/-- 'scriniumlaw20.VaultCites', WHERE WHAT IT READS IS OF BULK AT MOST 1048576: true; the input reads as it did. -/
def vaultCitesUptoRow : OpenClaim := { program := "ytkdghnbogkbedaagreatdoor", sum := "d99b87a31666aaab8d0101c7f20d03026152ddb80e32c590be1d4faf05a16f62", func := "scrinium/scriniumlaw20.VaultCites", spec := "vaultCites", inPlace := ["internal/abi.NoEscape", "internal/bytealg.MakeNoZero", "slices.overlaps[scrinium/api.Sum]"], unfollowed := true, recurses := true, named := ["scrinium/sha.keys"], apart := false, laid := [("scrinium/sha.keys", laid_scrinium_sha_keys)], narrowed := true }
def VaultCitesUptoSaid : Prop := vaultCitesUptoRow.holds Tryz.pinned (OpenSpec.upto vaultCitesSpec)

/-- 'scriniumlaw20.VaultEnds', WHERE WHAT IT READS IS OF BULK AT MOST 1048576: true; the input reads as it did. -/
def vaultEndsUptoRow : OpenClaim := { program := "ytkdghnbogkbedaagreatdoor", sum := "d99b87a31666aaab8d0101c7f20d03026152ddb80e32c590be1d4faf05a16f62", func := "scrinium/scriniumlaw20.VaultEnds", spec := "vaultEnds", inPlace := ["internal/abi.NoEscape", "internal/bytealg.MakeNoZero", "slices.overlaps[scrinium/api.Sum]"], unfollowed := true, recurses := true, named := ["scrinium/sha.keys"], apart := false, laid := [("scrinium/sha.keys", laid_scrinium_sha_keys)], narrowed := true }
def VaultEndsUptoSaid : Prop := vaultEndsUptoRow.holds Tryz.pinned (OpenSpec.upto vaultEndsSpec)

/-- 'scriniumlaw20.VaultLasts', WHERE WHAT IT READS IS OF BULK AT MOST 1048576: true; the input reads as it did. -/
def vaultLastsUptoRow : OpenClaim := { program := "ytkdghnbogkbedaagreatdoor", sum := "d99b87a31666aaab8d0101c7f20d03026152ddb80e32c590be1d4faf05a16f62", func := "scrinium/scriniumlaw20.VaultLasts", spec := "vaultLasts", inPlace := ["internal/abi.NoEscape", "internal/bytealg.MakeNoZero", "slices.overlaps[scrinium/api.Sum]"], unfollowed := true, recurses := true, named := ["scrinium/sha.keys"], apart := false, laid := [("scrinium/sha.keys", laid_scrinium_sha_keys)], narrowed := true }
def VaultLastsUptoSaid : Prop := vaultLastsUptoRow.holds Tryz.pinned (OpenSpec.upto vaultLastsSpec)

/-- 'scriniumlaw20.VaultAsks', WHERE WHAT IT READS IS OF BULK AT MOST 1048576: true; the input reads as it did. -/
def vaultAsksUptoRow : OpenClaim := { program := "ytkdghnbogkbedaagreatdoor", sum := "d99b87a31666aaab8d0101c7f20d03026152ddb80e32c590be1d4faf05a16f62", func := "scrinium/scriniumlaw20.VaultAsks", spec := "vaultAsks", inPlace := ["internal/abi.NoEscape", "internal/bytealg.MakeNoZero", "slices.overlaps[scrinium/api.Sum]"], unfollowed := true, recurses := true, named := ["scrinium/sha.keys"], apart := false, laid := [("scrinium/sha.keys", laid_scrinium_sha_keys)], narrowed := true }
def VaultAsksUptoSaid : Prop := vaultAsksUptoRow.holds Tryz.pinned (OpenSpec.upto vaultAsksSpec)

/-- 'scriniumlaw20.VaultPlays', WHERE WHAT IT READS IS OF BULK AT MOST 1048576: true; the input reads as it did. -/
def vaultPlaysUptoRow : OpenClaim := { program := "ytkdghnbogkbedaagreatdoor", sum := "d99b87a31666aaab8d0101c7f20d03026152ddb80e32c590be1d4faf05a16f62", func := "scrinium/scriniumlaw20.VaultPlays", spec := "vaultPlays", inPlace := ["internal/abi.NoEscape", "internal/bytealg.MakeNoZero", "slices.overlaps[scrinium/api.Sum]"], unfollowed := true, recurses := true, named := ["scrinium/sha.keys"], apart := false, laid := [("scrinium/sha.keys", laid_scrinium_sha_keys)], narrowed := true }
def VaultPlaysUptoSaid : Prop := vaultPlaysUptoRow.holds Tryz.pinned (OpenSpec.upto vaultPlaysSpec)

/-- 'scriniumlaw20.VaultLoads', WHERE WHAT IT READS IS OF BULK AT MOST 1048576: true; the input reads as it did. -/
def vaultLoadsUptoRow : OpenClaim := { program := "ytkdghnbogkbedaagreatdoor", sum := "d99b87a31666aaab8d0101c7f20d03026152ddb80e32c590be1d4faf05a16f62", func := "scrinium/scriniumlaw20.VaultLoads", spec := "vaultLoads", inPlace := ["internal/abi.NoEscape", "internal/bytealg.MakeNoZero", "slices.overlaps[scrinium/api.Sum]"], unfollowed := true, recurses := true, named := ["scrinium/sha.keys"], apart := false, laid := [("scrinium/sha.keys", laid_scrinium_sha_keys)], narrowed := true }
def VaultLoadsUptoSaid : Prop := vaultLoadsUptoRow.holds Tryz.pinned (OpenSpec.upto vaultLoadsSpec)

/-- 'scriniumlaw20.VaultNil', WHERE WHAT IT READS IS OF BULK AT MOST 1048576: true; the input reads as it did. -/
def vaultNilUptoRow : OpenClaim := { program := "ytkdghnbogkbedaagreatdoor", sum := "d99b87a31666aaab8d0101c7f20d03026152ddb80e32c590be1d4faf05a16f62", func := "scrinium/scriniumlaw20.VaultNil", spec := "vaultNil", inPlace := ["internal/abi.NoEscape", "internal/bytealg.MakeNoZero", "slices.overlaps[scrinium/api.Sum]"], unfollowed := true, recurses := true, named := ["scrinium/sha.keys"], apart := false, laid := [("scrinium/sha.keys", laid_scrinium_sha_keys)], narrowed := true }
def VaultNilUptoSaid : Prop := vaultNilUptoRow.holds Tryz.pinned (OpenSpec.upto vaultNilSpec)

end Rows
end Go.Proofs.YtkdghnbogkbedaaGreatDoor
