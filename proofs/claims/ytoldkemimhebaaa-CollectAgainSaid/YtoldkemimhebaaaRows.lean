/-
  No cell of these rows narrows 'for every input' (looked for: loops, veiled, ifaces, maps, wideKeys, modest, calm, conditions, laid).
  DERIVED. THE GIVEN ROWS OF THIS SEAT. 14 by the template 'for every input the law returns true; each argument reads behind the call as it read before'; 0 by the template 'total and deterministic' (their statements: YtoldkemimhebaaaTotals.lean).
  GIVEN WITH THE SEED: the statements are not yours to turn. If you find one false, say at which input.
  Laid BY PROGRAM, IN A SANDBOX (cutbox-rows.mjs): the forced cells as the released guide's own fill.sh prints them over the translation 0d21d3a721b2bf15… (all of the seat's roots in one cut). By AI agents, Wed Nov 11 2026. No macro, syntax, notation, axiom, sorry.
-/
import Derived.Test.YtoldkemimhebaaaChecked
import GoSem.Claim
import GoSem.ClaimJoined
import GoSem.ClaimMapViews
import Derived.JoinedTies
import Derived.KernelRfl
namespace Go.Proofs.Ytoldkemimhebaaa
/- THE CELL 'sum', in the pinned program and in every row, IS THE sha256 OF THE DUMP (.gsa) THAT YtoldkemimhebaaaProg.lean LOADS. Nothing in Lean hashes anything: it is a label: what it is worth is what the hold of that sum in a sandbox is worth. -/
noncomputable def Try.pinned : Pinned := { name := "ytoldkemimhebaaa", sum := "0d21d3a721b2bf1542f5cb11389bae8382078bec0f82629d0db61d256ea4e54e", checked := Try.checked }
namespace Rows
def none {H : Type} : Left H := { results := [], args := [] }

/-- 'virgatelaw15.PagePools': WHATEVER THE INPUT: true; the input reads as it did. -/
def pagePoolsSpec : ChangeSpec := { name := "pagePools", fn := fun _ => fun
  | [d] => { results := [.lit (.bool true)], args := [d] }
  | _ => none }
def pagePoolsRow : OpenClaim := { program := "ytoldkemimhebaaa", sum := "0d21d3a721b2bf1542f5cb11389bae8382078bec0f82629d0db61d256ea4e54e", func := "virgate/virgatelaw15.PagePools", spec := "pagePools", unfollowed := true, recurses := true, plainKeys := false, apart := false }
def PagePoolsSaid : Prop := pagePoolsRow.holds Try.pinned (OpenSpec.ofChange pagePoolsSpec)

/-- ITS FALSE NEIGHBOUR: 'it returns false'. Refute it at one input. -/
def pagePoolsWrong : ChangeSpec := { name := "pagePools", fn := fun _ => fun
  | [d] => { results := [.lit (.bool false)], args := [d] }
  | _ => none }
def PagePoolsWrongFalsely : Prop := pagePoolsRow.holds Try.pinned (OpenSpec.ofChange pagePoolsWrong)

/-- 'virgatelaw15.PageApart': WHATEVER THE INPUT: true; the input reads as it did. -/
def pageApartSpec : ChangeSpec := { name := "pageApart", fn := fun _ => fun
  | [d] => { results := [.lit (.bool true)], args := [d] }
  | _ => none }
def pageApartRow : OpenClaim := { program := "ytoldkemimhebaaa", sum := "0d21d3a721b2bf1542f5cb11389bae8382078bec0f82629d0db61d256ea4e54e", func := "virgate/virgatelaw15.PageApart", spec := "pageApart", unfollowed := true, recurses := true, plainKeys := false, apart := false }
def PageApartSaid : Prop := pageApartRow.holds Try.pinned (OpenSpec.ofChange pageApartSpec)

/-- ITS FALSE NEIGHBOUR: 'it returns false'. Refute it at one input. -/
def pageApartWrong : ChangeSpec := { name := "pageApart", fn := fun _ => fun
  | [d] => { results := [.lit (.bool false)], args := [d] }
  | _ => none }
def PageApartWrongFalsely : Prop := pageApartRow.holds Try.pinned (OpenSpec.ofChange pageApartWrong)

/-- 'virgatelaw15.PageFree': WHATEVER THE INPUT: true; the input reads as it did. -/
def pageFreeSpec : ChangeSpec := { name := "pageFree", fn := fun _ => fun
  | [d1, d2] => { results := [.lit (.bool true)], args := [d1, d2] }
  | _ => none }
def pageFreeRow : OpenClaim := { program := "ytoldkemimhebaaa", sum := "0d21d3a721b2bf1542f5cb11389bae8382078bec0f82629d0db61d256ea4e54e", func := "virgate/virgatelaw15.PageFree", spec := "pageFree", unfollowed := true, recurses := true, plainKeys := false, apart := false }
def PageFreeSaid : Prop := pageFreeRow.holds Try.pinned (OpenSpec.ofChange pageFreeSpec)

/-- ITS FALSE NEIGHBOUR: 'it returns false'. Refute it at one input. -/
def pageFreeWrong : ChangeSpec := { name := "pageFree", fn := fun _ => fun
  | [d1, d2] => { results := [.lit (.bool false)], args := [d1, d2] }
  | _ => none }
def PageFreeWrongFalsely : Prop := pageFreeRow.holds Try.pinned (OpenSpec.ofChange pageFreeWrong)

/-- 'virgatelaw15.PageNils': WHATEVER THE INPUT: true; the input reads as it did. -/
def pageNilsSpec : ChangeSpec := { name := "pageNils", fn := fun _ => fun
  | [d1, d2] => { results := [.lit (.bool true)], args := [d1, d2] }
  | _ => none }
def pageNilsRow : OpenClaim := { program := "ytoldkemimhebaaa", sum := "0d21d3a721b2bf1542f5cb11389bae8382078bec0f82629d0db61d256ea4e54e", func := "virgate/virgatelaw15.PageNils", spec := "pageNils", unfollowed := true, recurses := true, plainKeys := false, apart := false }
def PageNilsSaid : Prop := pageNilsRow.holds Try.pinned (OpenSpec.ofChange pageNilsSpec)

/-- ITS FALSE NEIGHBOUR: 'it returns false'. Refute it at one input. -/
def pageNilsWrong : ChangeSpec := { name := "pageNils", fn := fun _ => fun
  | [d1, d2] => { results := [.lit (.bool false)], args := [d1, d2] }
  | _ => none }
def PageNilsWrongFalsely : Prop := pageNilsRow.holds Try.pinned (OpenSpec.ofChange pageNilsWrong)

/-- 'virgatelaw15.PageActs': WHATEVER THE INPUT: true; the input reads as it did. -/
def pageActsSpec : ChangeSpec := { name := "pageActs", fn := fun _ => fun
  | [d1, d2] => { results := [.lit (.bool true)], args := [d1, d2] }
  | _ => none }
def pageActsRow : OpenClaim := { program := "ytoldkemimhebaaa", sum := "0d21d3a721b2bf1542f5cb11389bae8382078bec0f82629d0db61d256ea4e54e", func := "virgate/virgatelaw15.PageActs", spec := "pageActs", unfollowed := true, recurses := true, plainKeys := false, apart := false }
def PageActsSaid : Prop := pageActsRow.holds Try.pinned (OpenSpec.ofChange pageActsSpec)

/-- ITS FALSE NEIGHBOUR: 'it returns false'. Refute it at one input. -/
def pageActsWrong : ChangeSpec := { name := "pageActs", fn := fun _ => fun
  | [d1, d2] => { results := [.lit (.bool false)], args := [d1, d2] }
  | _ => none }
def PageActsWrongFalsely : Prop := pageActsRow.holds Try.pinned (OpenSpec.ofChange pageActsWrong)

/-- 'virgatelaw15.PageHeaps': WHATEVER THE INPUT: true; the input reads as it did. -/
def pageHeapsSpec : ChangeSpec := { name := "pageHeaps", fn := fun _ => fun
  | [d1, d2] => { results := [.lit (.bool true)], args := [d1, d2] }
  | _ => none }
def pageHeapsRow : OpenClaim := { program := "ytoldkemimhebaaa", sum := "0d21d3a721b2bf1542f5cb11389bae8382078bec0f82629d0db61d256ea4e54e", func := "virgate/virgatelaw15.PageHeaps", spec := "pageHeaps", unfollowed := true, recurses := true, plainKeys := false, apart := false }
def PageHeapsSaid : Prop := pageHeapsRow.holds Try.pinned (OpenSpec.ofChange pageHeapsSpec)

/-- ITS FALSE NEIGHBOUR: 'it returns false'. Refute it at one input. -/
def pageHeapsWrong : ChangeSpec := { name := "pageHeaps", fn := fun _ => fun
  | [d1, d2] => { results := [.lit (.bool false)], args := [d1, d2] }
  | _ => none }
def PageHeapsWrongFalsely : Prop := pageHeapsRow.holds Try.pinned (OpenSpec.ofChange pageHeapsWrong)

/-- 'virgatelaw16.CollectRegions': WHATEVER THE INPUT: true; the input reads as it did. -/
def collectRegionsSpec : ChangeSpec := { name := "collectRegions", fn := fun _ => fun
  | [d1, d2] => { results := [.lit (.bool true)], args := [d1, d2] }
  | _ => none }
def collectRegionsRow : OpenClaim := { program := "ytoldkemimhebaaa", sum := "0d21d3a721b2bf1542f5cb11389bae8382078bec0f82629d0db61d256ea4e54e", func := "virgate/virgatelaw16.CollectRegions", spec := "collectRegions", unfollowed := true, recurses := true, plainKeys := false, apart := false }
def CollectRegionsSaid : Prop := collectRegionsRow.holds Try.pinned (OpenSpec.ofChange collectRegionsSpec)

/-- ITS FALSE NEIGHBOUR: 'it returns false'. Refute it at one input. -/
def collectRegionsWrong : ChangeSpec := { name := "collectRegions", fn := fun _ => fun
  | [d1, d2] => { results := [.lit (.bool false)], args := [d1, d2] }
  | _ => none }
def CollectRegionsWrongFalsely : Prop := collectRegionsRow.holds Try.pinned (OpenSpec.ofChange collectRegionsWrong)

/-- 'virgatelaw16.CollectCollects': WHATEVER THE INPUT: true; the input reads as it did. -/
def collectCollectsSpec : ChangeSpec := { name := "collectCollects", fn := fun _ => fun
  | [d1, d2, d3] => { results := [.lit (.bool true)], args := [d1, d2, d3] }
  | _ => none }
def collectCollectsRow : OpenClaim := { program := "ytoldkemimhebaaa", sum := "0d21d3a721b2bf1542f5cb11389bae8382078bec0f82629d0db61d256ea4e54e", func := "virgate/virgatelaw16.CollectCollects", spec := "collectCollects", unfollowed := true, recurses := true, plainKeys := false, apart := false }
def CollectCollectsSaid : Prop := collectCollectsRow.holds Try.pinned (OpenSpec.ofChange collectCollectsSpec)

/-- ITS FALSE NEIGHBOUR: 'it returns false'. Refute it at one input. -/
def collectCollectsWrong : ChangeSpec := { name := "collectCollects", fn := fun _ => fun
  | [d1, d2, d3] => { results := [.lit (.bool false)], args := [d1, d2, d3] }
  | _ => none }
def CollectCollectsWrongFalsely : Prop := collectCollectsRow.holds Try.pinned (OpenSpec.ofChange collectCollectsWrong)

/-- 'virgatelaw16.CollectPages': WHATEVER THE INPUT: true; the input reads as it did. -/
def collectPagesSpec : ChangeSpec := { name := "collectPages", fn := fun _ => fun
  | [d1, d2, d3] => { results := [.lit (.bool true)], args := [d1, d2, d3] }
  | _ => none }
def collectPagesRow : OpenClaim := { program := "ytoldkemimhebaaa", sum := "0d21d3a721b2bf1542f5cb11389bae8382078bec0f82629d0db61d256ea4e54e", func := "virgate/virgatelaw16.CollectPages", spec := "collectPages", unfollowed := true, recurses := true, plainKeys := false, apart := false }
def CollectPagesSaid : Prop := collectPagesRow.holds Try.pinned (OpenSpec.ofChange collectPagesSpec)

/-- ITS FALSE NEIGHBOUR: 'it returns false'. Refute it at one input. -/
def collectPagesWrong : ChangeSpec := { name := "collectPages", fn := fun _ => fun
  | [d1, d2, d3] => { results := [.lit (.bool false)], args := [d1, d2, d3] }
  | _ => none }
def CollectPagesWrongFalsely : Prop := collectPagesRow.holds Try.pinned (OpenSpec.ofChange collectPagesWrong)

/-- 'virgatelaw16.CollectAlikes': WHATEVER THE INPUT: true; the input reads as it did. -/
def collectAlikesSpec : ChangeSpec := { name := "collectAlikes", fn := fun _ => fun
  | [d] => { results := [.lit (.bool true)], args := [d] }
  | _ => none }
def collectAlikesRow : OpenClaim := { program := "ytoldkemimhebaaa", sum := "0d21d3a721b2bf1542f5cb11389bae8382078bec0f82629d0db61d256ea4e54e", func := "virgate/virgatelaw16.CollectAlikes", spec := "collectAlikes", unfollowed := true, recurses := true, plainKeys := false, apart := false }
def CollectAlikesSaid : Prop := collectAlikesRow.holds Try.pinned (OpenSpec.ofChange collectAlikesSpec)

/-- ITS FALSE NEIGHBOUR: 'it returns false'. Refute it at one input. -/
def collectAlikesWrong : ChangeSpec := { name := "collectAlikes", fn := fun _ => fun
  | [d] => { results := [.lit (.bool false)], args := [d] }
  | _ => none }
def CollectAlikesWrongFalsely : Prop := collectAlikesRow.holds Try.pinned (OpenSpec.ofChange collectAlikesWrong)

/-- 'virgatelaw16.CollectAgain': WHATEVER THE INPUT: true; the input reads as it did. -/
def collectAgainSpec : ChangeSpec := { name := "collectAgain", fn := fun _ => fun
  | [d1, d2, d3] => { results := [.lit (.bool true)], args := [d1, d2, d3] }
  | _ => none }
def collectAgainRow : OpenClaim := { program := "ytoldkemimhebaaa", sum := "0d21d3a721b2bf1542f5cb11389bae8382078bec0f82629d0db61d256ea4e54e", func := "virgate/virgatelaw16.CollectAgain", spec := "collectAgain", unfollowed := true, recurses := true, plainKeys := false, apart := false }
def CollectAgainSaid : Prop := collectAgainRow.holds Try.pinned (OpenSpec.ofChange collectAgainSpec)

/-- ITS FALSE NEIGHBOUR: 'it returns false'. Refute it at one input. -/
def collectAgainWrong : ChangeSpec := { name := "collectAgain", fn := fun _ => fun
  | [d1, d2, d3] => { results := [.lit (.bool false)], args := [d1, d2, d3] }
  | _ => none }
def CollectAgainWrongFalsely : Prop := collectAgainRow.holds Try.pinned (OpenSpec.ofChange collectAgainWrong)

/-- 'virgatelaw16.CollectReached': WHATEVER THE INPUT: true; the input reads as it did. -/
def collectReachedSpec : ChangeSpec := { name := "collectReached", fn := fun _ => fun
  | [d1, d2, d3] => { results := [.lit (.bool true)], args := [d1, d2, d3] }
  | _ => none }
def collectReachedRow : OpenClaim := { program := "ytoldkemimhebaaa", sum := "0d21d3a721b2bf1542f5cb11389bae8382078bec0f82629d0db61d256ea4e54e", func := "virgate/virgatelaw16.CollectReached", spec := "collectReached", unfollowed := true, recurses := true, plainKeys := false, apart := false }
def CollectReachedSaid : Prop := collectReachedRow.holds Try.pinned (OpenSpec.ofChange collectReachedSpec)

/-- ITS FALSE NEIGHBOUR: 'it returns false'. Refute it at one input. -/
def collectReachedWrong : ChangeSpec := { name := "collectReached", fn := fun _ => fun
  | [d1, d2, d3] => { results := [.lit (.bool false)], args := [d1, d2, d3] }
  | _ => none }
def CollectReachedWrongFalsely : Prop := collectReachedRow.holds Try.pinned (OpenSpec.ofChange collectReachedWrong)

/-- 'virgatelaw16.CollectNils': WHATEVER THE INPUT: true; the input reads as it did. -/
def collectNilsSpec : ChangeSpec := { name := "collectNils", fn := fun _ => fun
  | [d] => { results := [.lit (.bool true)], args := [d] }
  | _ => none }
def collectNilsRow : OpenClaim := { program := "ytoldkemimhebaaa", sum := "0d21d3a721b2bf1542f5cb11389bae8382078bec0f82629d0db61d256ea4e54e", func := "virgate/virgatelaw16.CollectNils", spec := "collectNils", unfollowed := true, recurses := true, plainKeys := false, apart := false }
def CollectNilsSaid : Prop := collectNilsRow.holds Try.pinned (OpenSpec.ofChange collectNilsSpec)

/-- ITS FALSE NEIGHBOUR: 'it returns false'. Refute it at one input. -/
def collectNilsWrong : ChangeSpec := { name := "collectNils", fn := fun _ => fun
  | [d] => { results := [.lit (.bool false)], args := [d] }
  | _ => none }
def CollectNilsWrongFalsely : Prop := collectNilsRow.holds Try.pinned (OpenSpec.ofChange collectNilsWrong)

/-- 'virgatelaw16.CollectSees': WHATEVER THE INPUT: true; the input reads as it did. -/
def collectSeesSpec : ChangeSpec := { name := "collectSees", fn := fun _ => fun
  | [d1, d2, d3] => { results := [.lit (.bool true)], args := [d1, d2, d3] }
  | _ => none }
def collectSeesRow : OpenClaim := { program := "ytoldkemimhebaaa", sum := "0d21d3a721b2bf1542f5cb11389bae8382078bec0f82629d0db61d256ea4e54e", func := "virgate/virgatelaw16.CollectSees", spec := "collectSees", unfollowed := true, recurses := true, plainKeys := false, apart := false }
def CollectSeesSaid : Prop := collectSeesRow.holds Try.pinned (OpenSpec.ofChange collectSeesSpec)

/-- ITS FALSE NEIGHBOUR: 'it returns false'. Refute it at one input. -/
def collectSeesWrong : ChangeSpec := { name := "collectSees", fn := fun _ => fun
  | [d1, d2, d3] => { results := [.lit (.bool false)], args := [d1, d2, d3] }
  | _ => none }
def CollectSeesWrongFalsely : Prop := collectSeesRow.holds Try.pinned (OpenSpec.ofChange collectSeesWrong)

/- THE SECOND FORM. 'bulk': how many values and letters a reading holds, each counted each time it is reached (what is shared counts as often as it is met; a slice's spare places count too). A statement '..UptoSaid' is the law's where the arguments, and the package variables that the reading takes, are together of bulk at most 1048576: NARROWER than '..Said'. Prove '..Said' where nothing that the law and all that it calls make is longer than what came in: it says more and counts as full. Else prove '..UptoSaid'. A law counts once. -/
mutual
def uptoBulk {H : Type} : DataW H → Nat
  | .lit (.string bytes) => bytes.length + 1
  | .lit _ => 1
  | .nil => 1
  | .ptr d => uptoBulk d + 1
  | .slice elems spare => uptoBulkAll elems + uptoBulkAll spare + 1
  | .agg parts => uptoBulkAll parts + 1
  | .iface _ d => uptoBulk d + 1
  | .map entries => uptoBulkEntries entries + 1
  | .held _ => 1
def uptoBulkAll {H : Type} : List (DataW H) → Nat
  | [] => 0
  | d :: r => uptoBulk d + uptoBulkAll r
def uptoBulkEntries {H : Type} : List (Lit × DataW H) → Nat
  | [] => 0
  | x :: r => uptoBulkEntry x + uptoBulkEntries r
def uptoBulkEntry {H : Type} : Lit × DataW H → Nat
  | (.string bytes, d) => bytes.length + uptoBulk d + 1
  | (_, d) => uptoBulk d + 1
 end
def uptoSmall : (H : Type) → List (DataW H) → Bool := fun _ ds => decide (uptoBulkAll ds ≤ 1048576)
def OpenSpec.upto (s : _root_.Go.ChangeSpec) : _root_.Go.OpenSpec := { _root_.Go.OpenSpec.ofChange s with cond := some uptoSmall }

/-- 'virgatelaw15.PagePools', WHERE WHAT IT READS IS OF BULK AT MOST 1048576: true; the input reads as it did. -/
def pagePoolsUptoRow : OpenClaim := { program := "ytoldkemimhebaaa", sum := "0d21d3a721b2bf1542f5cb11389bae8382078bec0f82629d0db61d256ea4e54e", func := "virgate/virgatelaw15.PagePools", spec := "pagePools", unfollowed := true, recurses := true, plainKeys := false, apart := false, narrowed := true }
def PagePoolsUptoSaid : Prop := pagePoolsUptoRow.holds Try.pinned (OpenSpec.upto pagePoolsSpec)

/-- 'virgatelaw15.PageApart', WHERE WHAT IT READS IS OF BULK AT MOST 1048576: true; the input reads as it did. -/
def pageApartUptoRow : OpenClaim := { program := "ytoldkemimhebaaa", sum := "0d21d3a721b2bf1542f5cb11389bae8382078bec0f82629d0db61d256ea4e54e", func := "virgate/virgatelaw15.PageApart", spec := "pageApart", unfollowed := true, recurses := true, plainKeys := false, apart := false, narrowed := true }
def PageApartUptoSaid : Prop := pageApartUptoRow.holds Try.pinned (OpenSpec.upto pageApartSpec)

/-- 'virgatelaw15.PageFree', WHERE WHAT IT READS IS OF BULK AT MOST 1048576: true; the input reads as it did. -/
def pageFreeUptoRow : OpenClaim := { program := "ytoldkemimhebaaa", sum := "0d21d3a721b2bf1542f5cb11389bae8382078bec0f82629d0db61d256ea4e54e", func := "virgate/virgatelaw15.PageFree", spec := "pageFree", unfollowed := true, recurses := true, plainKeys := false, apart := false, narrowed := true }
def PageFreeUptoSaid : Prop := pageFreeUptoRow.holds Try.pinned (OpenSpec.upto pageFreeSpec)

/-- 'virgatelaw15.PageNils', WHERE WHAT IT READS IS OF BULK AT MOST 1048576: true; the input reads as it did. -/
def pageNilsUptoRow : OpenClaim := { program := "ytoldkemimhebaaa", sum := "0d21d3a721b2bf1542f5cb11389bae8382078bec0f82629d0db61d256ea4e54e", func := "virgate/virgatelaw15.PageNils", spec := "pageNils", unfollowed := true, recurses := true, plainKeys := false, apart := false, narrowed := true }
def PageNilsUptoSaid : Prop := pageNilsUptoRow.holds Try.pinned (OpenSpec.upto pageNilsSpec)

/-- 'virgatelaw15.PageActs', WHERE WHAT IT READS IS OF BULK AT MOST 1048576: true; the input reads as it did. -/
def pageActsUptoRow : OpenClaim := { program := "ytoldkemimhebaaa", sum := "0d21d3a721b2bf1542f5cb11389bae8382078bec0f82629d0db61d256ea4e54e", func := "virgate/virgatelaw15.PageActs", spec := "pageActs", unfollowed := true, recurses := true, plainKeys := false, apart := false, narrowed := true }
def PageActsUptoSaid : Prop := pageActsUptoRow.holds Try.pinned (OpenSpec.upto pageActsSpec)

/-- 'virgatelaw15.PageHeaps', WHERE WHAT IT READS IS OF BULK AT MOST 1048576: true; the input reads as it did. -/
def pageHeapsUptoRow : OpenClaim := { program := "ytoldkemimhebaaa", sum := "0d21d3a721b2bf1542f5cb11389bae8382078bec0f82629d0db61d256ea4e54e", func := "virgate/virgatelaw15.PageHeaps", spec := "pageHeaps", unfollowed := true, recurses := true, plainKeys := false, apart := false, narrowed := true }
def PageHeapsUptoSaid : Prop := pageHeapsUptoRow.holds Try.pinned (OpenSpec.upto pageHeapsSpec)

/-- 'virgatelaw16.CollectRegions', WHERE WHAT IT READS IS OF BULK AT MOST 1048576: true; the input reads as it did. -/
def collectRegionsUptoRow : OpenClaim := { program := "ytoldkemimhebaaa", sum := "0d21d3a721b2bf1542f5cb11389bae8382078bec0f82629d0db61d256ea4e54e", func := "virgate/virgatelaw16.CollectRegions", spec := "collectRegions", unfollowed := true, recurses := true, plainKeys := false, apart := false, narrowed := true }
def CollectRegionsUptoSaid : Prop := collectRegionsUptoRow.holds Try.pinned (OpenSpec.upto collectRegionsSpec)

/-- 'virgatelaw16.CollectCollects', WHERE WHAT IT READS IS OF BULK AT MOST 1048576: true; the input reads as it did. -/
def collectCollectsUptoRow : OpenClaim := { program := "ytoldkemimhebaaa", sum := "0d21d3a721b2bf1542f5cb11389bae8382078bec0f82629d0db61d256ea4e54e", func := "virgate/virgatelaw16.CollectCollects", spec := "collectCollects", unfollowed := true, recurses := true, plainKeys := false, apart := false, narrowed := true }
def CollectCollectsUptoSaid : Prop := collectCollectsUptoRow.holds Try.pinned (OpenSpec.upto collectCollectsSpec)

/-- 'virgatelaw16.CollectPages', WHERE WHAT IT READS IS OF BULK AT MOST 1048576: true; the input reads as it did. -/
def collectPagesUptoRow : OpenClaim := { program := "ytoldkemimhebaaa", sum := "0d21d3a721b2bf1542f5cb11389bae8382078bec0f82629d0db61d256ea4e54e", func := "virgate/virgatelaw16.CollectPages", spec := "collectPages", unfollowed := true, recurses := true, plainKeys := false, apart := false, narrowed := true }
def CollectPagesUptoSaid : Prop := collectPagesUptoRow.holds Try.pinned (OpenSpec.upto collectPagesSpec)

/-- 'virgatelaw16.CollectAlikes', WHERE WHAT IT READS IS OF BULK AT MOST 1048576: true; the input reads as it did. -/
def collectAlikesUptoRow : OpenClaim := { program := "ytoldkemimhebaaa", sum := "0d21d3a721b2bf1542f5cb11389bae8382078bec0f82629d0db61d256ea4e54e", func := "virgate/virgatelaw16.CollectAlikes", spec := "collectAlikes", unfollowed := true, recurses := true, plainKeys := false, apart := false, narrowed := true }
def CollectAlikesUptoSaid : Prop := collectAlikesUptoRow.holds Try.pinned (OpenSpec.upto collectAlikesSpec)

/-- 'virgatelaw16.CollectAgain', WHERE WHAT IT READS IS OF BULK AT MOST 1048576: true; the input reads as it did. -/
def collectAgainUptoRow : OpenClaim := { program := "ytoldkemimhebaaa", sum := "0d21d3a721b2bf1542f5cb11389bae8382078bec0f82629d0db61d256ea4e54e", func := "virgate/virgatelaw16.CollectAgain", spec := "collectAgain", unfollowed := true, recurses := true, plainKeys := false, apart := false, narrowed := true }
def CollectAgainUptoSaid : Prop := collectAgainUptoRow.holds Try.pinned (OpenSpec.upto collectAgainSpec)

/-- 'virgatelaw16.CollectReached', WHERE WHAT IT READS IS OF BULK AT MOST 1048576: true; the input reads as it did. -/
def collectReachedUptoRow : OpenClaim := { program := "ytoldkemimhebaaa", sum := "0d21d3a721b2bf1542f5cb11389bae8382078bec0f82629d0db61d256ea4e54e", func := "virgate/virgatelaw16.CollectReached", spec := "collectReached", unfollowed := true, recurses := true, plainKeys := false, apart := false, narrowed := true }
def CollectReachedUptoSaid : Prop := collectReachedUptoRow.holds Try.pinned (OpenSpec.upto collectReachedSpec)

/-- 'virgatelaw16.CollectNils', WHERE WHAT IT READS IS OF BULK AT MOST 1048576: true; the input reads as it did. -/
def collectNilsUptoRow : OpenClaim := { program := "ytoldkemimhebaaa", sum := "0d21d3a721b2bf1542f5cb11389bae8382078bec0f82629d0db61d256ea4e54e", func := "virgate/virgatelaw16.CollectNils", spec := "collectNils", unfollowed := true, recurses := true, plainKeys := false, apart := false, narrowed := true }
def CollectNilsUptoSaid : Prop := collectNilsUptoRow.holds Try.pinned (OpenSpec.upto collectNilsSpec)

/-- 'virgatelaw16.CollectSees', WHERE WHAT IT READS IS OF BULK AT MOST 1048576: true; the input reads as it did. -/
def collectSeesUptoRow : OpenClaim := { program := "ytoldkemimhebaaa", sum := "0d21d3a721b2bf1542f5cb11389bae8382078bec0f82629d0db61d256ea4e54e", func := "virgate/virgatelaw16.CollectSees", spec := "collectSees", unfollowed := true, recurses := true, plainKeys := false, apart := false, narrowed := true }
def CollectSeesUptoSaid : Prop := collectSeesUptoRow.holds Try.pinned (OpenSpec.upto collectSeesSpec)

end Rows
end Go.Proofs.Ytoldkemimhebaaa
