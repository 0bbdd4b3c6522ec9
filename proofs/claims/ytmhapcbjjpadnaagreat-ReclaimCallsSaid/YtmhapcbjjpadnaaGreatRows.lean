/-
  No cell of these rows narrows 'for every input' (looked for: loops, veiled, ifaces, maps, wideKeys, modest, calm, conditions, laid).
  DERIVED. THE GIVEN ROWS OF THIS SEAT. 10 by the template 'for every input the law returns true; each argument reads behind the call as it read before'; 0 by the template 'total and deterministic' (their statements: YtmhapcbjjpadnaaGreatTotals.lean).
  GIVEN WITH THE SEED: the statements are not yours to turn. If you find one false, say at which input.
  Laid BY PROGRAM, IN A SANDBOX (cutbox-rows.mjs): the forced cells as the released guide's own fill.sh prints them over the translation 37cf734692bdc5f8… (all of the seat's roots in one cut). By AI agents, Wed Nov 11 2026. No macro, syntax, notation, axiom, sorry.
-/
import Derived.Test.YtmhapcbjjpadnaaGreatChecked
import GoSem.Claim
import GoSem.ClaimJoined
import GoSem.ClaimMapViews
import Derived.JoinedTies
import Derived.KernelRfl
namespace Go.Proofs.YtmhapcbjjpadnaaGreat
/- THE CELL 'sum', in the pinned program and in every row, IS THE sha256 OF THE DUMP (.gsa) THAT YtmhapcbjjpadnaaGreatProg.lean LOADS. Nothing in Lean hashes anything: it is a label: what it is worth is what the hold of that sum in a sandbox is worth. -/
noncomputable def Tryz.pinned : Pinned := { name := "ytmhapcbjjpadnaagreat", sum := "37cf734692bdc5f827409083f407ca55bb6024bff7419f8c003058bb84a8d88b", checked := Tryz.checked }
namespace Rows
def none {H : Type} : Left H := { results := [], args := [] }

/-- 'pagecachelaw42.ReclaimCalls': WHATEVER THE INPUT: true; the input reads as it did. -/
def reclaimCallsSpec : ChangeSpec := { name := "reclaimCalls", fn := fun _ => fun
  | [d1, d2] => { results := [.lit (.bool true)], args := [d1, d2] }
  | _ => none }
def reclaimCallsRow : OpenClaim := { program := "ytmhapcbjjpadnaagreat", sum := "37cf734692bdc5f827409083f407ca55bb6024bff7419f8c003058bb84a8d88b", func := "pagecache/pagecachelaw42.ReclaimCalls", spec := "reclaimCalls", inPlace := ["slices.overlaps[int]"], unfollowed := true, recurses := true, plainKeys := false, apart := false }
def ReclaimCallsSaid : Prop := reclaimCallsRow.holds Tryz.pinned (OpenSpec.ofChange reclaimCallsSpec)

/-- ITS FALSE NEIGHBOUR: 'it returns false'. Refute it at one input. -/
def reclaimCallsWrong : ChangeSpec := { name := "reclaimCalls", fn := fun _ => fun
  | [d1, d2] => { results := [.lit (.bool false)], args := [d1, d2] }
  | _ => none }
def ReclaimCallsWrongFalsely : Prop := reclaimCallsRow.holds Tryz.pinned (OpenSpec.ofChange reclaimCallsWrong)

/-- 'pagecachelaw42.ReclaimGroups': WHATEVER THE INPUT: true; the input reads as it did. -/
def reclaimGroupsSpec : ChangeSpec := { name := "reclaimGroups", fn := fun _ => fun
  | [d1, d2] => { results := [.lit (.bool true)], args := [d1, d2] }
  | _ => none }
def reclaimGroupsRow : OpenClaim := { program := "ytmhapcbjjpadnaagreat", sum := "37cf734692bdc5f827409083f407ca55bb6024bff7419f8c003058bb84a8d88b", func := "pagecache/pagecachelaw42.ReclaimGroups", spec := "reclaimGroups", inPlace := ["slices.overlaps[int]"], unfollowed := true, recurses := true, plainKeys := false, apart := false }
def ReclaimGroupsSaid : Prop := reclaimGroupsRow.holds Tryz.pinned (OpenSpec.ofChange reclaimGroupsSpec)

/-- ITS FALSE NEIGHBOUR: 'it returns false'. Refute it at one input. -/
def reclaimGroupsWrong : ChangeSpec := { name := "reclaimGroups", fn := fun _ => fun
  | [d1, d2] => { results := [.lit (.bool false)], args := [d1, d2] }
  | _ => none }
def ReclaimGroupsWrongFalsely : Prop := reclaimGroupsRow.holds Tryz.pinned (OpenSpec.ofChange reclaimGroupsWrong)

/-- 'pagecachelaw42.ReclaimOldest': WHATEVER THE INPUT: true; the input reads as it did. -/
def reclaimOldestSpec : ChangeSpec := { name := "reclaimOldest", fn := fun _ => fun
  | [d1, d2] => { results := [.lit (.bool true)], args := [d1, d2] }
  | _ => none }
def reclaimOldestRow : OpenClaim := { program := "ytmhapcbjjpadnaagreat", sum := "37cf734692bdc5f827409083f407ca55bb6024bff7419f8c003058bb84a8d88b", func := "pagecache/pagecachelaw42.ReclaimOldest", spec := "reclaimOldest", inPlace := ["slices.overlaps[int]"], unfollowed := true, recurses := true, plainKeys := false, apart := false }
def ReclaimOldestSaid : Prop := reclaimOldestRow.holds Tryz.pinned (OpenSpec.ofChange reclaimOldestSpec)

/-- ITS FALSE NEIGHBOUR: 'it returns false'. Refute it at one input. -/
def reclaimOldestWrong : ChangeSpec := { name := "reclaimOldest", fn := fun _ => fun
  | [d1, d2] => { results := [.lit (.bool false)], args := [d1, d2] }
  | _ => none }
def ReclaimOldestWrongFalsely : Prop := reclaimOldestRow.holds Tryz.pinned (OpenSpec.ofChange reclaimOldestWrong)

/-- 'pagecachelaw40.CacheNew': WHATEVER THE INPUT: true; the input reads as it did. -/
def cacheNewSpec : ChangeSpec := { name := "cacheNew", fn := fun _ => fun
  | [d] => { results := [.lit (.bool true)], args := [d] }
  | _ => none }
def cacheNewRow : OpenClaim := { program := "ytmhapcbjjpadnaagreat", sum := "37cf734692bdc5f827409083f407ca55bb6024bff7419f8c003058bb84a8d88b", func := "pagecache/pagecachelaw40.CacheNew", spec := "cacheNew", inPlace := ["internal/abi.NoEscape", "internal/bytealg.MakeNoZero", "slices.overlaps[int]", "slices.overlaps[pagecache/api.Pte]"], unfollowed := true, recurses := true, plainKeys := false, apart := false }
def CacheNewSaid : Prop := cacheNewRow.holds Tryz.pinned (OpenSpec.ofChange cacheNewSpec)

/-- ITS FALSE NEIGHBOUR: 'it returns false'. Refute it at one input. -/
def cacheNewWrong : ChangeSpec := { name := "cacheNew", fn := fun _ => fun
  | [d] => { results := [.lit (.bool false)], args := [d] }
  | _ => none }
def CacheNewWrongFalsely : Prop := cacheNewRow.holds Tryz.pinned (OpenSpec.ofChange cacheNewWrong)

/-- 'pagecachelaw40.CacheFrames': WHATEVER THE INPUT: true; the input reads as it did. -/
def cacheFramesSpec : ChangeSpec := { name := "cacheFrames", fn := fun _ => fun
  | [d] => { results := [.lit (.bool true)], args := [d] }
  | _ => none }
def cacheFramesRow : OpenClaim := { program := "ytmhapcbjjpadnaagreat", sum := "37cf734692bdc5f827409083f407ca55bb6024bff7419f8c003058bb84a8d88b", func := "pagecache/pagecachelaw40.CacheFrames", spec := "cacheFrames", inPlace := ["internal/abi.NoEscape", "internal/bytealg.MakeNoZero", "slices.overlaps[int]", "slices.overlaps[pagecache/api.Pte]"], unfollowed := true, recurses := true, plainKeys := false, apart := false }
def CacheFramesSaid : Prop := cacheFramesRow.holds Tryz.pinned (OpenSpec.ofChange cacheFramesSpec)

/-- ITS FALSE NEIGHBOUR: 'it returns false'. Refute it at one input. -/
def cacheFramesWrong : ChangeSpec := { name := "cacheFrames", fn := fun _ => fun
  | [d] => { results := [.lit (.bool false)], args := [d] }
  | _ => none }
def CacheFramesWrongFalsely : Prop := cacheFramesRow.holds Tryz.pinned (OpenSpec.ofChange cacheFramesWrong)

/-- 'pagecachelaw40.CacheBytes': WHATEVER THE INPUT: true; the input reads as it did. -/
def cacheBytesSpec : ChangeSpec := { name := "cacheBytes", fn := fun _ => fun
  | [d] => { results := [.lit (.bool true)], args := [d] }
  | _ => none }
def cacheBytesRow : OpenClaim := { program := "ytmhapcbjjpadnaagreat", sum := "37cf734692bdc5f827409083f407ca55bb6024bff7419f8c003058bb84a8d88b", func := "pagecache/pagecachelaw40.CacheBytes", spec := "cacheBytes", inPlace := ["slices.overlaps[int]", "internal/abi.NoEscape", "internal/bytealg.MakeNoZero", "slices.overlaps[pagecache/api.Pte]"], unfollowed := true, recurses := true, plainKeys := false, apart := false }
def CacheBytesSaid : Prop := cacheBytesRow.holds Tryz.pinned (OpenSpec.ofChange cacheBytesSpec)

/-- ITS FALSE NEIGHBOUR: 'it returns false'. Refute it at one input. -/
def cacheBytesWrong : ChangeSpec := { name := "cacheBytes", fn := fun _ => fun
  | [d] => { results := [.lit (.bool false)], args := [d] }
  | _ => none }
def CacheBytesWrongFalsely : Prop := cacheBytesRow.holds Tryz.pinned (OpenSpec.ofChange cacheBytesWrong)

/-- 'pagecachelaw40.CacheEnters': WHATEVER THE INPUT: true; the input reads as it did. -/
def cacheEntersSpec : ChangeSpec := { name := "cacheEnters", fn := fun _ => fun
  | [d] => { results := [.lit (.bool true)], args := [d] }
  | _ => none }
def cacheEntersRow : OpenClaim := { program := "ytmhapcbjjpadnaagreat", sum := "37cf734692bdc5f827409083f407ca55bb6024bff7419f8c003058bb84a8d88b", func := "pagecache/pagecachelaw40.CacheEnters", spec := "cacheEnters", inPlace := ["slices.overlaps[pagecache/api.Pte]", "slices.overlaps[int]", "internal/abi.NoEscape", "internal/bytealg.MakeNoZero"], unfollowed := true, recurses := true, plainKeys := false, apart := false }
def CacheEntersSaid : Prop := cacheEntersRow.holds Tryz.pinned (OpenSpec.ofChange cacheEntersSpec)

/-- ITS FALSE NEIGHBOUR: 'it returns false'. Refute it at one input. -/
def cacheEntersWrong : ChangeSpec := { name := "cacheEnters", fn := fun _ => fun
  | [d] => { results := [.lit (.bool false)], args := [d] }
  | _ => none }
def CacheEntersWrongFalsely : Prop := cacheEntersRow.holds Tryz.pinned (OpenSpec.ofChange cacheEntersWrong)

/-- 'pagecachelaw40.CacheRefaults': WHATEVER THE INPUT: true; the input reads as it did. -/
def cacheRefaultsSpec : ChangeSpec := { name := "cacheRefaults", fn := fun _ => fun
  | [d] => { results := [.lit (.bool true)], args := [d] }
  | _ => none }
def cacheRefaultsRow : OpenClaim := { program := "ytmhapcbjjpadnaagreat", sum := "37cf734692bdc5f827409083f407ca55bb6024bff7419f8c003058bb84a8d88b", func := "pagecache/pagecachelaw40.CacheRefaults", spec := "cacheRefaults", inPlace := ["internal/abi.NoEscape", "internal/bytealg.MakeNoZero", "slices.overlaps[int]", "slices.overlaps[pagecache/api.Pte]"], unfollowed := true, recurses := true, plainKeys := false, apart := false }
def CacheRefaultsSaid : Prop := cacheRefaultsRow.holds Tryz.pinned (OpenSpec.ofChange cacheRefaultsSpec)

/-- ITS FALSE NEIGHBOUR: 'it returns false'. Refute it at one input. -/
def cacheRefaultsWrong : ChangeSpec := { name := "cacheRefaults", fn := fun _ => fun
  | [d] => { results := [.lit (.bool false)], args := [d] }
  | _ => none }
def CacheRefaultsWrongFalsely : Prop := cacheRefaultsRow.holds Tryz.pinned (OpenSpec.ofChange cacheRefaultsWrong)

/-- 'pagecachelaw40.CacheHoles': WHATEVER THE INPUT: true; the input reads as it did. -/
def cacheHolesSpec : ChangeSpec := { name := "cacheHoles", fn := fun _ => fun
  | [d] => { results := [.lit (.bool true)], args := [d] }
  | _ => none }
def cacheHolesRow : OpenClaim := { program := "ytmhapcbjjpadnaagreat", sum := "37cf734692bdc5f827409083f407ca55bb6024bff7419f8c003058bb84a8d88b", func := "pagecache/pagecachelaw40.CacheHoles", spec := "cacheHoles", inPlace := ["internal/abi.NoEscape", "internal/bytealg.MakeNoZero", "slices.overlaps[int]", "slices.overlaps[pagecache/api.Pte]"], unfollowed := true, recurses := true, plainKeys := false, apart := false }
def CacheHolesSaid : Prop := cacheHolesRow.holds Tryz.pinned (OpenSpec.ofChange cacheHolesSpec)

/-- ITS FALSE NEIGHBOUR: 'it returns false'. Refute it at one input. -/
def cacheHolesWrong : ChangeSpec := { name := "cacheHoles", fn := fun _ => fun
  | [d] => { results := [.lit (.bool false)], args := [d] }
  | _ => none }
def CacheHolesWrongFalsely : Prop := cacheHolesRow.holds Tryz.pinned (OpenSpec.ofChange cacheHolesWrong)

/-- 'pagecachelaw40.CacheModel': WHATEVER THE INPUT: true; the input reads as it did. -/
def cacheModelSpec : ChangeSpec := { name := "cacheModel", fn := fun _ => fun
  | [d] => { results := [.lit (.bool true)], args := [d] }
  | _ => none }
def cacheModelRow : OpenClaim := { program := "ytmhapcbjjpadnaagreat", sum := "37cf734692bdc5f827409083f407ca55bb6024bff7419f8c003058bb84a8d88b", func := "pagecache/pagecachelaw40.CacheModel", spec := "cacheModel", inPlace := ["internal/abi.NoEscape", "internal/bytealg.MakeNoZero", "slices.overlaps[int]", "slices.overlaps[pagecache/api.Pte]"], unfollowed := true, recurses := true, plainKeys := false, apart := false }
def CacheModelSaid : Prop := cacheModelRow.holds Tryz.pinned (OpenSpec.ofChange cacheModelSpec)

/-- ITS FALSE NEIGHBOUR: 'it returns false'. Refute it at one input. -/
def cacheModelWrong : ChangeSpec := { name := "cacheModel", fn := fun _ => fun
  | [d] => { results := [.lit (.bool false)], args := [d] }
  | _ => none }
def CacheModelWrongFalsely : Prop := cacheModelRow.holds Tryz.pinned (OpenSpec.ofChange cacheModelWrong)

/- THE SECOND FORM. 'bulk': how many values and letters a reading holds, each counted each time it is reached (what is shared counts as often as it is met; a slice's spare places count too). A statement '..UptoSaid' is the law's where the arguments, and the package variables that the reading takes, are together of bulk at most 1048576: NARROWER than '..Said'. Prove '..Said' where nothing that the law and all that it calls make is longer than what came in: it says more and counts as full. Else prove '..UptoSaid'. A law counts once. -/
mutual
def uptoBulk {H : Type} : DataW H → Nat
  | .lit (.string bytes) => bytes.length + 1
  | .lit _ => 1
  | .nil => 1
  | .ptr d => uptoBulk d + 1
  | .slice elems spare => uptoBulkAll elems + uptoBulkAll spare + 1
  | .agg parts => uptoBulkAll parts + 1
  | .iface _ d => uptoBulk d + 1
  | .map entries => uptoBulkEntries entries + 1
  | .held _ => 1
def uptoBulkAll {H : Type} : List (DataW H) → Nat
  | [] => 0
  | d :: r => uptoBulk d + uptoBulkAll r
def uptoBulkEntries {H : Type} : List (Lit × DataW H) → Nat
  | [] => 0
  | x :: r => uptoBulkEntry x + uptoBulkEntries r
def uptoBulkEntry {H : Type} : Lit × DataW H → Nat
  | (.string bytes, d) => bytes.length + uptoBulk d + 1
  | (_, d) => uptoBulk d + 1
 end
def uptoSmall : (H : Type) → List (DataW H) → Bool := fun _ ds => decide (uptoBulkAll ds ≤ 1048576)
def OpenSpec.upto (s : _root_.Go.ChangeSpec) : _root_.Go.OpenSpec := { _root_.Go.OpenSpec.ofChange s with cond := some uptoSmall }

/-- 'pagecachelaw42.ReclaimCalls', WHERE WHAT IT READS IS OF BULK AT MOST 1048576: true; the input reads as it did. -/
def reclaimCallsUptoRow : OpenClaim := { program := "ytmhapcbjjpadnaagreat", sum := "37cf734692bdc5f827409083f407ca55bb6024bff7419f8c003058bb84a8d88b", func := "pagecache/pagecachelaw42.ReclaimCalls", spec := "reclaimCalls", inPlace := ["slices.overlaps[int]"], unfollowed := true, recurses := true, plainKeys := false, apart := false, narrowed := true }
def ReclaimCallsUptoSaid : Prop := reclaimCallsUptoRow.holds Tryz.pinned (OpenSpec.upto reclaimCallsSpec)

/-- 'pagecachelaw42.ReclaimGroups', WHERE WHAT IT READS IS OF BULK AT MOST 1048576: true; the input reads as it did. -/
def reclaimGroupsUptoRow : OpenClaim := { program := "ytmhapcbjjpadnaagreat", sum := "37cf734692bdc5f827409083f407ca55bb6024bff7419f8c003058bb84a8d88b", func := "pagecache/pagecachelaw42.ReclaimGroups", spec := "reclaimGroups", inPlace := ["slices.overlaps[int]"], unfollowed := true, recurses := true, plainKeys := false, apart := false, narrowed := true }
def ReclaimGroupsUptoSaid : Prop := reclaimGroupsUptoRow.holds Tryz.pinned (OpenSpec.upto reclaimGroupsSpec)

/-- 'pagecachelaw42.ReclaimOldest', WHERE WHAT IT READS IS OF BULK AT MOST 1048576: true; the input reads as it did. -/
def reclaimOldestUptoRow : OpenClaim := { program := "ytmhapcbjjpadnaagreat", sum := "37cf734692bdc5f827409083f407ca55bb6024bff7419f8c003058bb84a8d88b", func := "pagecache/pagecachelaw42.ReclaimOldest", spec := "reclaimOldest", inPlace := ["slices.overlaps[int]"], unfollowed := true, recurses := true, plainKeys := false, apart := false, narrowed := true }
def ReclaimOldestUptoSaid : Prop := reclaimOldestUptoRow.holds Tryz.pinned (OpenSpec.upto reclaimOldestSpec)

/-- 'pagecachelaw40.CacheNew', WHERE WHAT IT READS IS OF BULK AT MOST 1048576: true; the input reads as it did. -/
def cacheNewUptoRow : OpenClaim := { program := "ytmhapcbjjpadnaagreat", sum := "37cf734692bdc5f827409083f407ca55bb6024bff7419f8c003058bb84a8d88b", func := "pagecache/pagecachelaw40.CacheNew", spec := "cacheNew", inPlace := ["internal/abi.NoEscape", "internal/bytealg.MakeNoZero", "slices.overlaps[int]", "slices.overlaps[pagecache/api.Pte]"], unfollowed := true, recurses := true, plainKeys := false, apart := false, narrowed := true }
def CacheNewUptoSaid : Prop := cacheNewUptoRow.holds Tryz.pinned (OpenSpec.upto cacheNewSpec)

/-- 'pagecachelaw40.CacheFrames', WHERE WHAT IT READS IS OF BULK AT MOST 1048576: true; the input reads as it did. -/
def cacheFramesUptoRow : OpenClaim := { program := "ytmhapcbjjpadnaagreat", sum := "37cf734692bdc5f827409083f407ca55bb6024bff7419f8c003058bb84a8d88b", func := "pagecache/pagecachelaw40.CacheFrames", spec := "cacheFrames", inPlace := ["internal/abi.NoEscape", "internal/bytealg.MakeNoZero", "slices.overlaps[int]", "slices.overlaps[pagecache/api.Pte]"], unfollowed := true, recurses := true, plainKeys := false, apart := false, narrowed := true }
def CacheFramesUptoSaid : Prop := cacheFramesUptoRow.holds Tryz.pinned (OpenSpec.upto cacheFramesSpec)

/-- 'pagecachelaw40.CacheBytes', WHERE WHAT IT READS IS OF BULK AT MOST 1048576: true; the input reads as it did. -/
def cacheBytesUptoRow : OpenClaim := { program := "ytmhapcbjjpadnaagreat", sum := "37cf734692bdc5f827409083f407ca55bb6024bff7419f8c003058bb84a8d88b", func := "pagecache/pagecachelaw40.CacheBytes", spec := "cacheBytes", inPlace := ["slices.overlaps[int]", "internal/abi.NoEscape", "internal/bytealg.MakeNoZero", "slices.overlaps[pagecache/api.Pte]"], unfollowed := true, recurses := true, plainKeys := false, apart := false, narrowed := true }
def CacheBytesUptoSaid : Prop := cacheBytesUptoRow.holds Tryz.pinned (OpenSpec.upto cacheBytesSpec)

/-- 'pagecachelaw40.CacheEnters', WHERE WHAT IT READS IS OF BULK AT MOST 1048576: true; the input reads as it did. -/
def cacheEntersUptoRow : OpenClaim := { program := "ytmhapcbjjpadnaagreat", sum := "37cf734692bdc5f827409083f407ca55bb6024bff7419f8c003058bb84a8d88b", func := "pagecache/pagecachelaw40.CacheEnters", spec := "cacheEnters", inPlace := ["slices.overlaps[pagecache/api.Pte]", "slices.overlaps[int]", "internal/abi.NoEscape", "internal/bytealg.MakeNoZero"], unfollowed := true, recurses := true, plainKeys := false, apart := false, narrowed := true }
def CacheEntersUptoSaid : Prop := cacheEntersUptoRow.holds Tryz.pinned (OpenSpec.upto cacheEntersSpec)

/-- 'pagecachelaw40.CacheRefaults', WHERE WHAT IT READS IS OF BULK AT MOST 1048576: true; the input reads as it did. -/
def cacheRefaultsUptoRow : OpenClaim := { program := "ytmhapcbjjpadnaagreat", sum := "37cf734692bdc5f827409083f407ca55bb6024bff7419f8c003058bb84a8d88b", func := "pagecache/pagecachelaw40.CacheRefaults", spec := "cacheRefaults", inPlace := ["internal/abi.NoEscape", "internal/bytealg.MakeNoZero", "slices.overlaps[int]", "slices.overlaps[pagecache/api.Pte]"], unfollowed := true, recurses := true, plainKeys := false, apart := false, narrowed := true }
def CacheRefaultsUptoSaid : Prop := cacheRefaultsUptoRow.holds Tryz.pinned (OpenSpec.upto cacheRefaultsSpec)

/-- 'pagecachelaw40.CacheHoles', WHERE WHAT IT READS IS OF BULK AT MOST 1048576: true; the input reads as it did. -/
def cacheHolesUptoRow : OpenClaim := { program := "ytmhapcbjjpadnaagreat", sum := "37cf734692bdc5f827409083f407ca55bb6024bff7419f8c003058bb84a8d88b", func := "pagecache/pagecachelaw40.CacheHoles", spec := "cacheHoles", inPlace := ["internal/abi.NoEscape", "internal/bytealg.MakeNoZero", "slices.overlaps[int]", "slices.overlaps[pagecache/api.Pte]"], unfollowed := true, recurses := true, plainKeys := false, apart := false, narrowed := true }
def CacheHolesUptoSaid : Prop := cacheHolesUptoRow.holds Tryz.pinned (OpenSpec.upto cacheHolesSpec)

/-- 'pagecachelaw40.CacheModel', WHERE WHAT IT READS IS OF BULK AT MOST 1048576: true; the input reads as it did. -/
def cacheModelUptoRow : OpenClaim := { program := "ytmhapcbjjpadnaagreat", sum := "37cf734692bdc5f827409083f407ca55bb6024bff7419f8c003058bb84a8d88b", func := "pagecache/pagecachelaw40.CacheModel", spec := "cacheModel", inPlace := ["internal/abi.NoEscape", "internal/bytealg.MakeNoZero", "slices.overlaps[int]", "slices.overlaps[pagecache/api.Pte]"], unfollowed := true, recurses := true, plainKeys := false, apart := false, narrowed := true }
def CacheModelUptoSaid : Prop := cacheModelUptoRow.holds Tryz.pinned (OpenSpec.upto cacheModelSpec)

end Rows
end Go.Proofs.YtmhapcbjjpadnaaGreat
