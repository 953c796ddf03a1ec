/-
  NARROWER THAN 'FOR EVERY INPUT', by the rows' own cells (each row's printed sentence says how): TransitExtra: loops · GrantAsks: loops · GrantKeeps: loops · GrantReplies: loops · TransitDoes: loops · TransitOnly: loops · TransitAsked: loops · ProxyDoes: loops · ProxyOnly: loops · ClientFull: loops · ClientDoes: loops · ClientFinds: loops · ClientOthers: loops.
  DERIVED. THE GIVEN ROWS OF THIS SEAT. 25 by the template 'for every input the law returns true; each argument reads behind the call as it read before'; 0 by the template 'total and deterministic' (their statements: YtobhfopgoidniaaGreatTotals.lean).
  GIVEN WITH THE SEED: the statements are not yours to turn. If you find one false, say at which input.
  Laid BY PROGRAM, IN A SANDBOX (cutbox-rows.mjs): the forced cells as the released guide's own fill.sh prints them over the translation 222f942372e95965… (all of the seat's roots in one cut). By AI agents, Wed Nov 11 2026. No macro, syntax, notation, axiom, sorry.
-/
import Derived.Test.YtobhfopgoidniaaGreatChecked
import GoSem.Claim
import GoSem.ClaimJoined
import GoSem.ClaimMapViews
import Derived.JoinedTies
import Derived.KernelRfl
namespace Go.Proofs.YtobhfopgoidniaaGreat
/- THE CELL 'sum', in the pinned program and in every row, IS THE sha256 OF THE DUMP (.gsa) THAT YtobhfopgoidniaaGreatProg.lean LOADS. Nothing in Lean hashes anything: it is a label: what it is worth is what the hold of that sum in a sandbox is worth. -/
noncomputable def Tryz.pinned : Pinned := { name := "ytobhfopgoidniaagreat", sum := "222f942372e959653c91933bd85cd209e7e97157f1bb326d812395323f63394e", checked := Tryz.checked }
namespace Rows
def none {H : Type} : Left H := { results := [], args := [] }

/-- 'legatelaw18.TransitExtra': WHATEVER THE INPUT: true; the input reads as it did. -/
def transitExtraSpec : ChangeSpec := { name := "transitExtra", fn := fun _ => fun
  | [d1, d2] => { results := [.lit (.bool true)], args := [d1, d2] }
  | _ => none }
def transitExtraRow : OpenClaim := { program := "ytobhfopgoidniaagreat", sum := "222f942372e959653c91933bd85cd209e7e97157f1bb326d812395323f63394e", func := "legate/legatelaw18.TransitExtra", spec := "transitExtra", inPlace := ["internal/bytealg.IndexByteString", "internal/bytealg.abigen_runtime_cmpstring", "math.archTrunc", "math.Float64bits", "math.Float64frombits"], unfollowed := true, recurses := true, loops := true, apart := false }
def TransitExtraSaid : Prop := transitExtraRow.holds Tryz.pinned (OpenSpec.ofChange transitExtraSpec)

/-- ITS FALSE NEIGHBOUR: 'it returns false'. Refute it at one input. -/
def transitExtraWrong : ChangeSpec := { name := "transitExtra", fn := fun _ => fun
  | [d1, d2] => { results := [.lit (.bool false)], args := [d1, d2] }
  | _ => none }
def TransitExtraWrongFalsely : Prop := transitExtraRow.holds Tryz.pinned (OpenSpec.ofChange transitExtraWrong)

/-- 'legatelaw18.TransitWays': WHATEVER THE INPUT: true; the input reads as it did. -/
def transitWaysSpec : ChangeSpec := { name := "transitWays", fn := fun _ => fun
  | [d1, d2, d3, d4, d5] => { results := [.lit (.bool true)], args := [d1, d2, d3, d4, d5] }
  | _ => none }
def transitWaysRow : OpenClaim := { program := "ytobhfopgoidniaagreat", sum := "222f942372e959653c91933bd85cd209e7e97157f1bb326d812395323f63394e", func := "legate/legatelaw18.TransitWays", spec := "transitWays", inPlace := ["internal/bytealg.IndexByteString", "internal/bytealg.abigen_runtime_cmpstring", "math.archTrunc", "math.Float64bits", "math.Float64frombits"], unfollowed := true, recurses := true, apart := false }
def TransitWaysSaid : Prop := transitWaysRow.holds Tryz.pinned (OpenSpec.ofChange transitWaysSpec)

/-- ITS FALSE NEIGHBOUR: 'it returns false'. Refute it at one input. -/
def transitWaysWrong : ChangeSpec := { name := "transitWays", fn := fun _ => fun
  | [d1, d2, d3, d4, d5] => { results := [.lit (.bool false)], args := [d1, d2, d3, d4, d5] }
  | _ => none }
def TransitWaysWrongFalsely : Prop := transitWaysRow.holds Tryz.pinned (OpenSpec.ofChange transitWaysWrong)

/-- 'legatelaw17.GrantAsks': WHATEVER THE INPUT: true; the input reads as it did. -/
def grantAsksSpec : ChangeSpec := { name := "grantAsks", fn := fun _ => fun
  | [d1, d2, d3, d4, d5, d6, d7, d8, d9] => { results := [.lit (.bool true)], args := [d1, d2, d3, d4, d5, d6, d7, d8, d9] }
  | _ => none }
def grantAsksRow : OpenClaim := { program := "ytobhfopgoidniaagreat", sum := "222f942372e959653c91933bd85cd209e7e97157f1bb326d812395323f63394e", func := "legate/legatelaw17.GrantAsks", spec := "grantAsks", inPlace := ["internal/bytealg.IndexByteString", "internal/bytealg.abigen_runtime_cmpstring", "math.archTrunc", "math.Float64bits", "math.Float64frombits"], unfollowed := true, recurses := true, loops := true, apart := false }
def GrantAsksSaid : Prop := grantAsksRow.holds Tryz.pinned (OpenSpec.ofChange grantAsksSpec)

/-- ITS FALSE NEIGHBOUR: 'it returns false'. Refute it at one input. -/
def grantAsksWrong : ChangeSpec := { name := "grantAsks", fn := fun _ => fun
  | [d1, d2, d3, d4, d5, d6, d7, d8, d9] => { results := [.lit (.bool false)], args := [d1, d2, d3, d4, d5, d6, d7, d8, d9] }
  | _ => none }
def GrantAsksWrongFalsely : Prop := grantAsksRow.holds Tryz.pinned (OpenSpec.ofChange grantAsksWrong)

/-- 'legatelaw17.GrantKeeps': WHATEVER THE INPUT: true; the input reads as it did. -/
def grantKeepsSpec : ChangeSpec := { name := "grantKeeps", fn := fun _ => fun
  | [d1, d2, d3, d4] => { results := [.lit (.bool true)], args := [d1, d2, d3, d4] }
  | _ => none }
def grantKeepsRow : OpenClaim := { program := "ytobhfopgoidniaagreat", sum := "222f942372e959653c91933bd85cd209e7e97157f1bb326d812395323f63394e", func := "legate/legatelaw17.GrantKeeps", spec := "grantKeeps", inPlace := ["internal/bytealg.IndexByteString", "internal/bytealg.abigen_runtime_cmpstring", "math.archTrunc", "math.Float64bits", "math.Float64frombits"], unfollowed := true, recurses := true, loops := true, apart := false }
def GrantKeepsSaid : Prop := grantKeepsRow.holds Tryz.pinned (OpenSpec.ofChange grantKeepsSpec)

/-- ITS FALSE NEIGHBOUR: 'it returns false'. Refute it at one input. -/
def grantKeepsWrong : ChangeSpec := { name := "grantKeeps", fn := fun _ => fun
  | [d1, d2, d3, d4] => { results := [.lit (.bool false)], args := [d1, d2, d3, d4] }
  | _ => none }
def GrantKeepsWrongFalsely : Prop := grantKeepsRow.holds Tryz.pinned (OpenSpec.ofChange grantKeepsWrong)

/-- 'legatelaw17.GrantOver': WHATEVER THE INPUT: true; the input reads as it did. -/
def grantOverSpec : ChangeSpec := { name := "grantOver", fn := fun _ => fun
  | [d1, d2, d3, d4, d5] => { results := [.lit (.bool true)], args := [d1, d2, d3, d4, d5] }
  | _ => none }
def grantOverRow : OpenClaim := { program := "ytobhfopgoidniaagreat", sum := "222f942372e959653c91933bd85cd209e7e97157f1bb326d812395323f63394e", func := "legate/legatelaw17.GrantOver", spec := "grantOver", inPlace := ["internal/bytealg.IndexByteString", "internal/bytealg.abigen_runtime_cmpstring", "math.archTrunc", "math.Float64bits", "math.Float64frombits"], unfollowed := true, recurses := true, apart := false }
def GrantOverSaid : Prop := grantOverRow.holds Tryz.pinned (OpenSpec.ofChange grantOverSpec)

/-- ITS FALSE NEIGHBOUR: 'it returns false'. Refute it at one input. -/
def grantOverWrong : ChangeSpec := { name := "grantOver", fn := fun _ => fun
  | [d1, d2, d3, d4, d5] => { results := [.lit (.bool false)], args := [d1, d2, d3, d4, d5] }
  | _ => none }
def GrantOverWrongFalsely : Prop := grantOverRow.holds Tryz.pinned (OpenSpec.ofChange grantOverWrong)

/-- 'legatelaw17.GrantForwarded': WHATEVER THE INPUT: true; the input reads as it did. -/
def grantForwardedSpec : ChangeSpec := { name := "grantForwarded", fn := fun _ => fun
  | [d1, d2, d3] => { results := [.lit (.bool true)], args := [d1, d2, d3] }
  | _ => none }
def grantForwardedRow : OpenClaim := { program := "ytobhfopgoidniaagreat", sum := "222f942372e959653c91933bd85cd209e7e97157f1bb326d812395323f63394e", func := "legate/legatelaw17.GrantForwarded", spec := "grantForwarded", inPlace := ["internal/bytealg.IndexByteString", "internal/bytealg.abigen_runtime_cmpstring", "math.archTrunc", "math.Float64bits", "math.Float64frombits"], unfollowed := true, recurses := true, apart := false }
def GrantForwardedSaid : Prop := grantForwardedRow.holds Tryz.pinned (OpenSpec.ofChange grantForwardedSpec)

/-- ITS FALSE NEIGHBOUR: 'it returns false'. Refute it at one input. -/
def grantForwardedWrong : ChangeSpec := { name := "grantForwarded", fn := fun _ => fun
  | [d1, d2, d3] => { results := [.lit (.bool false)], args := [d1, d2, d3] }
  | _ => none }
def GrantForwardedWrongFalsely : Prop := grantForwardedRow.holds Tryz.pinned (OpenSpec.ofChange grantForwardedWrong)

/-- 'legatelaw17.GrantReplies': WHATEVER THE INPUT: true; the input reads as it did. -/
def grantRepliesSpec : ChangeSpec := { name := "grantReplies", fn := fun _ => fun
  | [d1, d2, d3, d4, d5] => { results := [.lit (.bool true)], args := [d1, d2, d3, d4, d5] }
  | _ => none }
def grantRepliesRow : OpenClaim := { program := "ytobhfopgoidniaagreat", sum := "222f942372e959653c91933bd85cd209e7e97157f1bb326d812395323f63394e", func := "legate/legatelaw17.GrantReplies", spec := "grantReplies", inPlace := ["internal/bytealg.IndexByteString", "internal/bytealg.abigen_runtime_cmpstring", "math.archTrunc", "math.Float64bits", "math.Float64frombits"], unfollowed := true, recurses := true, loops := true, apart := false }
def GrantRepliesSaid : Prop := grantRepliesRow.holds Tryz.pinned (OpenSpec.ofChange grantRepliesSpec)

/-- ITS FALSE NEIGHBOUR: 'it returns false'. Refute it at one input. -/
def grantRepliesWrong : ChangeSpec := { name := "grantReplies", fn := fun _ => fun
  | [d1, d2, d3, d4, d5] => { results := [.lit (.bool false)], args := [d1, d2, d3, d4, d5] }
  | _ => none }
def GrantRepliesWrongFalsely : Prop := grantRepliesRow.holds Tryz.pinned (OpenSpec.ofChange grantRepliesWrong)

/-- 'legatelaw18.TransitDoes': WHATEVER THE INPUT: true; the input reads as it did. -/
def transitDoesSpec : ChangeSpec := { name := "transitDoes", fn := fun _ => fun
  | [d1, d2, d3, d4, d5] => { results := [.lit (.bool true)], args := [d1, d2, d3, d4, d5] }
  | _ => none }
def transitDoesRow : OpenClaim := { program := "ytobhfopgoidniaagreat", sum := "222f942372e959653c91933bd85cd209e7e97157f1bb326d812395323f63394e", func := "legate/legatelaw18.TransitDoes", spec := "transitDoes", inPlace := ["internal/bytealg.IndexByteString", "internal/bytealg.abigen_runtime_cmpstring", "math.archTrunc", "math.Float64bits", "math.Float64frombits"], unfollowed := true, recurses := true, loops := true, apart := false }
def TransitDoesSaid : Prop := transitDoesRow.holds Tryz.pinned (OpenSpec.ofChange transitDoesSpec)

/-- ITS FALSE NEIGHBOUR: 'it returns false'. Refute it at one input. -/
def transitDoesWrong : ChangeSpec := { name := "transitDoes", fn := fun _ => fun
  | [d1, d2, d3, d4, d5] => { results := [.lit (.bool false)], args := [d1, d2, d3, d4, d5] }
  | _ => none }
def TransitDoesWrongFalsely : Prop := transitDoesRow.holds Tryz.pinned (OpenSpec.ofChange transitDoesWrong)

/-- 'legatelaw18.TransitOnly': WHATEVER THE INPUT: true; the input reads as it did. -/
def transitOnlySpec : ChangeSpec := { name := "transitOnly", fn := fun _ => fun
  | [d1, d2, d3] => { results := [.lit (.bool true)], args := [d1, d2, d3] }
  | _ => none }
def transitOnlyRow : OpenClaim := { program := "ytobhfopgoidniaagreat", sum := "222f942372e959653c91933bd85cd209e7e97157f1bb326d812395323f63394e", func := "legate/legatelaw18.TransitOnly", spec := "transitOnly", inPlace := ["internal/bytealg.IndexByteString", "internal/bytealg.abigen_runtime_cmpstring", "math.archTrunc", "math.Float64bits", "math.Float64frombits"], unfollowed := true, recurses := true, loops := true, apart := false }
def TransitOnlySaid : Prop := transitOnlyRow.holds Tryz.pinned (OpenSpec.ofChange transitOnlySpec)

/-- ITS FALSE NEIGHBOUR: 'it returns false'. Refute it at one input. -/
def transitOnlyWrong : ChangeSpec := { name := "transitOnly", fn := fun _ => fun
  | [d1, d2, d3] => { results := [.lit (.bool false)], args := [d1, d2, d3] }
  | _ => none }
def TransitOnlyWrongFalsely : Prop := transitOnlyRow.holds Tryz.pinned (OpenSpec.ofChange transitOnlyWrong)

/-- 'legatelaw18.TransitAsked': WHATEVER THE INPUT: true; the input reads as it did. -/
def transitAskedSpec : ChangeSpec := { name := "transitAsked", fn := fun _ => fun
  | [d1, d2, d3] => { results := [.lit (.bool true)], args := [d1, d2, d3] }
  | _ => none }
def transitAskedRow : OpenClaim := { program := "ytobhfopgoidniaagreat", sum := "222f942372e959653c91933bd85cd209e7e97157f1bb326d812395323f63394e", func := "legate/legatelaw18.TransitAsked", spec := "transitAsked", inPlace := ["internal/bytealg.IndexByteString", "internal/bytealg.abigen_runtime_cmpstring", "math.archTrunc", "math.Float64bits", "math.Float64frombits"], unfollowed := true, recurses := true, loops := true, apart := false }
def TransitAskedSaid : Prop := transitAskedRow.holds Tryz.pinned (OpenSpec.ofChange transitAskedSpec)

/-- ITS FALSE NEIGHBOUR: 'it returns false'. Refute it at one input. -/
def transitAskedWrong : ChangeSpec := { name := "transitAsked", fn := fun _ => fun
  | [d1, d2, d3] => { results := [.lit (.bool false)], args := [d1, d2, d3] }
  | _ => none }
def TransitAskedWrongFalsely : Prop := transitAskedRow.holds Tryz.pinned (OpenSpec.ofChange transitAskedWrong)

/-- 'legatelaw19.ProxyDoes': WHATEVER THE INPUT: true; the input reads as it did. -/
def proxyDoesSpec : ChangeSpec := { name := "proxyDoes", fn := fun _ => fun
  | [d1, d2, d3, d4, d5] => { results := [.lit (.bool true)], args := [d1, d2, d3, d4, d5] }
  | _ => none }
def proxyDoesRow : OpenClaim := { program := "ytobhfopgoidniaagreat", sum := "222f942372e959653c91933bd85cd209e7e97157f1bb326d812395323f63394e", func := "legate/legatelaw19.ProxyDoes", spec := "proxyDoes", inPlace := ["internal/bytealg.IndexByteString", "internal/bytealg.abigen_runtime_cmpstring", "math.archTrunc", "math.Float64bits", "math.Float64frombits"], unfollowed := true, recurses := true, loops := true, apart := false }
def ProxyDoesSaid : Prop := proxyDoesRow.holds Tryz.pinned (OpenSpec.ofChange proxyDoesSpec)

/-- ITS FALSE NEIGHBOUR: 'it returns false'. Refute it at one input. -/
def proxyDoesWrong : ChangeSpec := { name := "proxyDoes", fn := fun _ => fun
  | [d1, d2, d3, d4, d5] => { results := [.lit (.bool false)], args := [d1, d2, d3, d4, d5] }
  | _ => none }
def ProxyDoesWrongFalsely : Prop := proxyDoesRow.holds Tryz.pinned (OpenSpec.ofChange proxyDoesWrong)

/-- 'legatelaw19.ProxyOnly': WHATEVER THE INPUT: true; the input reads as it did. -/
def proxyOnlySpec : ChangeSpec := { name := "proxyOnly", fn := fun _ => fun
  | [d1, d2, d3] => { results := [.lit (.bool true)], args := [d1, d2, d3] }
  | _ => none }
def proxyOnlyRow : OpenClaim := { program := "ytobhfopgoidniaagreat", sum := "222f942372e959653c91933bd85cd209e7e97157f1bb326d812395323f63394e", func := "legate/legatelaw19.ProxyOnly", spec := "proxyOnly", inPlace := ["internal/bytealg.IndexByteString", "internal/bytealg.abigen_runtime_cmpstring", "math.archTrunc", "math.Float64bits", "math.Float64frombits"], unfollowed := true, recurses := true, loops := true, apart := false }
def ProxyOnlySaid : Prop := proxyOnlyRow.holds Tryz.pinned (OpenSpec.ofChange proxyOnlySpec)

/-- ITS FALSE NEIGHBOUR: 'it returns false'. Refute it at one input. -/
def proxyOnlyWrong : ChangeSpec := { name := "proxyOnly", fn := fun _ => fun
  | [d1, d2, d3] => { results := [.lit (.bool false)], args := [d1, d2, d3] }
  | _ => none }
def ProxyOnlyWrongFalsely : Prop := proxyOnlyRow.holds Tryz.pinned (OpenSpec.ofChange proxyOnlyWrong)

/-- 'legatelaw19.ProxyChain': WHATEVER THE INPUT: true; the input reads as it did. -/
def proxyChainSpec : ChangeSpec := { name := "proxyChain", fn := fun _ => fun
  | [d1, d2, d3, d4] => { results := [.lit (.bool true)], args := [d1, d2, d3, d4] }
  | _ => none }
def proxyChainRow : OpenClaim := { program := "ytobhfopgoidniaagreat", sum := "222f942372e959653c91933bd85cd209e7e97157f1bb326d812395323f63394e", func := "legate/legatelaw19.ProxyChain", spec := "proxyChain", inPlace := ["internal/bytealg.IndexByteString", "internal/bytealg.abigen_runtime_cmpstring", "math.archTrunc", "math.Float64bits", "math.Float64frombits"], unfollowed := true, recurses := true, apart := false }
def ProxyChainSaid : Prop := proxyChainRow.holds Tryz.pinned (OpenSpec.ofChange proxyChainSpec)

/-- ITS FALSE NEIGHBOUR: 'it returns false'. Refute it at one input. -/
def proxyChainWrong : ChangeSpec := { name := "proxyChain", fn := fun _ => fun
  | [d1, d2, d3, d4] => { results := [.lit (.bool false)], args := [d1, d2, d3, d4] }
  | _ => none }
def ProxyChainWrongFalsely : Prop := proxyChainRow.holds Tryz.pinned (OpenSpec.ofChange proxyChainWrong)

/-- 'legatelaw19.ProxyAlone': WHATEVER THE INPUT: true; the input reads as it did. -/
def proxyAloneSpec : ChangeSpec := { name := "proxyAlone", fn := fun _ => fun
  | [d1, d2] => { results := [.lit (.bool true)], args := [d1, d2] }
  | _ => none }
def proxyAloneRow : OpenClaim := { program := "ytobhfopgoidniaagreat", sum := "222f942372e959653c91933bd85cd209e7e97157f1bb326d812395323f63394e", func := "legate/legatelaw19.ProxyAlone", spec := "proxyAlone", inPlace := ["internal/bytealg.IndexByteString", "internal/bytealg.abigen_runtime_cmpstring", "math.archTrunc", "math.Float64bits", "math.Float64frombits"], unfollowed := true, recurses := true, apart := false }
def ProxyAloneSaid : Prop := proxyAloneRow.holds Tryz.pinned (OpenSpec.ofChange proxyAloneSpec)

/-- ITS FALSE NEIGHBOUR: 'it returns false'. Refute it at one input. -/
def proxyAloneWrong : ChangeSpec := { name := "proxyAlone", fn := fun _ => fun
  | [d1, d2] => { results := [.lit (.bool false)], args := [d1, d2] }
  | _ => none }
def ProxyAloneWrongFalsely : Prop := proxyAloneRow.holds Tryz.pinned (OpenSpec.ofChange proxyAloneWrong)

/-- 'legatelaw19.ProxyEnds': WHATEVER THE INPUT: true; the input reads as it did. -/
def proxyEndsSpec : ChangeSpec := { name := "proxyEnds", fn := fun _ => fun
  | [d1, d2, d3, d4] => { results := [.lit (.bool true)], args := [d1, d2, d3, d4] }
  | _ => none }
def proxyEndsRow : OpenClaim := { program := "ytobhfopgoidniaagreat", sum := "222f942372e959653c91933bd85cd209e7e97157f1bb326d812395323f63394e", func := "legate/legatelaw19.ProxyEnds", spec := "proxyEnds", inPlace := ["internal/bytealg.IndexByteString", "internal/bytealg.abigen_runtime_cmpstring", "math.archTrunc", "math.Float64bits", "math.Float64frombits"], unfollowed := true, recurses := true, apart := false }
def ProxyEndsSaid : Prop := proxyEndsRow.holds Tryz.pinned (OpenSpec.ofChange proxyEndsSpec)

/-- ITS FALSE NEIGHBOUR: 'it returns false'. Refute it at one input. -/
def proxyEndsWrong : ChangeSpec := { name := "proxyEnds", fn := fun _ => fun
  | [d1, d2, d3, d4] => { results := [.lit (.bool false)], args := [d1, d2, d3, d4] }
  | _ => none }
def ProxyEndsWrongFalsely : Prop := proxyEndsRow.holds Tryz.pinned (OpenSpec.ofChange proxyEndsWrong)

/-- 'legatelaw21.ClientIn': WHATEVER THE INPUT: true; the input reads as it did. -/
def clientInSpec : ChangeSpec := { name := "clientIn", fn := fun _ => fun
  | [d1, d2, d3, d4, d5] => { results := [.lit (.bool true)], args := [d1, d2, d3, d4, d5] }
  | _ => none }
def clientInRow : OpenClaim := { program := "ytobhfopgoidniaagreat", sum := "222f942372e959653c91933bd85cd209e7e97157f1bb326d812395323f63394e", func := "legate/legatelaw21.ClientIn", spec := "clientIn", inPlace := ["internal/bytealg.IndexByteString", "internal/bytealg.abigen_runtime_cmpstring", "math.archTrunc", "math.Float64bits", "math.Float64frombits"], unfollowed := true, recurses := true, apart := false }
def ClientInSaid : Prop := clientInRow.holds Tryz.pinned (OpenSpec.ofChange clientInSpec)

/-- ITS FALSE NEIGHBOUR: 'it returns false'. Refute it at one input. -/
def clientInWrong : ChangeSpec := { name := "clientIn", fn := fun _ => fun
  | [d1, d2, d3, d4, d5] => { results := [.lit (.bool false)], args := [d1, d2, d3, d4, d5] }
  | _ => none }
def ClientInWrongFalsely : Prop := clientInRow.holds Tryz.pinned (OpenSpec.ofChange clientInWrong)

/-- 'legatelaw21.ClientFull': WHATEVER THE INPUT: true; the input reads as it did. -/
def clientFullSpec : ChangeSpec := { name := "clientFull", fn := fun _ => fun
  | [d1, d2, d3] => { results := [.lit (.bool true)], args := [d1, d2, d3] }
  | _ => none }
def clientFullRow : OpenClaim := { program := "ytobhfopgoidniaagreat", sum := "222f942372e959653c91933bd85cd209e7e97157f1bb326d812395323f63394e", func := "legate/legatelaw21.ClientFull", spec := "clientFull", inPlace := ["internal/bytealg.IndexByteString", "internal/bytealg.abigen_runtime_cmpstring", "math.archTrunc", "math.Float64bits", "math.Float64frombits"], unfollowed := true, recurses := true, loops := true, apart := false }
def ClientFullSaid : Prop := clientFullRow.holds Tryz.pinned (OpenSpec.ofChange clientFullSpec)

/-- ITS FALSE NEIGHBOUR: 'it returns false'. Refute it at one input. -/
def clientFullWrong : ChangeSpec := { name := "clientFull", fn := fun _ => fun
  | [d1, d2, d3] => { results := [.lit (.bool false)], args := [d1, d2, d3] }
  | _ => none }
def ClientFullWrongFalsely : Prop := clientFullRow.holds Tryz.pinned (OpenSpec.ofChange clientFullWrong)

/-- 'legatelaw21.ClientDoes': WHATEVER THE INPUT: true; the input reads as it did. -/
def clientDoesSpec : ChangeSpec := { name := "clientDoes", fn := fun _ => fun
  | [d1, d2, d3, d4] => { results := [.lit (.bool true)], args := [d1, d2, d3, d4] }
  | _ => none }
def clientDoesRow : OpenClaim := { program := "ytobhfopgoidniaagreat", sum := "222f942372e959653c91933bd85cd209e7e97157f1bb326d812395323f63394e", func := "legate/legatelaw21.ClientDoes", spec := "clientDoes", inPlace := ["internal/bytealg.IndexByteString", "internal/bytealg.abigen_runtime_cmpstring", "math.archTrunc", "math.Float64bits", "math.Float64frombits"], unfollowed := true, recurses := true, loops := true, apart := false }
def ClientDoesSaid : Prop := clientDoesRow.holds Tryz.pinned (OpenSpec.ofChange clientDoesSpec)

/-- ITS FALSE NEIGHBOUR: 'it returns false'. Refute it at one input. -/
def clientDoesWrong : ChangeSpec := { name := "clientDoes", fn := fun _ => fun
  | [d1, d2, d3, d4] => { results := [.lit (.bool false)], args := [d1, d2, d3, d4] }
  | _ => none }
def ClientDoesWrongFalsely : Prop := clientDoesRow.holds Tryz.pinned (OpenSpec.ofChange clientDoesWrong)

/-- 'legatelaw21.ClientFinds': WHATEVER THE INPUT: true; the input reads as it did. -/
def clientFindsSpec : ChangeSpec := { name := "clientFinds", fn := fun _ => fun
  | [d1, d2, d3, d4] => { results := [.lit (.bool true)], args := [d1, d2, d3, d4] }
  | _ => none }
def clientFindsRow : OpenClaim := { program := "ytobhfopgoidniaagreat", sum := "222f942372e959653c91933bd85cd209e7e97157f1bb326d812395323f63394e", func := "legate/legatelaw21.ClientFinds", spec := "clientFinds", inPlace := ["internal/bytealg.IndexByteString", "internal/bytealg.abigen_runtime_cmpstring", "math.archTrunc", "math.Float64bits", "math.Float64frombits"], unfollowed := true, recurses := true, loops := true, apart := false }
def ClientFindsSaid : Prop := clientFindsRow.holds Tryz.pinned (OpenSpec.ofChange clientFindsSpec)

/-- ITS FALSE NEIGHBOUR: 'it returns false'. Refute it at one input. -/
def clientFindsWrong : ChangeSpec := { name := "clientFinds", fn := fun _ => fun
  | [d1, d2, d3, d4] => { results := [.lit (.bool false)], args := [d1, d2, d3, d4] }
  | _ => none }
def ClientFindsWrongFalsely : Prop := clientFindsRow.holds Tryz.pinned (OpenSpec.ofChange clientFindsWrong)

/-- 'legatelaw21.ClientOthers': WHATEVER THE INPUT: true; the input reads as it did. -/
def clientOthersSpec : ChangeSpec := { name := "clientOthers", fn := fun _ => fun
  | [d1, d2, d3, d4, d5] => { results := [.lit (.bool true)], args := [d1, d2, d3, d4, d5] }
  | _ => none }
def clientOthersRow : OpenClaim := { program := "ytobhfopgoidniaagreat", sum := "222f942372e959653c91933bd85cd209e7e97157f1bb326d812395323f63394e", func := "legate/legatelaw21.ClientOthers", spec := "clientOthers", inPlace := ["internal/bytealg.IndexByteString", "internal/bytealg.abigen_runtime_cmpstring", "math.archTrunc", "math.Float64bits", "math.Float64frombits"], unfollowed := true, recurses := true, loops := true, apart := false }
def ClientOthersSaid : Prop := clientOthersRow.holds Tryz.pinned (OpenSpec.ofChange clientOthersSpec)

/-- ITS FALSE NEIGHBOUR: 'it returns false'. Refute it at one input. -/
def clientOthersWrong : ChangeSpec := { name := "clientOthers", fn := fun _ => fun
  | [d1, d2, d3, d4, d5] => { results := [.lit (.bool false)], args := [d1, d2, d3, d4, d5] }
  | _ => none }
def ClientOthersWrongFalsely : Prop := clientOthersRow.holds Tryz.pinned (OpenSpec.ofChange clientOthersWrong)

/-- 'legatelaw19.ProxyBack': WHATEVER THE INPUT: true; the input reads as it did. -/
def proxyBackSpec : ChangeSpec := { name := "proxyBack", fn := fun _ => fun
  | [d1, d2] => { results := [.lit (.bool true)], args := [d1, d2] }
  | _ => none }
def proxyBackRow : OpenClaim := { program := "ytobhfopgoidniaagreat", sum := "222f942372e959653c91933bd85cd209e7e97157f1bb326d812395323f63394e", func := "legate/legatelaw19.ProxyBack", spec := "proxyBack", inPlace := ["internal/bytealg.IndexByteString", "internal/bytealg.abigen_runtime_cmpstring", "math.archTrunc", "math.Float64bits", "math.Float64frombits"], unfollowed := true, recurses := true, apart := false }
def ProxyBackSaid : Prop := proxyBackRow.holds Tryz.pinned (OpenSpec.ofChange proxyBackSpec)

/-- ITS FALSE NEIGHBOUR: 'it returns false'. Refute it at one input. -/
def proxyBackWrong : ChangeSpec := { name := "proxyBack", fn := fun _ => fun
  | [d1, d2] => { results := [.lit (.bool false)], args := [d1, d2] }
  | _ => none }
def ProxyBackWrongFalsely : Prop := proxyBackRow.holds Tryz.pinned (OpenSpec.ofChange proxyBackWrong)

/-- 'legatelaw23.MiddleKeeps': WHATEVER THE INPUT: true; the input reads as it did. -/
def middleKeepsSpec : ChangeSpec := { name := "middleKeeps", fn := fun _ => fun
  | [d1, d2, d3, d4] => { results := [.lit (.bool true)], args := [d1, d2, d3, d4] }
  | _ => none }
def middleKeepsRow : OpenClaim := { program := "ytobhfopgoidniaagreat", sum := "222f942372e959653c91933bd85cd209e7e97157f1bb326d812395323f63394e", func := "legate/legatelaw23.MiddleKeeps", spec := "middleKeeps", inPlace := ["internal/bytealg.IndexByteString", "internal/bytealg.abigen_runtime_cmpstring", "math.archTrunc", "math.Float64bits", "math.Float64frombits"], unfollowed := true, recurses := true, apart := false }
def MiddleKeepsSaid : Prop := middleKeepsRow.holds Tryz.pinned (OpenSpec.ofChange middleKeepsSpec)

/-- ITS FALSE NEIGHBOUR: 'it returns false'. Refute it at one input. -/
def middleKeepsWrong : ChangeSpec := { name := "middleKeeps", fn := fun _ => fun
  | [d1, d2, d3, d4] => { results := [.lit (.bool false)], args := [d1, d2, d3, d4] }
  | _ => none }
def MiddleKeepsWrongFalsely : Prop := middleKeepsRow.holds Tryz.pinned (OpenSpec.ofChange middleKeepsWrong)

/-- 'legatelaw23.MiddleOwn': WHATEVER THE INPUT: true; the input reads as it did. -/
def middleOwnSpec : ChangeSpec := { name := "middleOwn", fn := fun _ => fun
  | [d1, d2, d3, d4] => { results := [.lit (.bool true)], args := [d1, d2, d3, d4] }
  | _ => none }
def middleOwnRow : OpenClaim := { program := "ytobhfopgoidniaagreat", sum := "222f942372e959653c91933bd85cd209e7e97157f1bb326d812395323f63394e", func := "legate/legatelaw23.MiddleOwn", spec := "middleOwn", inPlace := ["internal/bytealg.IndexByteString", "internal/bytealg.abigen_runtime_cmpstring", "math.archTrunc", "math.Float64bits", "math.Float64frombits"], unfollowed := true, recurses := true, apart := false }
def MiddleOwnSaid : Prop := middleOwnRow.holds Tryz.pinned (OpenSpec.ofChange middleOwnSpec)

/-- ITS FALSE NEIGHBOUR: 'it returns false'. Refute it at one input. -/
def middleOwnWrong : ChangeSpec := { name := "middleOwn", fn := fun _ => fun
  | [d1, d2, d3, d4] => { results := [.lit (.bool false)], args := [d1, d2, d3, d4] }
  | _ => none }
def MiddleOwnWrongFalsely : Prop := middleOwnRow.holds Tryz.pinned (OpenSpec.ofChange middleOwnWrong)

/-- 'legatelaw23.MiddleSelf': WHATEVER THE INPUT: true; the input reads as it did. -/
def middleSelfSpec : ChangeSpec := { name := "middleSelf", fn := fun _ => fun
  | [d1, d2, d3] => { results := [.lit (.bool true)], args := [d1, d2, d3] }
  | _ => none }
def middleSelfRow : OpenClaim := { program := "ytobhfopgoidniaagreat", sum := "222f942372e959653c91933bd85cd209e7e97157f1bb326d812395323f63394e", func := "legate/legatelaw23.MiddleSelf", spec := "middleSelf", inPlace := ["internal/bytealg.IndexByteString", "internal/bytealg.abigen_runtime_cmpstring", "math.archTrunc", "math.Float64bits", "math.Float64frombits"], unfollowed := true, recurses := true, apart := false }
def MiddleSelfSaid : Prop := middleSelfRow.holds Tryz.pinned (OpenSpec.ofChange middleSelfSpec)

/-- ITS FALSE NEIGHBOUR: 'it returns false'. Refute it at one input. -/
def middleSelfWrong : ChangeSpec := { name := "middleSelf", fn := fun _ => fun
  | [d1, d2, d3] => { results := [.lit (.bool false)], args := [d1, d2, d3] }
  | _ => none }
def MiddleSelfWrongFalsely : Prop := middleSelfRow.holds Tryz.pinned (OpenSpec.ofChange middleSelfWrong)

/-- 'legatelaw23.MiddleHands': WHATEVER THE INPUT: true; the input reads as it did. -/
def middleHandsSpec : ChangeSpec := { name := "middleHands", fn := fun _ => fun
  | [d1, d2] => { results := [.lit (.bool true)], args := [d1, d2] }
  | _ => none }
def middleHandsRow : OpenClaim := { program := "ytobhfopgoidniaagreat", sum := "222f942372e959653c91933bd85cd209e7e97157f1bb326d812395323f63394e", func := "legate/legatelaw23.MiddleHands", spec := "middleHands", inPlace := ["internal/bytealg.IndexByteString", "internal/bytealg.abigen_runtime_cmpstring", "math.archTrunc", "math.Float64bits", "math.Float64frombits"], unfollowed := true, recurses := true, apart := false }
def MiddleHandsSaid : Prop := middleHandsRow.holds Tryz.pinned (OpenSpec.ofChange middleHandsSpec)

/-- ITS FALSE NEIGHBOUR: 'it returns false'. Refute it at one input. -/
def middleHandsWrong : ChangeSpec := { name := "middleHands", fn := fun _ => fun
  | [d1, d2] => { results := [.lit (.bool false)], args := [d1, d2] }
  | _ => none }
def MiddleHandsWrongFalsely : Prop := middleHandsRow.holds Tryz.pinned (OpenSpec.ofChange middleHandsWrong)

/- THE SECOND FORM. 'bulk': how many values and letters a reading holds, each counted each time it is reached (what is shared counts as often as it is met; a slice's spare places count too). A statement '..UptoSaid' is the law's where the arguments, and the package variables that the reading takes, are together of bulk at most 1048576: NARROWER than '..Said'. Prove '..Said' where nothing that the law and all that it calls make is longer than what came in: it says more and counts as full. Else prove '..UptoSaid'. A law counts once. -/
mutual
def uptoBulk {H : Type} : DataW H → Nat
  | .lit (.string bytes) => bytes.length + 1
  | .lit _ => 1
  | .nil => 1
  | .ptr d => uptoBulk d + 1
  | .slice elems spare => uptoBulkAll elems + uptoBulkAll spare + 1
  | .agg parts => uptoBulkAll parts + 1
  | .iface _ d => uptoBulk d + 1
  | .map entries => uptoBulkEntries entries + 1
  | .held _ => 1
def uptoBulkAll {H : Type} : List (DataW H) → Nat
  | [] => 0
  | d :: r => uptoBulk d + uptoBulkAll r
def uptoBulkEntries {H : Type} : List (Lit × DataW H) → Nat
  | [] => 0
  | x :: r => uptoBulkEntry x + uptoBulkEntries r
def uptoBulkEntry {H : Type} : Lit × DataW H → Nat
  | (.string bytes, d) => bytes.length + uptoBulk d + 1
  | (_, d) => uptoBulk d + 1
 end
def uptoSmall : (H : Type) → List (DataW H) → Bool := fun _ ds => decide (uptoBulkAll ds ≤ 1048576)
def OpenSpec.upto (s : _root_.Go.ChangeSpec) : _root_.Go.OpenSpec := { _root_.Go.OpenSpec.ofChange s with cond := some uptoSmall }

/-- 'legatelaw18.TransitExtra', WHERE WHAT IT READS IS OF BULK AT MOST 1048576: true; the input reads as it did. -/
def transitExtraUptoRow : OpenClaim := { program := "ytobhfopgoidniaagreat", sum := "222f942372e959653c91933bd85cd209e7e97157f1bb326d812395323f63394e", func := "legate/legatelaw18.TransitExtra", spec := "transitExtra", inPlace := ["internal/bytealg.IndexByteString", "internal/bytealg.abigen_runtime_cmpstring", "math.archTrunc", "math.Float64bits", "math.Float64frombits"], unfollowed := true, recurses := true, loops := true, apart := false, narrowed := true }
def TransitExtraUptoSaid : Prop := transitExtraUptoRow.holds Tryz.pinned (OpenSpec.upto transitExtraSpec)

/-- 'legatelaw18.TransitWays', WHERE WHAT IT READS IS OF BULK AT MOST 1048576: true; the input reads as it did. -/
def transitWaysUptoRow : OpenClaim := { program := "ytobhfopgoidniaagreat", sum := "222f942372e959653c91933bd85cd209e7e97157f1bb326d812395323f63394e", func := "legate/legatelaw18.TransitWays", spec := "transitWays", inPlace := ["internal/bytealg.IndexByteString", "internal/bytealg.abigen_runtime_cmpstring", "math.archTrunc", "math.Float64bits", "math.Float64frombits"], unfollowed := true, recurses := true, apart := false, narrowed := true }
def TransitWaysUptoSaid : Prop := transitWaysUptoRow.holds Tryz.pinned (OpenSpec.upto transitWaysSpec)

/-- 'legatelaw17.GrantAsks', WHERE WHAT IT READS IS OF BULK AT MOST 1048576: true; the input reads as it did. -/
def grantAsksUptoRow : OpenClaim := { program := "ytobhfopgoidniaagreat", sum := "222f942372e959653c91933bd85cd209e7e97157f1bb326d812395323f63394e", func := "legate/legatelaw17.GrantAsks", spec := "grantAsks", inPlace := ["internal/bytealg.IndexByteString", "internal/bytealg.abigen_runtime_cmpstring", "math.archTrunc", "math.Float64bits", "math.Float64frombits"], unfollowed := true, recurses := true, loops := true, apart := false, narrowed := true }
def GrantAsksUptoSaid : Prop := grantAsksUptoRow.holds Tryz.pinned (OpenSpec.upto grantAsksSpec)

/-- 'legatelaw17.GrantKeeps', WHERE WHAT IT READS IS OF BULK AT MOST 1048576: true; the input reads as it did. -/
def grantKeepsUptoRow : OpenClaim := { program := "ytobhfopgoidniaagreat", sum := "222f942372e959653c91933bd85cd209e7e97157f1bb326d812395323f63394e", func := "legate/legatelaw17.GrantKeeps", spec := "grantKeeps", inPlace := ["internal/bytealg.IndexByteString", "internal/bytealg.abigen_runtime_cmpstring", "math.archTrunc", "math.Float64bits", "math.Float64frombits"], unfollowed := true, recurses := true, loops := true, apart := false, narrowed := true }
def GrantKeepsUptoSaid : Prop := grantKeepsUptoRow.holds Tryz.pinned (OpenSpec.upto grantKeepsSpec)

/-- 'legatelaw17.GrantOver', WHERE WHAT IT READS IS OF BULK AT MOST 1048576: true; the input reads as it did. -/
def grantOverUptoRow : OpenClaim := { program := "ytobhfopgoidniaagreat", sum := "222f942372e959653c91933bd85cd209e7e97157f1bb326d812395323f63394e", func := "legate/legatelaw17.GrantOver", spec := "grantOver", inPlace := ["internal/bytealg.IndexByteString", "internal/bytealg.abigen_runtime_cmpstring", "math.archTrunc", "math.Float64bits", "math.Float64frombits"], unfollowed := true, recurses := true, apart := false, narrowed := true }
def GrantOverUptoSaid : Prop := grantOverUptoRow.holds Tryz.pinned (OpenSpec.upto grantOverSpec)

/-- 'legatelaw17.GrantForwarded', WHERE WHAT IT READS IS OF BULK AT MOST 1048576: true; the input reads as it did. -/
def grantForwardedUptoRow : OpenClaim := { program := "ytobhfopgoidniaagreat", sum := "222f942372e959653c91933bd85cd209e7e97157f1bb326d812395323f63394e", func := "legate/legatelaw17.GrantForwarded", spec := "grantForwarded", inPlace := ["internal/bytealg.IndexByteString", "internal/bytealg.abigen_runtime_cmpstring", "math.archTrunc", "math.Float64bits", "math.Float64frombits"], unfollowed := true, recurses := true, apart := false, narrowed := true }
def GrantForwardedUptoSaid : Prop := grantForwardedUptoRow.holds Tryz.pinned (OpenSpec.upto grantForwardedSpec)

/-- 'legatelaw17.GrantReplies', WHERE WHAT IT READS IS OF BULK AT MOST 1048576: true; the input reads as it did. -/
def grantRepliesUptoRow : OpenClaim := { program := "ytobhfopgoidniaagreat", sum := "222f942372e959653c91933bd85cd209e7e97157f1bb326d812395323f63394e", func := "legate/legatelaw17.GrantReplies", spec := "grantReplies", inPlace := ["internal/bytealg.IndexByteString", "internal/bytealg.abigen_runtime_cmpstring", "math.archTrunc", "math.Float64bits", "math.Float64frombits"], unfollowed := true, recurses := true, loops := true, apart := false, narrowed := true }
def GrantRepliesUptoSaid : Prop := grantRepliesUptoRow.holds Tryz.pinned (OpenSpec.upto grantRepliesSpec)

/-- 'legatelaw18.TransitDoes', WHERE WHAT IT READS IS OF BULK AT MOST 1048576: true; the input reads as it did. -/
def transitDoesUptoRow : OpenClaim := { program := "ytobhfopgoidniaagreat", sum := "222f942372e959653c91933bd85cd209e7e97157f1bb326d812395323f63394e", func := "legate/legatelaw18.TransitDoes", spec := "transitDoes", inPlace := ["internal/bytealg.IndexByteString", "internal/bytealg.abigen_runtime_cmpstring", "math.archTrunc", "math.Float64bits", "math.Float64frombits"], unfollowed := true, recurses := true, loops := true, apart := false, narrowed := true }
def TransitDoesUptoSaid : Prop := transitDoesUptoRow.holds Tryz.pinned (OpenSpec.upto transitDoesSpec)

/-- 'legatelaw18.TransitOnly', WHERE WHAT IT READS IS OF BULK AT MOST 1048576: true; the input reads as it did. -/
def transitOnlyUptoRow : OpenClaim := { program := "ytobhfopgoidniaagreat", sum := "222f942372e959653c91933bd85cd209e7e97157f1bb326d812395323f63394e", func := "legate/legatelaw18.TransitOnly", spec := "transitOnly", inPlace := ["internal/bytealg.IndexByteString", "internal/bytealg.abigen_runtime_cmpstring", "math.archTrunc", "math.Float64bits", "math.Float64frombits"], unfollowed := true, recurses := true, loops := true, apart := false, narrowed := true }
def TransitOnlyUptoSaid : Prop := transitOnlyUptoRow.holds Tryz.pinned (OpenSpec.upto transitOnlySpec)

/-- 'legatelaw18.TransitAsked', WHERE WHAT IT READS IS OF BULK AT MOST 1048576: true; the input reads as it did. -/
def transitAskedUptoRow : OpenClaim := { program := "ytobhfopgoidniaagreat", sum := "222f942372e959653c91933bd85cd209e7e97157f1bb326d812395323f63394e", func := "legate/legatelaw18.TransitAsked", spec := "transitAsked", inPlace := ["internal/bytealg.IndexByteString", "internal/bytealg.abigen_runtime_cmpstring", "math.archTrunc", "math.Float64bits", "math.Float64frombits"], unfollowed := true, recurses := true, loops := true, apart := false, narrowed := true }
def TransitAskedUptoSaid : Prop := transitAskedUptoRow.holds Tryz.pinned (OpenSpec.upto transitAskedSpec)

/-- 'legatelaw19.ProxyDoes', WHERE WHAT IT READS IS OF BULK AT MOST 1048576: true; the input reads as it did. -/
def proxyDoesUptoRow : OpenClaim := { program := "ytobhfopgoidniaagreat", sum := "222f942372e959653c91933bd85cd209e7e97157f1bb326d812395323f63394e", func := "legate/legatelaw19.ProxyDoes", spec := "proxyDoes", inPlace := ["internal/bytealg.IndexByteString", "internal/bytealg.abigen_runtime_cmpstring", "math.archTrunc", "math.Float64bits", "math.Float64frombits"], unfollowed := true, recurses := true, loops := true, apart := false, narrowed := true }
def ProxyDoesUptoSaid : Prop := proxyDoesUptoRow.holds Tryz.pinned (OpenSpec.upto proxyDoesSpec)

/-- 'legatelaw19.ProxyOnly', WHERE WHAT IT READS IS OF BULK AT MOST 1048576: true; the input reads as it did. -/
def proxyOnlyUptoRow : OpenClaim := { program := "ytobhfopgoidniaagreat", sum := "222f942372e959653c91933bd85cd209e7e97157f1bb326d812395323f63394e", func := "legate/legatelaw19.ProxyOnly", spec := "proxyOnly", inPlace := ["internal/bytealg.IndexByteString", "internal/bytealg.abigen_runtime_cmpstring", "math.archTrunc", "math.Float64bits", "math.Float64frombits"], unfollowed := true, recurses := true, loops := true, apart := false, narrowed := true }
def ProxyOnlyUptoSaid : Prop := proxyOnlyUptoRow.holds Tryz.pinned (OpenSpec.upto proxyOnlySpec)

/-- 'legatelaw19.ProxyChain', WHERE WHAT IT READS IS OF BULK AT MOST 1048576: true; the input reads as it did. -/
def proxyChainUptoRow : OpenClaim := { program := "ytobhfopgoidniaagreat", sum := "222f942372e959653c91933bd85cd209e7e97157f1bb326d812395323f63394e", func := "legate/legatelaw19.ProxyChain", spec := "proxyChain", inPlace := ["internal/bytealg.IndexByteString", "internal/bytealg.abigen_runtime_cmpstring", "math.archTrunc", "math.Float64bits", "math.Float64frombits"], unfollowed := true, recurses := true, apart := false, narrowed := true }
def ProxyChainUptoSaid : Prop := proxyChainUptoRow.holds Tryz.pinned (OpenSpec.upto proxyChainSpec)

/-- 'legatelaw19.ProxyAlone', WHERE WHAT IT READS IS OF BULK AT MOST 1048576: true; the input reads as it did. -/
def proxyAloneUptoRow : OpenClaim := { program := "ytobhfopgoidniaagreat", sum := "222f942372e959653c91933bd85cd209e7e97157f1bb326d812395323f63394e", func := "legate/legatelaw19.ProxyAlone", spec := "proxyAlone", inPlace := ["internal/bytealg.IndexByteString", "internal/bytealg.abigen_runtime_cmpstring", "math.archTrunc", "math.Float64bits", "math.Float64frombits"], unfollowed := true, recurses := true, apart := false, narrowed := true }
def ProxyAloneUptoSaid : Prop := proxyAloneUptoRow.holds Tryz.pinned (OpenSpec.upto proxyAloneSpec)

/-- 'legatelaw19.ProxyEnds', WHERE WHAT IT READS IS OF BULK AT MOST 1048576: true; the input reads as it did. -/
def proxyEndsUptoRow : OpenClaim := { program := "ytobhfopgoidniaagreat", sum := "222f942372e959653c91933bd85cd209e7e97157f1bb326d812395323f63394e", func := "legate/legatelaw19.ProxyEnds", spec := "proxyEnds", inPlace := ["internal/bytealg.IndexByteString", "internal/bytealg.abigen_runtime_cmpstring", "math.archTrunc", "math.Float64bits", "math.Float64frombits"], unfollowed := true, recurses := true, apart := false, narrowed := true }
def ProxyEndsUptoSaid : Prop := proxyEndsUptoRow.holds Tryz.pinned (OpenSpec.upto proxyEndsSpec)

/-- 'legatelaw21.ClientIn', WHERE WHAT IT READS IS OF BULK AT MOST 1048576: true; the input reads as it did. -/
def clientInUptoRow : OpenClaim := { program := "ytobhfopgoidniaagreat", sum := "222f942372e959653c91933bd85cd209e7e97157f1bb326d812395323f63394e", func := "legate/legatelaw21.ClientIn", spec := "clientIn", inPlace := ["internal/bytealg.IndexByteString", "internal/bytealg.abigen_runtime_cmpstring", "math.archTrunc", "math.Float64bits", "math.Float64frombits"], unfollowed := true, recurses := true, apart := false, narrowed := true }
def ClientInUptoSaid : Prop := clientInUptoRow.holds Tryz.pinned (OpenSpec.upto clientInSpec)

/-- 'legatelaw21.ClientFull', WHERE WHAT IT READS IS OF BULK AT MOST 1048576: true; the input reads as it did. -/
def clientFullUptoRow : OpenClaim := { program := "ytobhfopgoidniaagreat", sum := "222f942372e959653c91933bd85cd209e7e97157f1bb326d812395323f63394e", func := "legate/legatelaw21.ClientFull", spec := "clientFull", inPlace := ["internal/bytealg.IndexByteString", "internal/bytealg.abigen_runtime_cmpstring", "math.archTrunc", "math.Float64bits", "math.Float64frombits"], unfollowed := true, recurses := true, loops := true, apart := false, narrowed := true }
def ClientFullUptoSaid : Prop := clientFullUptoRow.holds Tryz.pinned (OpenSpec.upto clientFullSpec)

/-- 'legatelaw21.ClientDoes', WHERE WHAT IT READS IS OF BULK AT MOST 1048576: true; the input reads as it did. -/
def clientDoesUptoRow : OpenClaim := { program := "ytobhfopgoidniaagreat", sum := "222f942372e959653c91933bd85cd209e7e97157f1bb326d812395323f63394e", func := "legate/legatelaw21.ClientDoes", spec := "clientDoes", inPlace := ["internal/bytealg.IndexByteString", "internal/bytealg.abigen_runtime_cmpstring", "math.archTrunc", "math.Float64bits", "math.Float64frombits"], unfollowed := true, recurses := true, loops := true, apart := false, narrowed := true }
def ClientDoesUptoSaid : Prop := clientDoesUptoRow.holds Tryz.pinned (OpenSpec.upto clientDoesSpec)

/-- 'legatelaw21.ClientFinds', WHERE WHAT IT READS IS OF BULK AT MOST 1048576: true; the input reads as it did. -/
def clientFindsUptoRow : OpenClaim := { program := "ytobhfopgoidniaagreat", sum := "222f942372e959653c91933bd85cd209e7e97157f1bb326d812395323f63394e", func := "legate/legatelaw21.ClientFinds", spec := "clientFinds", inPlace := ["internal/bytealg.IndexByteString", "internal/bytealg.abigen_runtime_cmpstring", "math.archTrunc", "math.Float64bits", "math.Float64frombits"], unfollowed := true, recurses := true, loops := true, apart := false, narrowed := true }
def ClientFindsUptoSaid : Prop := clientFindsUptoRow.holds Tryz.pinned (OpenSpec.upto clientFindsSpec)

/-- 'legatelaw21.ClientOthers', WHERE WHAT IT READS IS OF BULK AT MOST 1048576: true; the input reads as it did. -/
def clientOthersUptoRow : OpenClaim := { program := "ytobhfopgoidniaagreat", sum := "222f942372e959653c91933bd85cd209e7e97157f1bb326d812395323f63394e", func := "legate/legatelaw21.ClientOthers", spec := "clientOthers", inPlace := ["internal/bytealg.IndexByteString", "internal/bytealg.abigen_runtime_cmpstring", "math.archTrunc", "math.Float64bits", "math.Float64frombits"], unfollowed := true, recurses := true, loops := true, apart := false, narrowed := true }
def ClientOthersUptoSaid : Prop := clientOthersUptoRow.holds Tryz.pinned (OpenSpec.upto clientOthersSpec)

/-- 'legatelaw19.ProxyBack', WHERE WHAT IT READS IS OF BULK AT MOST 1048576: true; the input reads as it did. -/
def proxyBackUptoRow : OpenClaim := { program := "ytobhfopgoidniaagreat", sum := "222f942372e959653c91933bd85cd209e7e97157f1bb326d812395323f63394e", func := "legate/legatelaw19.ProxyBack", spec := "proxyBack", inPlace := ["internal/bytealg.IndexByteString", "internal/bytealg.abigen_runtime_cmpstring", "math.archTrunc", "math.Float64bits", "math.Float64frombits"], unfollowed := true, recurses := true, apart := false, narrowed := true }
def ProxyBackUptoSaid : Prop := proxyBackUptoRow.holds Tryz.pinned (OpenSpec.upto proxyBackSpec)

/-- 'legatelaw23.MiddleKeeps', WHERE WHAT IT READS IS OF BULK AT MOST 1048576: true; the input reads as it did. -/
def middleKeepsUptoRow : OpenClaim := { program := "ytobhfopgoidniaagreat", sum := "222f942372e959653c91933bd85cd209e7e97157f1bb326d812395323f63394e", func := "legate/legatelaw23.MiddleKeeps", spec := "middleKeeps", inPlace := ["internal/bytealg.IndexByteString", "internal/bytealg.abigen_runtime_cmpstring", "math.archTrunc", "math.Float64bits", "math.Float64frombits"], unfollowed := true, recurses := true, apart := false, narrowed := true }
def MiddleKeepsUptoSaid : Prop := middleKeepsUptoRow.holds Tryz.pinned (OpenSpec.upto middleKeepsSpec)

/-- 'legatelaw23.MiddleOwn', WHERE WHAT IT READS IS OF BULK AT MOST 1048576: true; the input reads as it did. -/
def middleOwnUptoRow : OpenClaim := { program := "ytobhfopgoidniaagreat", sum := "222f942372e959653c91933bd85cd209e7e97157f1bb326d812395323f63394e", func := "legate/legatelaw23.MiddleOwn", spec := "middleOwn", inPlace := ["internal/bytealg.IndexByteString", "internal/bytealg.abigen_runtime_cmpstring", "math.archTrunc", "math.Float64bits", "math.Float64frombits"], unfollowed := true, recurses := true, apart := false, narrowed := true }
def MiddleOwnUptoSaid : Prop := middleOwnUptoRow.holds Tryz.pinned (OpenSpec.upto middleOwnSpec)

/-- 'legatelaw23.MiddleSelf', WHERE WHAT IT READS IS OF BULK AT MOST 1048576: true; the input reads as it did. -/
def middleSelfUptoRow : OpenClaim := { program := "ytobhfopgoidniaagreat", sum := "222f942372e959653c91933bd85cd209e7e97157f1bb326d812395323f63394e", func := "legate/legatelaw23.MiddleSelf", spec := "middleSelf", inPlace := ["internal/bytealg.IndexByteString", "internal/bytealg.abigen_runtime_cmpstring", "math.archTrunc", "math.Float64bits", "math.Float64frombits"], unfollowed := true, recurses := true, apart := false, narrowed := true }
def MiddleSelfUptoSaid : Prop := middleSelfUptoRow.holds Tryz.pinned (OpenSpec.upto middleSelfSpec)

/-- 'legatelaw23.MiddleHands', WHERE WHAT IT READS IS OF BULK AT MOST 1048576: true; the input reads as it did. -/
def middleHandsUptoRow : OpenClaim := { program := "ytobhfopgoidniaagreat", sum := "222f942372e959653c91933bd85cd209e7e97157f1bb326d812395323f63394e", func := "legate/legatelaw23.MiddleHands", spec := "middleHands", inPlace := ["internal/bytealg.IndexByteString", "internal/bytealg.abigen_runtime_cmpstring", "math.archTrunc", "math.Float64bits", "math.Float64frombits"], unfollowed := true, recurses := true, apart := false, narrowed := true }
def MiddleHandsUptoSaid : Prop := middleHandsUptoRow.holds Tryz.pinned (OpenSpec.upto middleHandsSpec)

end Rows
end Go.Proofs.YtobhfopgoidniaaGreat
