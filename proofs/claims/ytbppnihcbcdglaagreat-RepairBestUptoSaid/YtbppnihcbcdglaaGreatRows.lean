/-
  No cell of these rows narrows 'for every input' (looked for: loops, veiled, ifaces, maps, wideKeys, modest, calm, conditions, laid).
  DERIVED. THE GIVEN ROWS OF THIS SEAT. 11 by the template 'for every input the law returns true; each argument reads behind the call as it read before'; 0 by the template 'total and deterministic' (their statements: YtbppnihcbcdglaaGreatTotals.lean).
  GIVEN WITH THE SEED: the statements are not yours to turn. If you find one false, say at which input.
  Laid BY PROGRAM, IN A SANDBOX (cutbox-rows.mjs): the forced cells as the released guide's own fill.sh prints them over the translation f4e87eff208bb434… (all of the seat's roots in one cut). By AI agents, Wed Nov 11 2026. No macro, syntax, notation, axiom, sorry.
-/
import Derived.Test.YtbppnihcbcdglaaGreatChecked
import GoSem.Claim
import GoSem.ClaimJoined
import GoSem.ClaimMapViews
import Derived.JoinedTies
import Derived.KernelRfl
namespace Go.Proofs.YtbppnihcbcdglaaGreat
/- THE CELL 'sum', in the pinned program and in every row, IS THE sha256 OF THE DUMP (.gsa) THAT YtbppnihcbcdglaaGreatProg.lean LOADS. Nothing in Lean hashes anything: it is a label: what it is worth is what the hold of that sum in a sandbox is worth. -/
noncomputable def Tryz.pinned : Pinned := { name := "ytbppnihcbcdglaagreat", sum := "f4e87eff208bb434af47aa0b84a77b3198076ad0d739aaf7aa0d092cb2384646", checked := Tryz.checked }
namespace Rows
def none {H : Type} : Left H := { results := [], args := [] }

/-- 'treadlelaw23.ShipEncodes': WHATEVER THE INPUT: true; the input reads as it did. -/
def shipEncodesSpec : ChangeSpec := { name := "shipEncodes", fn := fun _ => fun
  | [d] => { results := [.lit (.bool true)], args := [d] }
  | _ => none }
def shipEncodesRow : OpenClaim := { program := "ytbppnihcbcdglaagreat", sum := "f4e87eff208bb434af47aa0b84a77b3198076ad0d739aaf7aa0d092cb2384646", func := "treadle/treadlelaw23.ShipEncodes", spec := "shipEncodes", unfollowed := true, recurses := true, apart := false }
def ShipEncodesSaid : Prop := shipEncodesRow.holds Tryz.pinned (OpenSpec.ofChange shipEncodesSpec)

/-- ITS FALSE NEIGHBOUR: 'it returns false'. Refute it at one input. -/
def shipEncodesWrong : ChangeSpec := { name := "shipEncodes", fn := fun _ => fun
  | [d] => { results := [.lit (.bool false)], args := [d] }
  | _ => none }
def ShipEncodesWrongFalsely : Prop := shipEncodesRow.holds Tryz.pinned (OpenSpec.ofChange shipEncodesWrong)

/-- 'treadlelaw23.ShipDecodes': WHATEVER THE INPUT: true; the input reads as it did. -/
def shipDecodesSpec : ChangeSpec := { name := "shipDecodes", fn := fun _ => fun
  | [d] => { results := [.lit (.bool true)], args := [d] }
  | _ => none }
def shipDecodesRow : OpenClaim := { program := "ytbppnihcbcdglaagreat", sum := "f4e87eff208bb434af47aa0b84a77b3198076ad0d739aaf7aa0d092cb2384646", func := "treadle/treadlelaw23.ShipDecodes", spec := "shipDecodes", unfollowed := true, recurses := true, apart := false }
def ShipDecodesSaid : Prop := shipDecodesRow.holds Tryz.pinned (OpenSpec.ofChange shipDecodesSpec)

/-- ITS FALSE NEIGHBOUR: 'it returns false'. Refute it at one input. -/
def shipDecodesWrong : ChangeSpec := { name := "shipDecodes", fn := fun _ => fun
  | [d] => { results := [.lit (.bool false)], args := [d] }
  | _ => none }
def ShipDecodesWrongFalsely : Prop := shipDecodesRow.holds Tryz.pinned (OpenSpec.ofChange shipDecodesWrong)

/-- 'treadlelaw20.AuditLooks': WHATEVER THE INPUT: true; the input reads as it did. -/
def auditLooksSpec : ChangeSpec := { name := "auditLooks", fn := fun _ => fun
  | [d1, d2, d3, d4] => { results := [.lit (.bool true)], args := [d1, d2, d3, d4] }
  | _ => none }
def auditLooksRow : OpenClaim := { program := "ytbppnihcbcdglaagreat", sum := "f4e87eff208bb434af47aa0b84a77b3198076ad0d739aaf7aa0d092cb2384646", func := "treadle/treadlelaw20.AuditLooks", spec := "auditLooks", inPlace := ["internal/bytealg.IndexByteString"], unfollowed := true, recurses := true, apart := false }
def AuditLooksSaid : Prop := auditLooksRow.holds Tryz.pinned (OpenSpec.ofChange auditLooksSpec)

/-- ITS FALSE NEIGHBOUR: 'it returns false'. Refute it at one input. -/
def auditLooksWrong : ChangeSpec := { name := "auditLooks", fn := fun _ => fun
  | [d1, d2, d3, d4] => { results := [.lit (.bool false)], args := [d1, d2, d3, d4] }
  | _ => none }
def AuditLooksWrongFalsely : Prop := auditLooksRow.holds Tryz.pinned (OpenSpec.ofChange auditLooksWrong)

/-- 'treadlelaw20.AuditOrder': WHATEVER THE INPUT: true; the input reads as it did. -/
def auditOrderSpec : ChangeSpec := { name := "auditOrder", fn := fun _ => fun
  | [d1, d2, d3] => { results := [.lit (.bool true)], args := [d1, d2, d3] }
  | _ => none }
def auditOrderRow : OpenClaim := { program := "ytbppnihcbcdglaagreat", sum := "f4e87eff208bb434af47aa0b84a77b3198076ad0d739aaf7aa0d092cb2384646", func := "treadle/treadlelaw20.AuditOrder", spec := "auditOrder", inPlace := ["internal/bytealg.IndexByteString"], unfollowed := true, recurses := true, apart := false }
def AuditOrderSaid : Prop := auditOrderRow.holds Tryz.pinned (OpenSpec.ofChange auditOrderSpec)

/-- ITS FALSE NEIGHBOUR: 'it returns false'. Refute it at one input. -/
def auditOrderWrong : ChangeSpec := { name := "auditOrder", fn := fun _ => fun
  | [d1, d2, d3] => { results := [.lit (.bool false)], args := [d1, d2, d3] }
  | _ => none }
def AuditOrderWrongFalsely : Prop := auditOrderRow.holds Tryz.pinned (OpenSpec.ofChange auditOrderWrong)

/-- 'treadlelaw20.AuditMeans': WHATEVER THE INPUT: true; the input reads as it did. -/
def auditMeansSpec : ChangeSpec := { name := "auditMeans", fn := fun _ => fun
  | [d] => { results := [.lit (.bool true)], args := [d] }
  | _ => none }
def auditMeansRow : OpenClaim := { program := "ytbppnihcbcdglaagreat", sum := "f4e87eff208bb434af47aa0b84a77b3198076ad0d739aaf7aa0d092cb2384646", func := "treadle/treadlelaw20.AuditMeans", spec := "auditMeans", inPlace := ["internal/bytealg.IndexByteString"], unfollowed := true, recurses := true, apart := false }
def AuditMeansSaid : Prop := auditMeansRow.holds Tryz.pinned (OpenSpec.ofChange auditMeansSpec)

/-- ITS FALSE NEIGHBOUR: 'it returns false'. Refute it at one input. -/
def auditMeansWrong : ChangeSpec := { name := "auditMeans", fn := fun _ => fun
  | [d] => { results := [.lit (.bool false)], args := [d] }
  | _ => none }
def AuditMeansWrongFalsely : Prop := auditMeansRow.holds Tryz.pinned (OpenSpec.ofChange auditMeansWrong)

/-- 'treadlelaw20.AuditOwn': WHATEVER THE INPUT: true; the input reads as it did. -/
def auditOwnSpec : ChangeSpec := { name := "auditOwn", fn := fun _ => fun
  | [d] => { results := [.lit (.bool true)], args := [d] }
  | _ => none }
def auditOwnRow : OpenClaim := { program := "ytbppnihcbcdglaagreat", sum := "f4e87eff208bb434af47aa0b84a77b3198076ad0d739aaf7aa0d092cb2384646", func := "treadle/treadlelaw20.AuditOwn", spec := "auditOwn", inPlace := ["internal/bytealg.IndexByteString"], unfollowed := true, recurses := true, apart := false }
def AuditOwnSaid : Prop := auditOwnRow.holds Tryz.pinned (OpenSpec.ofChange auditOwnSpec)

/-- ITS FALSE NEIGHBOUR: 'it returns false'. Refute it at one input. -/
def auditOwnWrong : ChangeSpec := { name := "auditOwn", fn := fun _ => fun
  | [d] => { results := [.lit (.bool false)], args := [d] }
  | _ => none }
def AuditOwnWrongFalsely : Prop := auditOwnRow.holds Tryz.pinned (OpenSpec.ofChange auditOwnWrong)

/-- 'treadlelaw24.RepairMends': WHATEVER THE INPUT: true; the input reads as it did. -/
def repairMendsSpec : ChangeSpec := { name := "repairMends", fn := fun _ => fun
  | [d] => { results := [.lit (.bool true)], args := [d] }
  | _ => none }
def repairMendsRow : OpenClaim := { program := "ytbppnihcbcdglaagreat", sum := "f4e87eff208bb434af47aa0b84a77b3198076ad0d739aaf7aa0d092cb2384646", func := "treadle/treadlelaw24.RepairMends", spec := "repairMends", inPlace := ["internal/bytealg.IndexByteString"], unfollowed := true, recurses := true, apart := false }
def RepairMendsSaid : Prop := repairMendsRow.holds Tryz.pinned (OpenSpec.ofChange repairMendsSpec)

/-- ITS FALSE NEIGHBOUR: 'it returns false'. Refute it at one input. -/
def repairMendsWrong : ChangeSpec := { name := "repairMends", fn := fun _ => fun
  | [d] => { results := [.lit (.bool false)], args := [d] }
  | _ => none }
def RepairMendsWrongFalsely : Prop := repairMendsRow.holds Tryz.pinned (OpenSpec.ofChange repairMendsWrong)

/-- 'treadlelaw24.RepairOpens': WHATEVER THE INPUT: true; the input reads as it did. -/
def repairOpensSpec : ChangeSpec := { name := "repairOpens", fn := fun _ => fun
  | [d] => { results := [.lit (.bool true)], args := [d] }
  | _ => none }
def repairOpensRow : OpenClaim := { program := "ytbppnihcbcdglaagreat", sum := "f4e87eff208bb434af47aa0b84a77b3198076ad0d739aaf7aa0d092cb2384646", func := "treadle/treadlelaw24.RepairOpens", spec := "repairOpens", inPlace := ["internal/bytealg.IndexByteString"], unfollowed := true, recurses := true, apart := false }
def RepairOpensSaid : Prop := repairOpensRow.holds Tryz.pinned (OpenSpec.ofChange repairOpensSpec)

/-- ITS FALSE NEIGHBOUR: 'it returns false'. Refute it at one input. -/
def repairOpensWrong : ChangeSpec := { name := "repairOpens", fn := fun _ => fun
  | [d] => { results := [.lit (.bool false)], args := [d] }
  | _ => none }
def RepairOpensWrongFalsely : Prop := repairOpensRow.holds Tryz.pinned (OpenSpec.ofChange repairOpensWrong)

/-- 'treadlelaw24.RepairOrder': WHATEVER THE INPUT: true; the input reads as it did. -/
def repairOrderSpec : ChangeSpec := { name := "repairOrder", fn := fun _ => fun
  | [d1, d2] => { results := [.lit (.bool true)], args := [d1, d2] }
  | _ => none }
def repairOrderRow : OpenClaim := { program := "ytbppnihcbcdglaagreat", sum := "f4e87eff208bb434af47aa0b84a77b3198076ad0d739aaf7aa0d092cb2384646", func := "treadle/treadlelaw24.RepairOrder", spec := "repairOrder", inPlace := ["internal/bytealg.IndexByteString"], unfollowed := true, recurses := true, apart := false }
def RepairOrderSaid : Prop := repairOrderRow.holds Tryz.pinned (OpenSpec.ofChange repairOrderSpec)

/-- ITS FALSE NEIGHBOUR: 'it returns false'. Refute it at one input. -/
def repairOrderWrong : ChangeSpec := { name := "repairOrder", fn := fun _ => fun
  | [d1, d2] => { results := [.lit (.bool false)], args := [d1, d2] }
  | _ => none }
def RepairOrderWrongFalsely : Prop := repairOrderRow.holds Tryz.pinned (OpenSpec.ofChange repairOrderWrong)

/-- 'treadlelaw24.RepairIsNew': WHATEVER THE INPUT: true; the input reads as it did. -/
def repairIsNewSpec : ChangeSpec := { name := "repairIsNew", fn := fun _ => fun
  | [d] => { results := [.lit (.bool true)], args := [d] }
  | _ => none }
def repairIsNewRow : OpenClaim := { program := "ytbppnihcbcdglaagreat", sum := "f4e87eff208bb434af47aa0b84a77b3198076ad0d739aaf7aa0d092cb2384646", func := "treadle/treadlelaw24.RepairIsNew", spec := "repairIsNew", inPlace := ["internal/bytealg.IndexByteString"], unfollowed := true, recurses := true, apart := false }
def RepairIsNewSaid : Prop := repairIsNewRow.holds Tryz.pinned (OpenSpec.ofChange repairIsNewSpec)

/-- ITS FALSE NEIGHBOUR: 'it returns false'. Refute it at one input. -/
def repairIsNewWrong : ChangeSpec := { name := "repairIsNew", fn := fun _ => fun
  | [d] => { results := [.lit (.bool false)], args := [d] }
  | _ => none }
def RepairIsNewWrongFalsely : Prop := repairIsNewRow.holds Tryz.pinned (OpenSpec.ofChange repairIsNewWrong)

/-- 'treadlelaw24.RepairBest': WHATEVER THE INPUT: true; the input reads as it did. -/
def repairBestSpec : ChangeSpec := { name := "repairBest", fn := fun _ => fun
  | [d] => { results := [.lit (.bool true)], args := [d] }
  | _ => none }
def repairBestRow : OpenClaim := { program := "ytbppnihcbcdglaagreat", sum := "f4e87eff208bb434af47aa0b84a77b3198076ad0d739aaf7aa0d092cb2384646", func := "treadle/treadlelaw24.RepairBest", spec := "repairBest", inPlace := ["internal/bytealg.IndexByteString"], unfollowed := true, recurses := true, apart := false }
def RepairBestSaid : Prop := repairBestRow.holds Tryz.pinned (OpenSpec.ofChange repairBestSpec)

/-- ITS FALSE NEIGHBOUR: 'it returns false'. Refute it at one input. -/
def repairBestWrong : ChangeSpec := { name := "repairBest", fn := fun _ => fun
  | [d] => { results := [.lit (.bool false)], args := [d] }
  | _ => none }
def RepairBestWrongFalsely : Prop := repairBestRow.holds Tryz.pinned (OpenSpec.ofChange repairBestWrong)

/- THE SECOND FORM. 'bulk': how many values and letters a reading holds, each counted each time it is reached (what is shared counts as often as it is met; a slice's spare places count too). A statement '..UptoSaid' is the law's where the arguments, and the package variables that the reading takes, are together of bulk at most 1048576: NARROWER than '..Said'. Prove '..Said' where nothing that the law and all that it calls make is longer than what came in: it says more and counts as full. Else prove '..UptoSaid'. A law counts once. -/
mutual
def uptoBulk {H : Type} : DataW H → Nat
  | .lit (.string bytes) => bytes.length + 1
  | .lit _ => 1
  | .nil => 1
  | .ptr d => uptoBulk d + 1
  | .slice elems spare => uptoBulkAll elems + uptoBulkAll spare + 1
  | .agg parts => uptoBulkAll parts + 1
  | .iface _ d => uptoBulk d + 1
  | .map entries => uptoBulkEntries entries + 1
  | .held _ => 1
def uptoBulkAll {H : Type} : List (DataW H) → Nat
  | [] => 0
  | d :: r => uptoBulk d + uptoBulkAll r
def uptoBulkEntries {H : Type} : List (Lit × DataW H) → Nat
  | [] => 0
  | x :: r => uptoBulkEntry x + uptoBulkEntries r
def uptoBulkEntry {H : Type} : Lit × DataW H → Nat
  | (.string bytes, d) => bytes.length + uptoBulk d + 1
  | (_, d) => uptoBulk d + 1
 end
def uptoSmall : (H : Type) → List (DataW H) → Bool := fun _ ds => decide (uptoBulkAll ds ≤ 1048576)
def OpenSpec.upto (s : _root_.Go.ChangeSpec) : _root_.Go.OpenSpec := { _root_.Go.OpenSpec.ofChange s with cond := some uptoSmall }

/-- 'treadlelaw23.ShipEncodes', WHERE WHAT IT READS IS OF BULK AT MOST 1048576: true; the input reads as it did. -/
def shipEncodesUptoRow : OpenClaim := { program := "ytbppnihcbcdglaagreat", sum := "f4e87eff208bb434af47aa0b84a77b3198076ad0d739aaf7aa0d092cb2384646", func := "treadle/treadlelaw23.ShipEncodes", spec := "shipEncodes", unfollowed := true, recurses := true, apart := false, narrowed := true }
def ShipEncodesUptoSaid : Prop := shipEncodesUptoRow.holds Tryz.pinned (OpenSpec.upto shipEncodesSpec)

/-- 'treadlelaw23.ShipDecodes', WHERE WHAT IT READS IS OF BULK AT MOST 1048576: true; the input reads as it did. -/
def shipDecodesUptoRow : OpenClaim := { program := "ytbppnihcbcdglaagreat", sum := "f4e87eff208bb434af47aa0b84a77b3198076ad0d739aaf7aa0d092cb2384646", func := "treadle/treadlelaw23.ShipDecodes", spec := "shipDecodes", unfollowed := true, recurses := true, apart := false, narrowed := true }
def ShipDecodesUptoSaid : Prop := shipDecodesUptoRow.holds Tryz.pinned (OpenSpec.upto shipDecodesSpec)

/-- 'treadlelaw20.AuditLooks', WHERE WHAT IT READS IS OF BULK AT MOST 1048576: true; the input reads as it did. -/
def auditLooksUptoRow : OpenClaim := { program := "ytbppnihcbcdglaagreat", sum := "f4e87eff208bb434af47aa0b84a77b3198076ad0d739aaf7aa0d092cb2384646", func := "treadle/treadlelaw20.AuditLooks", spec := "auditLooks", inPlace := ["internal/bytealg.IndexByteString"], unfollowed := true, recurses := true, apart := false, narrowed := true }
def AuditLooksUptoSaid : Prop := auditLooksUptoRow.holds Tryz.pinned (OpenSpec.upto auditLooksSpec)

/-- 'treadlelaw20.AuditOrder', WHERE WHAT IT READS IS OF BULK AT MOST 1048576: true; the input reads as it did. -/
def auditOrderUptoRow : OpenClaim := { program := "ytbppnihcbcdglaagreat", sum := "f4e87eff208bb434af47aa0b84a77b3198076ad0d739aaf7aa0d092cb2384646", func := "treadle/treadlelaw20.AuditOrder", spec := "auditOrder", inPlace := ["internal/bytealg.IndexByteString"], unfollowed := true, recurses := true, apart := false, narrowed := true }
def AuditOrderUptoSaid : Prop := auditOrderUptoRow.holds Tryz.pinned (OpenSpec.upto auditOrderSpec)

/-- 'treadlelaw20.AuditMeans', WHERE WHAT IT READS IS OF BULK AT MOST 1048576: true; the input reads as it did. -/
def auditMeansUptoRow : OpenClaim := { program := "ytbppnihcbcdglaagreat", sum := "f4e87eff208bb434af47aa0b84a77b3198076ad0d739aaf7aa0d092cb2384646", func := "treadle/treadlelaw20.AuditMeans", spec := "auditMeans", inPlace := ["internal/bytealg.IndexByteString"], unfollowed := true, recurses := true, apart := false, narrowed := true }
def AuditMeansUptoSaid : Prop := auditMeansUptoRow.holds Tryz.pinned (OpenSpec.upto auditMeansSpec)

/-- 'treadlelaw20.AuditOwn', WHERE WHAT IT READS IS OF BULK AT MOST 1048576: true; the input reads as it did. -/
def auditOwnUptoRow : OpenClaim := { program := "ytbppnihcbcdglaagreat", sum := "f4e87eff208bb434af47aa0b84a77b3198076ad0d739aaf7aa0d092cb2384646", func := "treadle/treadlelaw20.AuditOwn", spec := "auditOwn", inPlace := ["internal/bytealg.IndexByteString"], unfollowed := true, recurses := true, apart := false, narrowed := true }
def AuditOwnUptoSaid : Prop := auditOwnUptoRow.holds Tryz.pinned (OpenSpec.upto auditOwnSpec)

/-- 'treadlelaw24.RepairMends', WHERE WHAT IT READS IS OF BULK AT MOST 1048576: true; the input reads as it did. -/
def repairMendsUptoRow : OpenClaim := { program := "ytbppnihcbcdglaagreat", sum := "f4e87eff208bb434af47aa0b84a77b3198076ad0d739aaf7aa0d092cb2384646", func := "treadle/treadlelaw24.RepairMends", spec := "repairMends", inPlace := ["internal/bytealg.IndexByteString"], unfollowed := true, recurses := true, apart := false, narrowed := true }
def RepairMendsUptoSaid : Prop := repairMendsUptoRow.holds Tryz.pinned (OpenSpec.upto repairMendsSpec)

/-- 'treadlelaw24.RepairOpens', WHERE WHAT IT READS IS OF BULK AT MOST 1048576: true; the input reads as it did. -/
def repairOpensUptoRow : OpenClaim := { program := "ytbppnihcbcdglaagreat", sum := "f4e87eff208bb434af47aa0b84a77b3198076ad0d739aaf7aa0d092cb2384646", func := "treadle/treadlelaw24.RepairOpens", spec := "repairOpens", inPlace := ["internal/bytealg.IndexByteString"], unfollowed := true, recurses := true, apart := false, narrowed := true }
def RepairOpensUptoSaid : Prop := repairOpensUptoRow.holds Tryz.pinned (OpenSpec.upto repairOpensSpec)

/-- 'treadlelaw24.RepairOrder', WHERE WHAT IT READS IS OF BULK AT MOST 1048576: true; the input reads as it did. -/
def repairOrderUptoRow : OpenClaim := { program := "ytbppnihcbcdglaagreat", sum := "f4e87eff208bb434af47aa0b84a77b3198076ad0d739aaf7aa0d092cb2384646", func := "treadle/treadlelaw24.RepairOrder", spec := "repairOrder", inPlace := ["internal/bytealg.IndexByteString"], unfollowed := true, recurses := true, apart := false, narrowed := true }
def RepairOrderUptoSaid : Prop := repairOrderUptoRow.holds Tryz.pinned (OpenSpec.upto repairOrderSpec)

/-- 'treadlelaw24.RepairIsNew', WHERE WHAT IT READS IS OF BULK AT MOST 1048576: true; the input reads as it did. -/
def repairIsNewUptoRow : OpenClaim := { program := "ytbppnihcbcdglaagreat", sum := "f4e87eff208bb434af47aa0b84a77b3198076ad0d739aaf7aa0d092cb2384646", func := "treadle/treadlelaw24.RepairIsNew", spec := "repairIsNew", inPlace := ["internal/bytealg.IndexByteString"], unfollowed := true, recurses := true, apart := false, narrowed := true }
def RepairIsNewUptoSaid : Prop := repairIsNewUptoRow.holds Tryz.pinned (OpenSpec.upto repairIsNewSpec)

/-- 'treadlelaw24.RepairBest', WHERE WHAT IT READS IS OF BULK AT MOST 1048576: true; the input reads as it did. -/
def repairBestUptoRow : OpenClaim := { program := "ytbppnihcbcdglaagreat", sum := "f4e87eff208bb434af47aa0b84a77b3198076ad0d739aaf7aa0d092cb2384646", func := "treadle/treadlelaw24.RepairBest", spec := "repairBest", inPlace := ["internal/bytealg.IndexByteString"], unfollowed := true, recurses := true, apart := false, narrowed := true }
def RepairBestUptoSaid : Prop := repairBestUptoRow.holds Tryz.pinned (OpenSpec.upto repairBestSpec)

end Rows
end Go.Proofs.YtbppnihcbcdglaaGreat
