/-
  No cell of these rows narrows 'for every input' (looked for: loops, veiled, ifaces, maps, wideKeys, modest, calm, conditions, laid).
  DERIVED. THE GIVEN ROWS OF THIS SEAT. 10 by the template 'for every input the law returns true; each argument reads behind the call as it read before'; 0 by the template 'total and deterministic' (their statements: YtahnncccdlblgaaTotals.lean).
  GIVEN WITH THE SEED: the statements are not yours to turn. If you find one false, say at which input.
  Laid BY PROGRAM, IN A SANDBOX (cutbox-rows.mjs): the forced cells as the released guide's own fill.sh prints them over the translation a6baa9b59831f709… (all of the seat's roots in one cut). By AI agents, Wed Nov 11 2026. No macro, syntax, notation, axiom, sorry.
-/
import Derived.Test.YtahnncccdlblgaaChecked
import GoSem.Claim
import GoSem.ClaimJoined
import GoSem.ClaimMapViews
import Derived.JoinedTies
import Derived.KernelRfl
namespace Go.Proofs.Ytahnncccdlblgaa
/- THE CELL 'sum', in the pinned program and in every row, IS THE sha256 OF THE DUMP (.gsa) THAT YtahnncccdlblgaaProg.lean LOADS. Nothing in Lean hashes anything: it is a label: what it is worth is what the hold of that sum in a sandbox is worth. -/
noncomputable def Try.pinned : Pinned := { name := "ytahnncccdlblgaa", sum := "a6baa9b59831f7096c9441a3e0fde11cca46011a91cb9757e7d3c657aa7ebfc4", checked := Try.checked }
namespace Rows
def none {H : Type} : Left H := { results := [], args := [] }

/-- 'gazetteerlaw09.SectorSeals': WHATEVER THE INPUT: true; the input reads as it did. -/
def sectorSealsSpec : ChangeSpec := { name := "sectorSeals", fn := fun _ => fun
  | [d1, d2] => { results := [.lit (.bool true)], args := [d1, d2] }
  | _ => none }
def sectorSealsRow : OpenClaim := { program := "ytahnncccdlblgaa", sum := "a6baa9b59831f7096c9441a3e0fde11cca46011a91cb9757e7d3c657aa7ebfc4", func := "gazetteer/gazetteerlaw09.SectorSeals", spec := "sectorSeals", apart := false }
def SectorSealsSaid : Prop := sectorSealsRow.holds Try.pinned (OpenSpec.ofChange sectorSealsSpec)

/-- ITS FALSE NEIGHBOUR: 'it returns false'. Refute it at one input. -/
def sectorSealsWrong : ChangeSpec := { name := "sectorSeals", fn := fun _ => fun
  | [d1, d2] => { results := [.lit (.bool false)], args := [d1, d2] }
  | _ => none }
def SectorSealsWrongFalsely : Prop := sectorSealsRow.holds Try.pinned (OpenSpec.ofChange sectorSealsWrong)

/-- 'gazetteerlaw09.SectorParts': WHATEVER THE INPUT: true; the input reads as it did. -/
def sectorPartsSpec : ChangeSpec := { name := "sectorParts", fn := fun _ => fun
  | [d1, d2, d3] => { results := [.lit (.bool true)], args := [d1, d2, d3] }
  | _ => none }
def sectorPartsRow : OpenClaim := { program := "ytahnncccdlblgaa", sum := "a6baa9b59831f7096c9441a3e0fde11cca46011a91cb9757e7d3c657aa7ebfc4", func := "gazetteer/gazetteerlaw09.SectorParts", spec := "sectorParts", apart := false }
def SectorPartsSaid : Prop := sectorPartsRow.holds Try.pinned (OpenSpec.ofChange sectorPartsSpec)

/-- ITS FALSE NEIGHBOUR: 'it returns false'. Refute it at one input. -/
def sectorPartsWrong : ChangeSpec := { name := "sectorParts", fn := fun _ => fun
  | [d1, d2, d3] => { results := [.lit (.bool false)], args := [d1, d2, d3] }
  | _ => none }
def SectorPartsWrongFalsely : Prop := sectorPartsRow.holds Try.pinned (OpenSpec.ofChange sectorPartsWrong)

/-- 'gazetteerlaw03.WnameReads': WHATEVER THE INPUT: true; the input reads as it did. -/
def wnameReadsSpec : ChangeSpec := { name := "wnameReads", fn := fun _ => fun
  | [d1, d2] => { results := [.lit (.bool true)], args := [d1, d2] }
  | _ => none }
def wnameReadsRow : OpenClaim := { program := "ytahnncccdlblgaa", sum := "a6baa9b59831f7096c9441a3e0fde11cca46011a91cb9757e7d3c657aa7ebfc4", func := "gazetteer/gazetteerlaw03.WnameReads", spec := "wnameReads", apart := false }
def WnameReadsSaid : Prop := wnameReadsRow.holds Try.pinned (OpenSpec.ofChange wnameReadsSpec)

/-- ITS FALSE NEIGHBOUR: 'it returns false'. Refute it at one input. -/
def wnameReadsWrong : ChangeSpec := { name := "wnameReads", fn := fun _ => fun
  | [d1, d2] => { results := [.lit (.bool false)], args := [d1, d2] }
  | _ => none }
def WnameReadsWrongFalsely : Prop := wnameReadsRow.holds Try.pinned (OpenSpec.ofChange wnameReadsWrong)

/-- 'gazetteerlaw03.WnameLoops': WHATEVER THE INPUT: true; the input reads as it did. -/
def wnameLoopsSpec : ChangeSpec := { name := "wnameLoops", fn := fun _ => fun
  | [d1, d2, d3] => { results := [.lit (.bool true)], args := [d1, d2, d3] }
  | _ => none }
def wnameLoopsRow : OpenClaim := { program := "ytahnncccdlblgaa", sum := "a6baa9b59831f7096c9441a3e0fde11cca46011a91cb9757e7d3c657aa7ebfc4", func := "gazetteer/gazetteerlaw03.WnameLoops", spec := "wnameLoops", apart := false }
def WnameLoopsSaid : Prop := wnameLoopsRow.holds Try.pinned (OpenSpec.ofChange wnameLoopsSpec)

/-- ITS FALSE NEIGHBOUR: 'it returns false'. Refute it at one input. -/
def wnameLoopsWrong : ChangeSpec := { name := "wnameLoops", fn := fun _ => fun
  | [d1, d2, d3] => { results := [.lit (.bool false)], args := [d1, d2, d3] }
  | _ => none }
def WnameLoopsWrongFalsely : Prop := wnameLoopsRow.holds Try.pinned (OpenSpec.ofChange wnameLoopsWrong)

/-- 'gazetteerlaw09.SectorOpens': WHATEVER THE INPUT: true; the input reads as it did. -/
def sectorOpensSpec : ChangeSpec := { name := "sectorOpens", fn := fun _ => fun
  | [d1, d2, d3] => { results := [.lit (.bool true)], args := [d1, d2, d3] }
  | _ => none }
def sectorOpensRow : OpenClaim := { program := "ytahnncccdlblgaa", sum := "a6baa9b59831f7096c9441a3e0fde11cca46011a91cb9757e7d3c657aa7ebfc4", func := "gazetteer/gazetteerlaw09.SectorOpens", spec := "sectorOpens", apart := false }
def SectorOpensSaid : Prop := sectorOpensRow.holds Try.pinned (OpenSpec.ofChange sectorOpensSpec)

/-- ITS FALSE NEIGHBOUR: 'it returns false'. Refute it at one input. -/
def sectorOpensWrong : ChangeSpec := { name := "sectorOpens", fn := fun _ => fun
  | [d1, d2, d3] => { results := [.lit (.bool false)], args := [d1, d2, d3] }
  | _ => none }
def SectorOpensWrongFalsely : Prop := sectorOpensRow.holds Try.pinned (OpenSpec.ofChange sectorOpensWrong)

/-- 'gazetteerlaw09.SectorBack': WHATEVER THE INPUT: true; the input reads as it did. -/
def sectorBackSpec : ChangeSpec := { name := "sectorBack", fn := fun _ => fun
  | [d1, d2] => { results := [.lit (.bool true)], args := [d1, d2] }
  | _ => none }
def sectorBackRow : OpenClaim := { program := "ytahnncccdlblgaa", sum := "a6baa9b59831f7096c9441a3e0fde11cca46011a91cb9757e7d3c657aa7ebfc4", func := "gazetteer/gazetteerlaw09.SectorBack", spec := "sectorBack", apart := false }
def SectorBackSaid : Prop := sectorBackRow.holds Try.pinned (OpenSpec.ofChange sectorBackSpec)

/-- ITS FALSE NEIGHBOUR: 'it returns false'. Refute it at one input. -/
def sectorBackWrong : ChangeSpec := { name := "sectorBack", fn := fun _ => fun
  | [d1, d2] => { results := [.lit (.bool false)], args := [d1, d2] }
  | _ => none }
def SectorBackWrongFalsely : Prop := sectorBackRow.holds Try.pinned (OpenSpec.ofChange sectorBackWrong)

/-- 'gazetteerlaw03.WnameWrites': WHATEVER THE INPUT: true; the input reads as it did. -/
def wnameWritesSpec : ChangeSpec := { name := "wnameWrites", fn := fun _ => fun
  | [d] => { results := [.lit (.bool true)], args := [d] }
  | _ => none }
def wnameWritesRow : OpenClaim := { program := "ytahnncccdlblgaa", sum := "a6baa9b59831f7096c9441a3e0fde11cca46011a91cb9757e7d3c657aa7ebfc4", func := "gazetteer/gazetteerlaw03.WnameWrites", spec := "wnameWrites", unfollowed := true, recurses := true, apart := false }
def WnameWritesSaid : Prop := wnameWritesRow.holds Try.pinned (OpenSpec.ofChange wnameWritesSpec)

/-- ITS FALSE NEIGHBOUR: 'it returns false'. Refute it at one input. -/
def wnameWritesWrong : ChangeSpec := { name := "wnameWrites", fn := fun _ => fun
  | [d] => { results := [.lit (.bool false)], args := [d] }
  | _ => none }
def WnameWritesWrongFalsely : Prop := wnameWritesRow.holds Try.pinned (OpenSpec.ofChange wnameWritesWrong)

/-- 'gazetteerlaw03.WnameBack': WHATEVER THE INPUT: true; the input reads as it did. -/
def wnameBackSpec : ChangeSpec := { name := "wnameBack", fn := fun _ => fun
  | [d1, d2, d3] => { results := [.lit (.bool true)], args := [d1, d2, d3] }
  | _ => none }
def wnameBackRow : OpenClaim := { program := "ytahnncccdlblgaa", sum := "a6baa9b59831f7096c9441a3e0fde11cca46011a91cb9757e7d3c657aa7ebfc4", func := "gazetteer/gazetteerlaw03.WnameBack", spec := "wnameBack", unfollowed := true, recurses := true, apart := false }
def WnameBackSaid : Prop := wnameBackRow.holds Try.pinned (OpenSpec.ofChange wnameBackSpec)

/-- ITS FALSE NEIGHBOUR: 'it returns false'. Refute it at one input. -/
def wnameBackWrong : ChangeSpec := { name := "wnameBack", fn := fun _ => fun
  | [d1, d2, d3] => { results := [.lit (.bool false)], args := [d1, d2, d3] }
  | _ => none }
def WnameBackWrongFalsely : Prop := wnameBackRow.holds Try.pinned (OpenSpec.ofChange wnameBackWrong)

/-- 'gazetteerlaw03.WnameReach': WHATEVER THE INPUT: true; the input reads as it did. -/
def wnameReachSpec : ChangeSpec := { name := "wnameReach", fn := fun _ => fun
  | [d1, d2] => { results := [.lit (.bool true)], args := [d1, d2] }
  | _ => none }
def wnameReachRow : OpenClaim := { program := "ytahnncccdlblgaa", sum := "a6baa9b59831f7096c9441a3e0fde11cca46011a91cb9757e7d3c657aa7ebfc4", func := "gazetteer/gazetteerlaw03.WnameReach", spec := "wnameReach", unfollowed := true, recurses := true, apart := false }
def WnameReachSaid : Prop := wnameReachRow.holds Try.pinned (OpenSpec.ofChange wnameReachSpec)

/-- ITS FALSE NEIGHBOUR: 'it returns false'. Refute it at one input. -/
def wnameReachWrong : ChangeSpec := { name := "wnameReach", fn := fun _ => fun
  | [d1, d2] => { results := [.lit (.bool false)], args := [d1, d2] }
  | _ => none }
def WnameReachWrongFalsely : Prop := wnameReachRow.holds Try.pinned (OpenSpec.ofChange wnameReachWrong)

/-- 'gazetteerlaw03.WnameSets': WHATEVER THE INPUT: true; the input reads as it did. -/
def wnameSetsSpec : ChangeSpec := { name := "wnameSets", fn := fun _ => fun
  | [d1, d2, d3, d4] => { results := [.lit (.bool true)], args := [d1, d2, d3, d4] }
  | _ => none }
def wnameSetsRow : OpenClaim := { program := "ytahnncccdlblgaa", sum := "a6baa9b59831f7096c9441a3e0fde11cca46011a91cb9757e7d3c657aa7ebfc4", func := "gazetteer/gazetteerlaw03.WnameSets", spec := "wnameSets", unfollowed := true, recurses := true, apart := false }
def WnameSetsSaid : Prop := wnameSetsRow.holds Try.pinned (OpenSpec.ofChange wnameSetsSpec)

/-- ITS FALSE NEIGHBOUR: 'it returns false'. Refute it at one input. -/
def wnameSetsWrong : ChangeSpec := { name := "wnameSets", fn := fun _ => fun
  | [d1, d2, d3, d4] => { results := [.lit (.bool false)], args := [d1, d2, d3, d4] }
  | _ => none }
def WnameSetsWrongFalsely : Prop := wnameSetsRow.holds Try.pinned (OpenSpec.ofChange wnameSetsWrong)

/- THE SECOND FORM. 'bulk': how many values and letters a reading holds, each counted each time it is reached (what is shared counts as often as it is met; a slice's spare places count too). A statement '..UptoSaid' is the law's where the arguments, and the package variables that the reading takes, are together of bulk at most 1048576: NARROWER than '..Said'. Prove '..Said' where nothing that the law and all that it calls make is longer than what came in: it says more and counts as full. Else prove '..UptoSaid'. A law counts once. -/
mutual
def uptoBulk {H : Type} : DataW H → Nat
  | .lit (.string bytes) => bytes.length + 1
  | .lit _ => 1
  | .nil => 1
  | .ptr d => uptoBulk d + 1
  | .slice elems spare => uptoBulkAll elems + uptoBulkAll spare + 1
  | .agg parts => uptoBulkAll parts + 1
  | .iface _ d => uptoBulk d + 1
  | .map entries => uptoBulkEntries entries + 1
  | .held _ => 1
def uptoBulkAll {H : Type} : List (DataW H) → Nat
  | [] => 0
  | d :: r => uptoBulk d + uptoBulkAll r
def uptoBulkEntries {H : Type} : List (Lit × DataW H) → Nat
  | [] => 0
  | x :: r => uptoBulkEntry x + uptoBulkEntries r
def uptoBulkEntry {H : Type} : Lit × DataW H → Nat
  | (.string bytes, d) => bytes.length + uptoBulk d + 1
  | (_, d) => uptoBulk d + 1
 end
def uptoSmall : (H : Type) → List (DataW H) → Bool := fun _ ds => decide (uptoBulkAll ds ≤ 1048576)
def OpenSpec.upto (s : _root_.Go.ChangeSpec) : _root_.Go.OpenSpec := { _root_.Go.OpenSpec.ofChange s with cond := some uptoSmall }

/-- 'gazetteerlaw09.SectorSeals', WHERE WHAT IT READS IS OF BULK AT MOST 1048576: true; the input reads as it did. -/
def sectorSealsUptoRow : OpenClaim := { program := "ytahnncccdlblgaa", sum := "a6baa9b59831f7096c9441a3e0fde11cca46011a91cb9757e7d3c657aa7ebfc4", func := "gazetteer/gazetteerlaw09.SectorSeals", spec := "sectorSeals", apart := false, narrowed := true }
def SectorSealsUptoSaid : Prop := sectorSealsUptoRow.holds Try.pinned (OpenSpec.upto sectorSealsSpec)

/-- 'gazetteerlaw09.SectorParts', WHERE WHAT IT READS IS OF BULK AT MOST 1048576: true; the input reads as it did. -/
def sectorPartsUptoRow : OpenClaim := { program := "ytahnncccdlblgaa", sum := "a6baa9b59831f7096c9441a3e0fde11cca46011a91cb9757e7d3c657aa7ebfc4", func := "gazetteer/gazetteerlaw09.SectorParts", spec := "sectorParts", apart := false, narrowed := true }
def SectorPartsUptoSaid : Prop := sectorPartsUptoRow.holds Try.pinned (OpenSpec.upto sectorPartsSpec)

/-- 'gazetteerlaw03.WnameReads', WHERE WHAT IT READS IS OF BULK AT MOST 1048576: true; the input reads as it did. -/
def wnameReadsUptoRow : OpenClaim := { program := "ytahnncccdlblgaa", sum := "a6baa9b59831f7096c9441a3e0fde11cca46011a91cb9757e7d3c657aa7ebfc4", func := "gazetteer/gazetteerlaw03.WnameReads", spec := "wnameReads", apart := false, narrowed := true }
def WnameReadsUptoSaid : Prop := wnameReadsUptoRow.holds Try.pinned (OpenSpec.upto wnameReadsSpec)

/-- 'gazetteerlaw03.WnameLoops', WHERE WHAT IT READS IS OF BULK AT MOST 1048576: true; the input reads as it did. -/
def wnameLoopsUptoRow : OpenClaim := { program := "ytahnncccdlblgaa", sum := "a6baa9b59831f7096c9441a3e0fde11cca46011a91cb9757e7d3c657aa7ebfc4", func := "gazetteer/gazetteerlaw03.WnameLoops", spec := "wnameLoops", apart := false, narrowed := true }
def WnameLoopsUptoSaid : Prop := wnameLoopsUptoRow.holds Try.pinned (OpenSpec.upto wnameLoopsSpec)

/-- 'gazetteerlaw09.SectorOpens', WHERE WHAT IT READS IS OF BULK AT MOST 1048576: true; the input reads as it did. -/
def sectorOpensUptoRow : OpenClaim := { program := "ytahnncccdlblgaa", sum := "a6baa9b59831f7096c9441a3e0fde11cca46011a91cb9757e7d3c657aa7ebfc4", func := "gazetteer/gazetteerlaw09.SectorOpens", spec := "sectorOpens", apart := false, narrowed := true }
def SectorOpensUptoSaid : Prop := sectorOpensUptoRow.holds Try.pinned (OpenSpec.upto sectorOpensSpec)

/-- 'gazetteerlaw09.SectorBack', WHERE WHAT IT READS IS OF BULK AT MOST 1048576: true; the input reads as it did. -/
def sectorBackUptoRow : OpenClaim := { program := "ytahnncccdlblgaa", sum := "a6baa9b59831f7096c9441a3e0fde11cca46011a91cb9757e7d3c657aa7ebfc4", func := "gazetteer/gazetteerlaw09.SectorBack", spec := "sectorBack", apart := false, narrowed := true }
def SectorBackUptoSaid : Prop := sectorBackUptoRow.holds Try.pinned (OpenSpec.upto sectorBackSpec)

/-- 'gazetteerlaw03.WnameWrites', WHERE WHAT IT READS IS OF BULK AT MOST 1048576: true; the input reads as it did. -/
def wnameWritesUptoRow : OpenClaim := { program := "ytahnncccdlblgaa", sum := "a6baa9b59831f7096c9441a3e0fde11cca46011a91cb9757e7d3c657aa7ebfc4", func := "gazetteer/gazetteerlaw03.WnameWrites", spec := "wnameWrites", unfollowed := true, recurses := true, apart := false, narrowed := true }
def WnameWritesUptoSaid : Prop := wnameWritesUptoRow.holds Try.pinned (OpenSpec.upto wnameWritesSpec)

/-- 'gazetteerlaw03.WnameBack', WHERE WHAT IT READS IS OF BULK AT MOST 1048576: true; the input reads as it did. -/
def wnameBackUptoRow : OpenClaim := { program := "ytahnncccdlblgaa", sum := "a6baa9b59831f7096c9441a3e0fde11cca46011a91cb9757e7d3c657aa7ebfc4", func := "gazetteer/gazetteerlaw03.WnameBack", spec := "wnameBack", unfollowed := true, recurses := true, apart := false, narrowed := true }
def WnameBackUptoSaid : Prop := wnameBackUptoRow.holds Try.pinned (OpenSpec.upto wnameBackSpec)

/-- 'gazetteerlaw03.WnameReach', WHERE WHAT IT READS IS OF BULK AT MOST 1048576: true; the input reads as it did. -/
def wnameReachUptoRow : OpenClaim := { program := "ytahnncccdlblgaa", sum := "a6baa9b59831f7096c9441a3e0fde11cca46011a91cb9757e7d3c657aa7ebfc4", func := "gazetteer/gazetteerlaw03.WnameReach", spec := "wnameReach", unfollowed := true, recurses := true, apart := false, narrowed := true }
def WnameReachUptoSaid : Prop := wnameReachUptoRow.holds Try.pinned (OpenSpec.upto wnameReachSpec)

/-- 'gazetteerlaw03.WnameSets', WHERE WHAT IT READS IS OF BULK AT MOST 1048576: true; the input reads as it did. -/
def wnameSetsUptoRow : OpenClaim := { program := "ytahnncccdlblgaa", sum := "a6baa9b59831f7096c9441a3e0fde11cca46011a91cb9757e7d3c657aa7ebfc4", func := "gazetteer/gazetteerlaw03.WnameSets", spec := "wnameSets", unfollowed := true, recurses := true, apart := false, narrowed := true }
def WnameSetsUptoSaid : Prop := wnameSetsUptoRow.holds Try.pinned (OpenSpec.upto wnameSetsSpec)

end Rows
end Go.Proofs.Ytahnncccdlblgaa
