/-
  No cell of these rows narrows 'for every input' (looked for: loops, veiled, ifaces, maps, wideKeys, modest, calm, conditions, laid).
  DERIVED. THE GIVEN ROWS OF THIS SEAT. 7 by the template 'for every input the law returns true; each argument reads behind the call as it read before'; 0 by the template 'total and deterministic' (their statements: YtgefdpmhdidnnaaTotals.lean).
  GIVEN WITH THE SEED: the statements are not yours to turn. If you find one false, say at which input.
  Laid BY PROGRAM, IN A SANDBOX (cutbox-rows.mjs): the forced cells as the released guide's own fill.sh prints them over the translation 62d74a3a8fad8965… (all of the seat's roots in one cut). By AI agents, Wed Nov 11 2026. No macro, syntax, notation, axiom, sorry.
-/
import Derived.Test.YtgefdpmhdidnnaaChecked
import GoSem.Claim
import GoSem.ClaimJoined
import GoSem.ClaimMapViews
import Derived.JoinedTies
import Derived.KernelRfl
namespace Go.Proofs.Ytgefdpmhdidnnaa
/- THE CELL 'sum', in the pinned program and in every row, IS THE sha256 OF THE DUMP (.gsa) THAT YtgefdpmhdidnnaaProg.lean LOADS. Nothing in Lean hashes anything: it is a label: what it is worth is what the hold of that sum in a sandbox is worth. -/
noncomputable def Try.pinned : Pinned := { name := "ytgefdpmhdidnnaa", sum := "62d74a3a8fad896529fa8fb30807b5d598ff6698f5e5012b967fa13ce90a7977", checked := Try.checked }
namespace Rows
def none {H : Type} : Left H := { results := [], args := [] }

/-- 'quarrellaw11.LangAlone': WHATEVER THE INPUT: true; the input reads as it did. -/
def langAloneSpec : ChangeSpec := { name := "langAlone", fn := fun _ => fun
  | [d1, d2] => { results := [.lit (.bool true)], args := [d1, d2] }
  | _ => none }
def langAloneRow : OpenClaim := { program := "ytgefdpmhdidnnaa", sum := "62d74a3a8fad896529fa8fb30807b5d598ff6698f5e5012b967fa13ce90a7977", func := "quarrel/quarrellaw11.LangAlone", spec := "langAlone", unfollowed := true, recurses := true, apart := false }
def LangAloneSaid : Prop := langAloneRow.holds Try.pinned (OpenSpec.ofChange langAloneSpec)

/-- ITS FALSE NEIGHBOUR: 'it returns false'. Refute it at one input. -/
def langAloneWrong : ChangeSpec := { name := "langAlone", fn := fun _ => fun
  | [d1, d2] => { results := [.lit (.bool false)], args := [d1, d2] }
  | _ => none }
def LangAloneWrongFalsely : Prop := langAloneRow.holds Try.pinned (OpenSpec.ofChange langAloneWrong)

/-- 'quarrellaw11.LangApart': WHATEVER THE INPUT: true; the input reads as it did. -/
def langApartSpec : ChangeSpec := { name := "langApart", fn := fun _ => fun
  | [d1, d2, d3, d4] => { results := [.lit (.bool true)], args := [d1, d2, d3, d4] }
  | _ => none }
def langApartRow : OpenClaim := { program := "ytgefdpmhdidnnaa", sum := "62d74a3a8fad896529fa8fb30807b5d598ff6698f5e5012b967fa13ce90a7977", func := "quarrel/quarrellaw11.LangApart", spec := "langApart", unfollowed := true, recurses := true, apart := false }
def LangApartSaid : Prop := langApartRow.holds Try.pinned (OpenSpec.ofChange langApartSpec)

/-- ITS FALSE NEIGHBOUR: 'it returns false'. Refute it at one input. -/
def langApartWrong : ChangeSpec := { name := "langApart", fn := fun _ => fun
  | [d1, d2, d3, d4] => { results := [.lit (.bool false)], args := [d1, d2, d3, d4] }
  | _ => none }
def LangApartWrongFalsely : Prop := langApartRow.holds Try.pinned (OpenSpec.ofChange langApartWrong)

/-- 'quarrellaw11.LangLast': WHATEVER THE INPUT: true; the input reads as it did. -/
def langLastSpec : ChangeSpec := { name := "langLast", fn := fun _ => fun
  | [d1, d2] => { results := [.lit (.bool true)], args := [d1, d2] }
  | _ => none }
def langLastRow : OpenClaim := { program := "ytgefdpmhdidnnaa", sum := "62d74a3a8fad896529fa8fb30807b5d598ff6698f5e5012b967fa13ce90a7977", func := "quarrel/quarrellaw11.LangLast", spec := "langLast", unfollowed := true, recurses := true, apart := false }
def LangLastSaid : Prop := langLastRow.holds Try.pinned (OpenSpec.ofChange langLastSpec)

/-- ITS FALSE NEIGHBOUR: 'it returns false'. Refute it at one input. -/
def langLastWrong : ChangeSpec := { name := "langLast", fn := fun _ => fun
  | [d1, d2] => { results := [.lit (.bool false)], args := [d1, d2] }
  | _ => none }
def LangLastWrongFalsely : Prop := langLastRow.holds Try.pinned (OpenSpec.ofChange langLastWrong)

/-- 'quarrellaw11.LangOk': WHATEVER THE INPUT: true; the input reads as it did. -/
def langOkSpec : ChangeSpec := { name := "langOk", fn := fun _ => fun
  | [d1, d2, d3, d4] => { results := [.lit (.bool true)], args := [d1, d2, d3, d4] }
  | _ => none }
def langOkRow : OpenClaim := { program := "ytgefdpmhdidnnaa", sum := "62d74a3a8fad896529fa8fb30807b5d598ff6698f5e5012b967fa13ce90a7977", func := "quarrel/quarrellaw11.LangOk", spec := "langOk", unfollowed := true, recurses := true, apart := false }
def LangOkSaid : Prop := langOkRow.holds Try.pinned (OpenSpec.ofChange langOkSpec)

/-- ITS FALSE NEIGHBOUR: 'it returns false'. Refute it at one input. -/
def langOkWrong : ChangeSpec := { name := "langOk", fn := fun _ => fun
  | [d1, d2, d3, d4] => { results := [.lit (.bool false)], args := [d1, d2, d3, d4] }
  | _ => none }
def LangOkWrongFalsely : Prop := langOkRow.holds Try.pinned (OpenSpec.ofChange langOkWrong)

/-- 'quarrellaw11.LangGets': WHATEVER THE INPUT: true; the input reads as it did. -/
def langGetsSpec : ChangeSpec := { name := "langGets", fn := fun _ => fun
  | [d1, d2] => { results := [.lit (.bool true)], args := [d1, d2] }
  | _ => none }
def langGetsRow : OpenClaim := { program := "ytgefdpmhdidnnaa", sum := "62d74a3a8fad896529fa8fb30807b5d598ff6698f5e5012b967fa13ce90a7977", func := "quarrel/quarrellaw11.LangGets", spec := "langGets", unfollowed := true, recurses := true, apart := false }
def LangGetsSaid : Prop := langGetsRow.holds Try.pinned (OpenSpec.ofChange langGetsSpec)

/-- ITS FALSE NEIGHBOUR: 'it returns false'. Refute it at one input. -/
def langGetsWrong : ChangeSpec := { name := "langGets", fn := fun _ => fun
  | [d1, d2] => { results := [.lit (.bool false)], args := [d1, d2] }
  | _ => none }
def LangGetsWrongFalsely : Prop := langGetsRow.holds Try.pinned (OpenSpec.ofChange langGetsWrong)

/-- 'quarrellaw11.LangBack': WHATEVER THE INPUT: true; the input reads as it did. -/
def langBackSpec : ChangeSpec := { name := "langBack", fn := fun _ => fun
  | [d1, d2, d3] => { results := [.lit (.bool true)], args := [d1, d2, d3] }
  | _ => none }
def langBackRow : OpenClaim := { program := "ytgefdpmhdidnnaa", sum := "62d74a3a8fad896529fa8fb30807b5d598ff6698f5e5012b967fa13ce90a7977", func := "quarrel/quarrellaw11.LangBack", spec := "langBack", unfollowed := true, recurses := true, apart := false }
def LangBackSaid : Prop := langBackRow.holds Try.pinned (OpenSpec.ofChange langBackSpec)

/-- ITS FALSE NEIGHBOUR: 'it returns false'. Refute it at one input. -/
def langBackWrong : ChangeSpec := { name := "langBack", fn := fun _ => fun
  | [d1, d2, d3] => { results := [.lit (.bool false)], args := [d1, d2, d3] }
  | _ => none }
def LangBackWrongFalsely : Prop := langBackRow.holds Try.pinned (OpenSpec.ofChange langBackWrong)

/-- 'quarrellaw11.LangParts': WHATEVER THE INPUT: true; the input reads as it did. -/
def langPartsSpec : ChangeSpec := { name := "langParts", fn := fun _ => fun
  | [d1, d2, d3] => { results := [.lit (.bool true)], args := [d1, d2, d3] }
  | _ => none }
def langPartsRow : OpenClaim := { program := "ytgefdpmhdidnnaa", sum := "62d74a3a8fad896529fa8fb30807b5d598ff6698f5e5012b967fa13ce90a7977", func := "quarrel/quarrellaw11.LangParts", spec := "langParts", unfollowed := true, recurses := true, apart := false }
def LangPartsSaid : Prop := langPartsRow.holds Try.pinned (OpenSpec.ofChange langPartsSpec)

/-- ITS FALSE NEIGHBOUR: 'it returns false'. Refute it at one input. -/
def langPartsWrong : ChangeSpec := { name := "langParts", fn := fun _ => fun
  | [d1, d2, d3] => { results := [.lit (.bool false)], args := [d1, d2, d3] }
  | _ => none }
def LangPartsWrongFalsely : Prop := langPartsRow.holds Try.pinned (OpenSpec.ofChange langPartsWrong)

/- THE SECOND FORM. 'bulk': how many values and letters a reading holds, each counted each time it is reached (what is shared counts as often as it is met; a slice's spare places count too). A statement '..UptoSaid' is the law's where the arguments, and the package variables that the reading takes, are together of bulk at most 1048576: NARROWER than '..Said'. Prove '..Said' where nothing that the law and all that it calls make is longer than what came in: it says more and counts as full. Else prove '..UptoSaid'. A law counts once. -/
mutual
def uptoBulk {H : Type} : DataW H → Nat
  | .lit (.string bytes) => bytes.length + 1
  | .lit _ => 1
  | .nil => 1
  | .ptr d => uptoBulk d + 1
  | .slice elems spare => uptoBulkAll elems + uptoBulkAll spare + 1
  | .agg parts => uptoBulkAll parts + 1
  | .iface _ d => uptoBulk d + 1
  | .map entries => uptoBulkEntries entries + 1
  | .held _ => 1
def uptoBulkAll {H : Type} : List (DataW H) → Nat
  | [] => 0
  | d :: r => uptoBulk d + uptoBulkAll r
def uptoBulkEntries {H : Type} : List (Lit × DataW H) → Nat
  | [] => 0
  | x :: r => uptoBulkEntry x + uptoBulkEntries r
def uptoBulkEntry {H : Type} : Lit × DataW H → Nat
  | (.string bytes, d) => bytes.length + uptoBulk d + 1
  | (_, d) => uptoBulk d + 1
 end
def uptoSmall : (H : Type) → List (DataW H) → Bool := fun _ ds => decide (uptoBulkAll ds ≤ 1048576)
def OpenSpec.upto (s : _root_.Go.ChangeSpec) : _root_.Go.OpenSpec := { _root_.Go.OpenSpec.ofChange s with cond := some uptoSmall }

/-- 'quarrellaw11.LangAlone', WHERE WHAT IT READS IS OF BULK AT MOST 1048576: true; the input reads as it did. -/
def langAloneUptoRow : OpenClaim := { program := "ytgefdpmhdidnnaa", sum := "62d74a3a8fad896529fa8fb30807b5d598ff6698f5e5012b967fa13ce90a7977", func := "quarrel/quarrellaw11.LangAlone", spec := "langAlone", unfollowed := true, recurses := true, apart := false, narrowed := true }
def LangAloneUptoSaid : Prop := langAloneUptoRow.holds Try.pinned (OpenSpec.upto langAloneSpec)

/-- 'quarrellaw11.LangApart', WHERE WHAT IT READS IS OF BULK AT MOST 1048576: true; the input reads as it did. -/
def langApartUptoRow : OpenClaim := { program := "ytgefdpmhdidnnaa", sum := "62d74a3a8fad896529fa8fb30807b5d598ff6698f5e5012b967fa13ce90a7977", func := "quarrel/quarrellaw11.LangApart", spec := "langApart", unfollowed := true, recurses := true, apart := false, narrowed := true }
def LangApartUptoSaid : Prop := langApartUptoRow.holds Try.pinned (OpenSpec.upto langApartSpec)

/-- 'quarrellaw11.LangLast', WHERE WHAT IT READS IS OF BULK AT MOST 1048576: true; the input reads as it did. -/
def langLastUptoRow : OpenClaim := { program := "ytgefdpmhdidnnaa", sum := "62d74a3a8fad896529fa8fb30807b5d598ff6698f5e5012b967fa13ce90a7977", func := "quarrel/quarrellaw11.LangLast", spec := "langLast", unfollowed := true, recurses := true, apart := false, narrowed := true }
def LangLastUptoSaid : Prop := langLastUptoRow.holds Try.pinned (OpenSpec.upto langLastSpec)

/-- 'quarrellaw11.LangOk', WHERE WHAT IT READS IS OF BULK AT MOST 1048576: true; the input reads as it did. -/
def langOkUptoRow : OpenClaim := { program := "ytgefdpmhdidnnaa", sum := "62d74a3a8fad896529fa8fb30807b5d598ff6698f5e5012b967fa13ce90a7977", func := "quarrel/quarrellaw11.LangOk", spec := "langOk", unfollowed := true, recurses := true, apart := false, narrowed := true }
def LangOkUptoSaid : Prop := langOkUptoRow.holds Try.pinned (OpenSpec.upto langOkSpec)

/-- 'quarrellaw11.LangGets', WHERE WHAT IT READS IS OF BULK AT MOST 1048576: true; the input reads as it did. -/
def langGetsUptoRow : OpenClaim := { program := "ytgefdpmhdidnnaa", sum := "62d74a3a8fad896529fa8fb30807b5d598ff6698f5e5012b967fa13ce90a7977", func := "quarrel/quarrellaw11.LangGets", spec := "langGets", unfollowed := true, recurses := true, apart := false, narrowed := true }
def LangGetsUptoSaid : Prop := langGetsUptoRow.holds Try.pinned (OpenSpec.upto langGetsSpec)

/-- 'quarrellaw11.LangBack', WHERE WHAT IT READS IS OF BULK AT MOST 1048576: true; the input reads as it did. -/
def langBackUptoRow : OpenClaim := { program := "ytgefdpmhdidnnaa", sum := "62d74a3a8fad896529fa8fb30807b5d598ff6698f5e5012b967fa13ce90a7977", func := "quarrel/quarrellaw11.LangBack", spec := "langBack", unfollowed := true, recurses := true, apart := false, narrowed := true }
def LangBackUptoSaid : Prop := langBackUptoRow.holds Try.pinned (OpenSpec.upto langBackSpec)

/-- 'quarrellaw11.LangParts', WHERE WHAT IT READS IS OF BULK AT MOST 1048576: true; the input reads as it did. -/
def langPartsUptoRow : OpenClaim := { program := "ytgefdpmhdidnnaa", sum := "62d74a3a8fad896529fa8fb30807b5d598ff6698f5e5012b967fa13ce90a7977", func := "quarrel/quarrellaw11.LangParts", spec := "langParts", unfollowed := true, recurses := true, apart := false, narrowed := true }
def LangPartsUptoSaid : Prop := langPartsUptoRow.holds Try.pinned (OpenSpec.upto langPartsSpec)

end Rows
end Go.Proofs.Ytgefdpmhdidnnaa
