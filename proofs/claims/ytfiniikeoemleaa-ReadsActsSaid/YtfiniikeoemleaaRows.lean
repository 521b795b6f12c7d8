/-
  No cell of these rows narrows 'for every input' (looked for: loops, veiled, ifaces, maps, wideKeys, modest, calm, conditions, laid).
  DERIVED. THE GIVEN ROWS OF THIS SEAT. 4 by the template 'for every input the law returns true; each argument reads behind the call as it read before'; 0 by the template 'total and deterministic' (their statements: YtfiniikeoemleaaTotals.lean).
  GIVEN WITH THE SEED: the statements are not yours to turn. If you find one false, say at which input.
  Laid BY PROGRAM, IN A SANDBOX (cutbox-rows.mjs): the forced cells as the released guide's own fill.sh prints them over the translation caa3f3cf68e24436… (all of the seat's roots in one cut). By AI agents, Wed Nov 11 2026. No macro, syntax, notation, axiom, sorry.
-/
import Derived.Test.YtfiniikeoemleaaChecked
import GoSem.Claim
import GoSem.ClaimJoined
import GoSem.ClaimMapViews
import Derived.JoinedTies
import Derived.KernelRfl
namespace Go.Proofs.Ytfiniikeoemleaa
/- THE CELL 'sum', in the pinned program and in every row, IS THE sha256 OF THE DUMP (.gsa) THAT YtfiniikeoemleaaProg.lean LOADS. Nothing in Lean hashes anything: it is a label: what it is worth is what the hold of that sum in a sandbox is worth. -/
noncomputable def Try.pinned : Pinned := { name := "ytfiniikeoemleaa", sum := "caa3f3cf68e244366132983710f7fcdeef530e2ccc2acad73e1388a58f670866", checked := Try.checked }
namespace Rows
def none {H : Type} : Left H := { results := [], args := [] }

/-- 'quarrellaw12.ReadsUnclaimed': WHATEVER THE INPUT: true; the input reads as it did. -/
def readsUnclaimedSpec : ChangeSpec := { name := "readsUnclaimed", fn := fun _ => fun
  | [d1, d2, d3] => { results := [.lit (.bool true)], args := [d1, d2, d3] }
  | _ => none }
def readsUnclaimedRow : OpenClaim := { program := "ytfiniikeoemleaa", sum := "caa3f3cf68e244366132983710f7fcdeef530e2ccc2acad73e1388a58f670866", func := "quarrel/quarrellaw12.ReadsUnclaimed", spec := "readsUnclaimed", unfollowed := true, recurses := true, apart := false }
def ReadsUnclaimedSaid : Prop := readsUnclaimedRow.holds Try.pinned (OpenSpec.ofChange readsUnclaimedSpec)

/-- ITS FALSE NEIGHBOUR: 'it returns false'. Refute it at one input. -/
def readsUnclaimedWrong : ChangeSpec := { name := "readsUnclaimed", fn := fun _ => fun
  | [d1, d2, d3] => { results := [.lit (.bool false)], args := [d1, d2, d3] }
  | _ => none }
def ReadsUnclaimedWrongFalsely : Prop := readsUnclaimedRow.holds Try.pinned (OpenSpec.ofChange readsUnclaimedWrong)

/-- 'quarrellaw12.ReadsActs': WHATEVER THE INPUT: true; the input reads as it did. -/
def readsActsSpec : ChangeSpec := { name := "readsActs", fn := fun _ => fun
  | [d1, d2] => { results := [.lit (.bool true)], args := [d1, d2] }
  | _ => none }
def readsActsRow : OpenClaim := { program := "ytfiniikeoemleaa", sum := "caa3f3cf68e244366132983710f7fcdeef530e2ccc2acad73e1388a58f670866", func := "quarrel/quarrellaw12.ReadsActs", spec := "readsActs", unfollowed := true, recurses := true, apart := false }
def ReadsActsSaid : Prop := readsActsRow.holds Try.pinned (OpenSpec.ofChange readsActsSpec)

/-- ITS FALSE NEIGHBOUR: 'it returns false'. Refute it at one input. -/
def readsActsWrong : ChangeSpec := { name := "readsActs", fn := fun _ => fun
  | [d1, d2] => { results := [.lit (.bool false)], args := [d1, d2] }
  | _ => none }
def ReadsActsWrongFalsely : Prop := readsActsRow.holds Try.pinned (OpenSpec.ofChange readsActsWrong)

/-- 'quarrellaw12.ReadsOne': WHATEVER THE INPUT: true; the input reads as it did. -/
def readsOneSpec : ChangeSpec := { name := "readsOne", fn := fun _ => fun
  | [d] => { results := [.lit (.bool true)], args := [d] }
  | _ => none }
def readsOneRow : OpenClaim := { program := "ytfiniikeoemleaa", sum := "caa3f3cf68e244366132983710f7fcdeef530e2ccc2acad73e1388a58f670866", func := "quarrel/quarrellaw12.ReadsOne", spec := "readsOne", unfollowed := true, recurses := true, apart := false }
def ReadsOneSaid : Prop := readsOneRow.holds Try.pinned (OpenSpec.ofChange readsOneSpec)

/-- ITS FALSE NEIGHBOUR: 'it returns false'. Refute it at one input. -/
def readsOneWrong : ChangeSpec := { name := "readsOne", fn := fun _ => fun
  | [d] => { results := [.lit (.bool false)], args := [d] }
  | _ => none }
def ReadsOneWrongFalsely : Prop := readsOneRow.holds Try.pinned (OpenSpec.ofChange readsOneWrong)

/-- 'quarrellaw12.ReadsNone': WHATEVER THE INPUT: true; the input reads as it did. -/
def readsNoneSpec : ChangeSpec := { name := "readsNone", fn := fun _ => fun
  | [d] => { results := [.lit (.bool true)], args := [d] }
  | _ => none }
def readsNoneRow : OpenClaim := { program := "ytfiniikeoemleaa", sum := "caa3f3cf68e244366132983710f7fcdeef530e2ccc2acad73e1388a58f670866", func := "quarrel/quarrellaw12.ReadsNone", spec := "readsNone", unfollowed := true, recurses := true, apart := false }
def ReadsNoneSaid : Prop := readsNoneRow.holds Try.pinned (OpenSpec.ofChange readsNoneSpec)

/-- ITS FALSE NEIGHBOUR: 'it returns false'. Refute it at one input. -/
def readsNoneWrong : ChangeSpec := { name := "readsNone", fn := fun _ => fun
  | [d] => { results := [.lit (.bool false)], args := [d] }
  | _ => none }
def ReadsNoneWrongFalsely : Prop := readsNoneRow.holds Try.pinned (OpenSpec.ofChange readsNoneWrong)

/- THE SECOND FORM. 'bulk': how many values and letters a reading holds, each counted each time it is reached (what is shared counts as often as it is met; a slice's spare places count too). A statement '..UptoSaid' is the law's where the arguments, and the package variables that the reading takes, are together of bulk at most 1048576: NARROWER than '..Said'. Prove '..Said' where nothing that the law and all that it calls make is longer than what came in: it says more and counts as full. Else prove '..UptoSaid'. A law counts once. -/
mutual
def uptoBulk {H : Type} : DataW H → Nat
  | .lit (.string bytes) => bytes.length + 1
  | .lit _ => 1
  | .nil => 1
  | .ptr d => uptoBulk d + 1
  | .slice elems spare => uptoBulkAll elems + uptoBulkAll spare + 1
  | .agg parts => uptoBulkAll parts + 1
  | .iface _ d => uptoBulk d + 1
  | .map entries => uptoBulkEntries entries + 1
  | .held _ => 1
def uptoBulkAll {H : Type} : List (DataW H) → Nat
  | [] => 0
  | d :: r => uptoBulk d + uptoBulkAll r
def uptoBulkEntries {H : Type} : List (Lit × DataW H) → Nat
  | [] => 0
  | x :: r => uptoBulkEntry x + uptoBulkEntries r
def uptoBulkEntry {H : Type} : Lit × DataW H → Nat
  | (.string bytes, d) => bytes.length + uptoBulk d + 1
  | (_, d) => uptoBulk d + 1
 end
def uptoSmall : (H : Type) → List (DataW H) → Bool := fun _ ds => decide (uptoBulkAll ds ≤ 1048576)
def OpenSpec.upto (s : _root_.Go.ChangeSpec) : _root_.Go.OpenSpec := { _root_.Go.OpenSpec.ofChange s with cond := some uptoSmall }

/-- 'quarrellaw12.ReadsUnclaimed', WHERE WHAT IT READS IS OF BULK AT MOST 1048576: true; the input reads as it did. -/
def readsUnclaimedUptoRow : OpenClaim := { program := "ytfiniikeoemleaa", sum := "caa3f3cf68e244366132983710f7fcdeef530e2ccc2acad73e1388a58f670866", func := "quarrel/quarrellaw12.ReadsUnclaimed", spec := "readsUnclaimed", unfollowed := true, recurses := true, apart := false, narrowed := true }
def ReadsUnclaimedUptoSaid : Prop := readsUnclaimedUptoRow.holds Try.pinned (OpenSpec.upto readsUnclaimedSpec)

/-- 'quarrellaw12.ReadsActs', WHERE WHAT IT READS IS OF BULK AT MOST 1048576: true; the input reads as it did. -/
def readsActsUptoRow : OpenClaim := { program := "ytfiniikeoemleaa", sum := "caa3f3cf68e244366132983710f7fcdeef530e2ccc2acad73e1388a58f670866", func := "quarrel/quarrellaw12.ReadsActs", spec := "readsActs", unfollowed := true, recurses := true, apart := false, narrowed := true }
def ReadsActsUptoSaid : Prop := readsActsUptoRow.holds Try.pinned (OpenSpec.upto readsActsSpec)

/-- 'quarrellaw12.ReadsOne', WHERE WHAT IT READS IS OF BULK AT MOST 1048576: true; the input reads as it did. -/
def readsOneUptoRow : OpenClaim := { program := "ytfiniikeoemleaa", sum := "caa3f3cf68e244366132983710f7fcdeef530e2ccc2acad73e1388a58f670866", func := "quarrel/quarrellaw12.ReadsOne", spec := "readsOne", unfollowed := true, recurses := true, apart := false, narrowed := true }
def ReadsOneUptoSaid : Prop := readsOneUptoRow.holds Try.pinned (OpenSpec.upto readsOneSpec)

/-- 'quarrellaw12.ReadsNone', WHERE WHAT IT READS IS OF BULK AT MOST 1048576: true; the input reads as it did. -/
def readsNoneUptoRow : OpenClaim := { program := "ytfiniikeoemleaa", sum := "caa3f3cf68e244366132983710f7fcdeef530e2ccc2acad73e1388a58f670866", func := "quarrel/quarrellaw12.ReadsNone", spec := "readsNone", unfollowed := true, recurses := true, apart := false, narrowed := true }
def ReadsNoneUptoSaid : Prop := readsNoneUptoRow.holds Try.pinned (OpenSpec.upto readsNoneSpec)

end Rows
end Go.Proofs.Ytfiniikeoemleaa
