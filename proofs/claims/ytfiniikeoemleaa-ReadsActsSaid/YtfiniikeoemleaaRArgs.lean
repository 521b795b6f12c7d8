/- What the arguments of this seat's laws read as: structs and slices of structs; no condition. Written by a program of this session. -/
import Derived.Test.YtfiniikeoemleaaRx0
import Derived.Test.YtfiniikeoemleaaOpens
import Derived.KernelRfl
namespace Go.Proofs.Ytfiniikeoemleaa.R
open Go.RowKit Go.Proofs.YtfiniikeoemleaaW.PrintWords Go.Proofs.Ytfiniikeoemleaa.Opens

def WF44 (x : S44) : Prop := (Lit.int .i64 x.f0).wf = true ∧ (Lit.int .i64 x.f1).wf = true ∧ (Lit.int .i64 x.f2).wf = true
theorem open44 : Opens Try.prog 44 k44 WF44 := (Opens.iso (Opens.struct (tot := 3) Try.underlying44 (by kernel_rfl) (OpensAt.cons (off' := 1) _ rfl rfl (by kernel_rfl) (Opens.int (k := .i64) Try.underlying3) (OpensAt.cons (off' := 2) _ rfl rfl (by kernel_rfl) (Opens.int (k := .i64) Try.underlying3) (OpensAt.last _ rfl rfl (by kernel_rfl) (Opens.int (k := .i64) Try.underlying2))))) (fun x : S44 => (x.f0, x.f1, x.f2)) (fun p => ⟨p.1, p.2.1, p.2.2⟩) (fun _ => rfl)).imp (fun _ h => h)
def WF45 (x : S45) : Prop := (Lit.int .i64 x.f0).wf = true ∧ (Lit.int .i64 x.f1).wf = true ∧ (Lit.int .i64 x.f2).wf = true ∧ (Lit.int .i64 x.f3).wf = true ∧ True
theorem open45 : Opens Try.prog 45 k45 WF45 := (Opens.iso (Opens.struct (tot := 5) Try.underlying45 (by kernel_rfl) (OpensAt.cons (off' := 1) _ rfl rfl (by kernel_rfl) (Opens.int (k := .i64) Try.underlying3) (OpensAt.cons (off' := 2) _ rfl rfl (by kernel_rfl) (Opens.int (k := .i64) Try.underlying3) (OpensAt.cons (off' := 3) _ rfl rfl (by kernel_rfl) (Opens.int (k := .i64) Try.underlying3) (OpensAt.cons (off' := 4) _ rfl rfl (by kernel_rfl) (Opens.int (k := .i64) Try.underlying2) (OpensAt.last _ rfl rfl (by kernel_rfl) (Opens.bool Try.underlying4))))))) (fun x : S45 => (x.f0, x.f1, x.f2, x.f3, x.f4)) (fun p => ⟨p.1, p.2.1, p.2.2.1, p.2.2.2.1, p.2.2.2.2⟩) (fun _ => rfl)).imp (fun _ h => h)
def WF47 (x : S47) : Prop := (Lit.int .i64 x.f0).wf = true ∧ WF44 x.f1 ∧ WF45 x.f2
theorem open47 : Opens Try.prog 47 k47 WF47 := (Opens.iso (Opens.struct (tot := 9) Try.underlying47 (by kernel_rfl) (OpensAt.cons (off' := 1) _ rfl rfl (by kernel_rfl) (Opens.int (k := .i64) Try.underlying3) (OpensAt.cons (off' := 4) _ rfl rfl (by kernel_rfl) open44 (OpensAt.last _ rfl rfl (by kernel_rfl) open45)))) (fun x : S47 => (x.f0, x.f1, x.f2)) (fun p => ⟨p.1, p.2.1, p.2.2⟩) (fun _ => rfl)).imp (fun _ h => h)
end Go.Proofs.Ytfiniikeoemleaa.R
