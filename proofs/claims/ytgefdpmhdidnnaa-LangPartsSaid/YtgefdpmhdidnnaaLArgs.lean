/- What the arguments of this seat's laws read as: structs and slices of structs; no condition. Written by a program of this session. -/
import Derived.Test.YtgefdpmhdidnnaaLx0
import Derived.Test.YtgefdpmhdidnnaaOpens
import Derived.KernelRfl
namespace Go.Proofs.Ytgefdpmhdidnnaa.L
open Go.RowKit Go.Proofs.YtgefdpmhdidnnaaW.PrintWords Go.Proofs.Ytgefdpmhdidnnaa.Opens

def WF33 (x : S33) : Prop := (Lit.int .i64 x.f0).wf = true ∧ (Lit.int .i64 x.f1).wf = true ∧ (Lit.int .i64 x.f2).wf = true
theorem open33 : Opens Try.prog 33 k33 WF33 := (Opens.iso (Opens.struct (tot := 3) Try.underlying33 (by kernel_rfl) (OpensAt.cons (off' := 1) _ rfl rfl (by kernel_rfl) (Opens.int (k := .i64) Try.underlying3) (OpensAt.cons (off' := 2) _ rfl rfl (by kernel_rfl) (Opens.int (k := .i64) Try.underlying3) (OpensAt.last _ rfl rfl (by kernel_rfl) (Opens.int (k := .i64) Try.underlying2))))) (fun x : S33 => (x.f0, x.f1, x.f2)) (fun p => ⟨p.1, p.2.1, p.2.2⟩) (fun _ => rfl)).imp (fun _ h => h)
end Go.Proofs.Ytgefdpmhdidnnaa.L
