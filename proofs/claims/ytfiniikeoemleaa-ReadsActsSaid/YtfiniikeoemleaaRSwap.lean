/- A region that draws its order: what holds of its worlds may be told anew on the way. No condition. -/
import Derived.Test.YtfiniikeoemleaaWLast
import Derived.Test.YtfiniikeoemleaaWMore
namespace Go.Proofs.Ytfiniikeoemleaa.R
open Go Go.Proofs.YtfiniikeoemleaaW.PrintLast

theorem swap_S {P : Program} {md : Region.Mode} {ops : Array Oper} {Q : Exit → Act → World → Prop} {S S' : World → Prop} (hss : ∀ w, S' w → S w) :
    ∀ (fuel : Nat) (l : Array Bool) (a : Act) (w : World), S' w → wpAnyLast P md ops Q S' [] fuel l a w → wpAnyLast P md ops Q S [] fuel l a w
  | 0, _, _, _, _, h => h
  | fuel + 1, _, _, _, hw, h => ⟨h.1, fun i hi => wpOp_mono (fun a' w' h' => ⟨fun hd _ => hss _ (h'.1 hd hw), swap_S hss fuel _ a' w' (h'.1 (by simp) hw) h'.2⟩) (h.2 i hi)⟩
/-- An operation that stands under a guard. -/
theorem guarded_ {P : Program} {ops : Array Oper} {o : Oper} {rest : List Oper} {a : Act} {W : World} {Q : Exit → Act → World → Prop}
    (h : if Region.wanted o (yielded ops a.tmps) = true then Oper.wp P o a W (wpList P ops Q rest) Q else wpList P ops Q rest (a.put o.dst undef) W) : wpList P ops Q (o :: rest) a W := by
  unfold wpList
  split at h
  next hw => rw [if_pos hw]; exact Or.inl h
  next hw => rw [if_neg hw]; exact h
end Go.Proofs.Ytfiniikeoemleaa.R
