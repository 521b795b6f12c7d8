/- The pure statement of the law ReadsUnclaimed: bytes are bytes, and for bytes the walk shows that the answer is true. -/
import Derived.Test.YtfiniikeoemleaaRSaidReadsUnclaimed
namespace Go.Proofs.Ytfiniikeoemleaa.Pure
open Go Go.RowKit Go.Proofs.Ytfiniikeoemleaa.R Go.Proofs.YtfiniikeoemleaaW.PrintWords

theorem wf_byte {x : Int} (h : (Lit.int .u8 x).wf = true) : 0 ≤ x ∧ x < 256 := by
  have := h
  simp [Lit.wf, IntKind.min, IntKind.max, IntKind.signed, IntKind.bits] at this
  omega
theorem ReadsUnclaimed : quarrellaw12_ReadsUnclaimed.Pure := by
  unfold quarrellaw12_ReadsUnclaimed.Pure
  intro l0 l1 a2 h0 w0 h1 w1 w2
  have b0 : bytesOk l0 = true := by unfold bytesOk; rw [List.all_eq_true]; exact fun x hx => decide_eq_true (wf_byte (w0 x hx))
  have b1 : bytesOk l1 = true := by unfold bytesOk; rw [List.all_eq_true]; exact fun x hx => decide_eq_true (wf_byte (w1 x hx))
  have b2 : bytesOk [a2] = true := by unfold bytesOk; rw [List.all_eq_true]; exact fun x hx => by simp at hx; subst hx; exact decide_eq_true (wf_byte w2)
  unfold quarrellaw12_ReadsUnclaimed.f
  rw [if_pos (by simp [b0, b1, b2])]

end Go.Proofs.Ytfiniikeoemleaa.Pure
