/- Add, Drop, Put, each told whole; what they keep of a set: each object once. Conditions: the state, and that the rows are short. -/
import Derived.Test.YtfiniikeoemleaaRAlive
namespace Go.Proofs.Ytfiniikeoemleaa.R
open Go Go.RowKit Go.Proofs.YtfiniikeoemleaaW.PrintWords
set_option linter.unusedVariables false

def addR (rs : List S30) (x : S30) : List S30 := if find30 rs x.f0 = -1 then rs ++ [x] else rs
def dropR (rs : List S30) (o : Int) : List S30 := if find30 rs o = -1 then rs else rs.eraseIdx (find30 rs o).toNat
def putR (os : List S33) (y : S33) : List S33 := if find33 os y.f0 = -1 then os ++ [y] else os.set (find33 os y.f0).toNat y
def agg30 (x : S30) : Value := .agg #[.int .i64 x.f0, .int .i64 x.f1, .int .i64 x.f2]
def agg33 (x : S33) : Value := .agg #[.int .i64 x.f0, .int .i64 x.f1, .int .i64 x.f2, .int .i64 x.f3, .bool x.f4]
theorem add_all (base g : Nat) (rs : List S30) (os : List S33) (x : S30) (w : World) (h : IsR base w g rs os) (hbase : base ≤ w.heap.size) (hl : rs.length ≤ 1000) :
    Calls Try.prog 9 #[.pointer (some ⟨g, 0, none⟩), agg30 x] w fun e w' => e = .returned (.int .i64 (if find30 rs x.f0 = -1 then 0 else 7)) ∧ IsR base w' g (addR rs x) os ∧ Below base w w' := by
  unfold addR
  rcases find30_cases rs x.f0 with ⟨hf, _⟩ | ⟨k, hk, hf, _, _⟩
  · rw [if_pos hf, if_pos hf]
    exact (add_miss base g rs os x w h hbase hl hf).mono fun e w' ⟨a, b, _, d⟩ => ⟨a, b, d⟩
  · have hn : ¬ find30 rs x.f0 = -1 := by omega
    rw [if_neg hn, if_neg hn]
    exact (add_hit base g k rs os x w h hbase hk hf).mono fun e w' ⟨a, b⟩ => ⟨a, h.below b, b.mono hbase⟩
theorem drop_all (base g : Nat) (rs : List S30) (os : List S33) (o : Int) (w : World) (h : IsR base w g rs os) (hbase : base ≤ w.heap.size) (hl : rs.length ≤ 1000) :
    Calls Try.prog 11 #[.pointer (some ⟨g, 0, none⟩), .int .i64 o] w fun e w' => e = .returned (.bool (if find30 rs o = -1 then false else true)) ∧ IsR base w' g (dropR rs o) os ∧ Below base w w' := by
  unfold dropR
  rcases find30_cases rs o with ⟨hf, _⟩ | ⟨k, hk, hf, _, _⟩
  · rw [if_pos hf, if_pos hf]
    exact (drop_miss base g rs os o w h hf).mono fun e w' ⟨a, b⟩ => ⟨a, h.below b, b.mono hbase⟩
  · have hn : ¬ find30 rs o = -1 := by omega
    rw [if_neg hn, if_neg hn, hf, Int.toNat_natCast]
    exact (drop_hit base g k rs os o w h hbase hk hl hf).mono fun e w' ⟨a, b, _, d⟩ => ⟨a, b, d⟩
theorem put_all (base g : Nat) (rs : List S30) (os : List S33) (y : S33) (w : World) (h : IsR base w g rs os) (hbase : base ≤ w.heap.size) (hl : os.length ≤ 1000) :
    Calls Try.prog 10 #[.pointer (some ⟨g, 0, none⟩), agg33 y] w fun e w' => e = .returned (.tuple #[]) ∧ IsR base w' g rs (putR os y) ∧ Below base w w' := by
  unfold putR
  rcases find33_cases os y.f0 with ⟨hf, _⟩ | ⟨k, hk, hf, _, _⟩
  · rw [if_pos hf]
    exact (put_miss base g rs os y w h hbase hl hf).mono fun e w' ⟨a, b, _, d⟩ => ⟨a, b, d⟩
  · have hn : ¬ find33 os y.f0 = -1 := by omega
    rw [if_neg hn, hf, Int.toNat_natCast]
    exact (put_hit base g k rs os y w h hbase hk hf).mono fun e w' ⟨a, b, _, d⟩ => ⟨a, b, d⟩
/-- Each object once. -/
def Once30 (rs : List S30) : Prop := (rs.map (·.f0)).Nodup
def Once33 (os : List S33) : Prop := (os.map (·.f0)).Nodup
theorem addR_once {rs : List S30} {x : S30} (h : Once30 rs) : Once30 (addR rs x) := by
  unfold addR
  rcases find30_cases rs x.f0 with ⟨hf, ha⟩ | ⟨k, hk, hf, _, _⟩
  · rw [if_pos hf]
    unfold Once30 at h ⊢
    rw [List.map_append, List.nodup_append]
    refine ⟨h, by simp, fun a hma b hmb => ?_⟩
    simp at hmb
    subst hmb
    rw [List.mem_map] at hma
    obtain ⟨q, hq, rfl⟩ := hma
    exact ha q hq
  · rw [if_neg (by omega)]; exact h
theorem dropR_once {rs : List S30} {o : Int} (h : Once30 rs) : Once30 (dropR rs o) := by
  unfold dropR
  split
  · exact h
  · exact h.sublist ((List.eraseIdx_sublist _ _).map _)
theorem putR_once {os : List S33} {y : S33} (h : Once33 os) : Once33 (putR os y) := by
  unfold putR
  rcases find33_cases os y.f0 with ⟨hf, ha⟩ | ⟨k, hk, hf, hx, _⟩
  · rw [if_pos hf]
    unfold Once33 at h ⊢
    rw [List.map_append, List.nodup_append]
    refine ⟨h, by simp, fun a hma b hmb => ?_⟩
    simp at hmb
    subst hmb
    rw [List.mem_map] at hma
    obtain ⟨q, hq, rfl⟩ := hma
    exact ha q hq
  · rw [if_neg (by omega), hf, Int.toNat_natCast]
    unfold Once33 at h ⊢
    have : (os.set k y).map (·.f0) = os.map (·.f0) := by
      rw [List.map_set, ← hx]
      apply List.ext_getElem (by simp)
      intro i h1 h2
      rw [List.getElem_set]
      split
      · rename_i e; subst e; simp
      · rfl
    rw [this]; exact h
theorem addR_len (rs : List S30) (x : S30) : (addR rs x).length ≤ rs.length + 1 := by unfold addR; split <;> simp
theorem dropR_len (rs : List S30) (o : Int) : (dropR rs o).length ≤ rs.length := by
  unfold dropR
  split
  · exact Nat.le_refl _
  · rw [List.length_eraseIdx]; split <;> omega
theorem putR_len (os : List S33) (y : S33) : (putR os y).length ≤ os.length + 1 := by unfold putR; split <;> simp
theorem once30_ne {rs : List S30} (h : Once30 rs) (n k : Nat) (hn : n < k) (hk : k < rs.length) : (rs[n]'(by omega)).f0 ≠ (rs[k]).f0 := by
  have := (List.pairwise_iff_getElem.1 h) n k (by simp; omega) (by simpa using hk) hn
  simpa using this
theorem once33_ne {os : List S33} (h : Once33 os) (n k : Nat) (hn : n < k) (hk : k < os.length) : (os[n]'(by omega)).f0 ≠ (os[k]).f0 := by
  have := (List.pairwise_iff_getElem.1 h) n k (by simp; omega) (by simpa using hk) hn
  simpa using this
theorem has30_self {rs : List S30} (h : Once30 rs) (k : Nat) (hk : k < rs.length) : has30 rs (rs[k]).f0 = (rs[k], true) := by
  rcases find30_cases rs (rs[k]).f0 with ⟨hf, ha⟩ | ⟨j, hj, hf, hx, _⟩
  · exact absurd rfl (ha _ (List.getElem_mem hk))
  · have : j = k := by
      rcases Nat.lt_trichotomy j k with hl | hl | hl
      · exact absurd hx (once30_ne h j k hl hk)
      · exact hl
      · exact absurd hx.symm (once30_ne h k j hl hj)
    subst this
    simp [has30, hf, rd_T30, hj]
theorem has33_self {os : List S33} (h : Once33 os) (k : Nat) (hk : k < os.length) : has33 os (os[k]).f0 = (os[k], true) := by
  rcases find33_cases os (os[k]).f0 with ⟨hf, ha⟩ | ⟨j, hj, hf, hx, _⟩
  · exact absurd rfl (ha _ (List.getElem_mem hk))
  · have : j = k := by
      rcases Nat.lt_trichotomy j k with hl | hl | hl
      · exact absurd hx (once33_ne h j k hl hk)
      · exact hl
      · exact absurd hx.symm (once33_ne h k j hl hj)
    subst this
    simp [has33, hf, rd_T33, hj]
end Go.Proofs.Ytfiniikeoemleaa.R
