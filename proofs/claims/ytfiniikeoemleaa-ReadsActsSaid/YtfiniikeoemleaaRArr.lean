/- Arrays of 256 Bools; the set's steps with what they leave as it was; the plain law of ReadsUnclaimed. No condition but the state. -/
import Derived.Test.YtfiniikeoemleaaRStep
namespace Go.Proofs.Ytfiniikeoemleaa.R
open Go Go.RowKit Go.Proofs.YtfiniikeoemleaaW.PrintWords Go.Proofs.YtfiniikeoemleaaW.PrintLast Go.Proofs.YtfiniikeoemleaaW.PrintMore
set_option linter.unusedVariables false
set_option linter.unusedSimpArgs false

/-! ### The steps, with their frames -/
theorem add_allF (base g : Nat) (rs : List S30) (os : List S33) (x : S30) (w : World) (h : IsR base w g rs os) (hbase : base ≤ w.heap.size) (hl : rs.length ≤ 1000) :
    Calls Try.prog 9 #[.pointer (some ⟨g, 0, none⟩), agg30 x] w fun e w' => e = .returned (.int .i64 (if find30 rs x.f0 = -1 then 0 else 7)) ∧ IsR base w' g (addR rs x) os ∧ Fr [64, 30, 33] w w' ∧ Below base w w' := by
  unfold addR
  rcases find30_cases rs x.f0 with ⟨hf, _⟩ | ⟨k, hk, hf, _, _⟩
  · rw [if_pos hf, if_pos hf]
    exact (add_miss base g rs os x w h hbase hl hf).mono fun e w' ⟨a, b, c, d⟩ => ⟨a, b, c.mono (by simp), d⟩
  · have hn : ¬ find30 rs x.f0 = -1 := by omega
    rw [if_neg hn, if_neg hn]
    exact (add_hit base g k rs os x w h hbase hk hf).mono fun e w' ⟨a, b⟩ => ⟨a, h.below b, Fr.of_below b, b.mono hbase⟩
theorem drop_allF (base g : Nat) (rs : List S30) (os : List S33) (o : Int) (w : World) (h : IsR base w g rs os) (hbase : base ≤ w.heap.size) (hl : rs.length ≤ 1000) :
    Calls Try.prog 11 #[.pointer (some ⟨g, 0, none⟩), .int .i64 o] w fun e w' => e = .returned (.bool (if find30 rs o = -1 then false else true)) ∧ IsR base w' g (dropR rs o) os ∧ Fr [64, 30, 33] w w' ∧ Below base w w' := by
  unfold dropR
  rcases find30_cases rs o with ⟨hf, _⟩ | ⟨k, hk, hf, _, _⟩
  · rw [if_pos hf, if_pos hf]
    exact (drop_miss base g rs os o w h hf).mono fun e w' ⟨a, b⟩ => ⟨a, h.below b, Fr.of_below b, b.mono hbase⟩
  · have hn : ¬ find30 rs o = -1 := by omega
    rw [if_neg hn, if_neg hn, hf, Int.toNat_natCast]
    exact (drop_hit base g k rs os o w h hbase hk hl hf).mono fun e w' ⟨a, b, c, d⟩ => ⟨a, b, c.mono (by simp), d⟩
theorem put_allF (base g : Nat) (rs : List S30) (os : List S33) (y : S33) (w : World) (h : IsR base w g rs os) (hbase : base ≤ w.heap.size) (hl : os.length ≤ 1000) :
    Calls Try.prog 10 #[.pointer (some ⟨g, 0, none⟩), agg33 y] w fun e w' => e = .returned (.tuple #[]) ∧ IsR base w' g rs (putR os y) ∧ Fr [64, 30, 33] w w' ∧ Below base w w' := by
  unfold putR
  rcases find33_cases os y.f0 with ⟨hf, _⟩ | ⟨k, hk, hf, _, _⟩
  · rw [if_pos hf]
    exact (put_miss base g rs os y w h hbase hl hf).mono fun e w' ⟨a, b, c, d⟩ => ⟨a, b, c.mono (by simp), d⟩
  · have hn : ¬ find33 os y.f0 = -1 := by omega
    rw [if_neg hn, hf, Int.toNat_natCast]
    exact (put_hit base g k rs os y w h hbase hk hf).mono fun e w' ⟨a, b, c, d⟩ => ⟨a, b, c.mono (by simp), d⟩

/-! ### Arrays -/
def arrB (f : Int → Bool) : Array Value := Array.ofFn (n := 256) fun i => .bool (f (i.val : Int))
def updB (f : Int → Bool) (x : Int) (b : Bool) : Int → Bool := fun y => if y = x then b else f y
theorem arrB_get (f : Int → Bool) (x : Int) (h0 : 0 ≤ x) (h1 : x < 256) : (arrB f)[x.toNat]? = some (.bool (f x)) := by
  unfold arrB
  rw [Array.getElem?_ofFn, dif_pos (by omega)]
  simp [Int.toNat_of_nonneg h0]
theorem arrB_set (f : Int → Bool) (x : Int) (b : Bool) (h0 : 0 ≤ x) (h1 : x < 256) : (arrB f).setIfInBounds x.toNat (.bool b) = arrB (updB f x b) := by
  apply Array.ext_getElem?
  intro k
  unfold arrB
  rw [Array.getElem?_setIfInBounds, Array.getElem?_ofFn, Array.getElem?_ofFn]
  by_cases hk : k < 256
  · rw [dif_pos hk, dif_pos hk]
    by_cases e : x.toNat = k
    · have ek : (k : Int) = x := by omega
      rw [if_pos e, if_pos (by simpa using by omega)]
      simp [updB, ek]
    · have ek : ¬ (k : Int) = x := by omega
      rw [if_neg e]
      simp [updB, ek]
  · rw [dif_neg hk, dif_neg hk, if_neg (by omega)]
theorem arr_cell {w : World} {g : Nat} {f : Int → Bool} (h : w.heap[g]? = some (.cells (arrB f) 26 (0, 0))) (x : Int) (h0 : 0 ≤ x) (h1 : x < 256) : w.cell? ⟨g, x.toNat, none⟩ = some (.bool (f x)) := (blk_cell h _).trans (arrB_get f x h0 h1)
theorem arr_set {w : World} {g : Nat} {f : Int → Bool} (h : w.heap[g]? = some (.cells (arrB f) 26 (0, 0))) (x : Int) (b : Bool) (h0 : 0 ≤ x) (h1 : x < 256) : (w.setCell ⟨g, x.toNat, none⟩ (.bool b)).heap[g]? = some (.cells (arrB (updB f x b)) 26 (0, 0)) :=
  arrB_set f x b h0 h1 ▸ blk_set h x.toNat (.bool b)

theorem rd_byte {l : List Int} (h : ∀ x ∈ l, 0 ≤ x ∧ x < 256) (i : Nat) (hi : i < l.length) : 0 ≤ rd l (i : Int) ∧ rd l (i : Int) < 256 := by
  have e : rd l (i : Int) = l[i] := by simp [rd, hi]
  rw [e]
  exact h _ (List.getElem_mem _)

/-! ### The plain law -/
/-- Behind i adds. -/
structure InvA (i : Nat) (rs : List S30) (h : Int → Bool) : Prop where
  len : rs.length ≤ i
  once : Once30 rs
  rng : ∀ x ∈ rs, 0 ≤ x.f0 ∧ x.f0 < 256
  has : ∀ o, h o = true ↔ ∃ x ∈ rs, x.f0 = o
  ver : rs.Pairwise (fun a b => a.f1 < b.f1)
  top : ∀ x ∈ rs, x.f1 < i
theorem InvA.start : InvA 0 [] (fun _ => false) := ⟨by simp, by simp [Once30], by simp, by simp, by simp, by simp⟩
theorem InvA.find {i : Nat} {rs : List S30} {h : Int → Bool} (I : InvA i rs h) (o : Int) : h o = !(find30 rs o == -1) := by
  rcases find30_cases rs o with ⟨hf, ha⟩ | ⟨k, hk, hf, he, _⟩
  · have hn : ¬ h o = true := fun e => by obtain ⟨x, hx, e⟩ := (I.has o).1 e; exact ha x hx e
    simp [hf, hn]
  · have hy : h o = true := (I.has o).2 ⟨rs[k], List.getElem_mem _, he⟩
    have : ¬ find30 rs o = -1 := by omega
    simp [this, hy]
theorem InvA.step {i : Nat} {rs : List S30} {h : Int → Bool} (I : InvA i rs h) (o : Int) (h0 : 0 ≤ o) (h1 : o < 256) : InvA (i + 1) (addR rs ⟨o, i, 0⟩) (updB h o true) := by
  have hf := I.find o
  unfold addR
  by_cases hm : find30 rs o = -1
  · rw [if_pos hm]
    refine ⟨by simp; have := I.len; omega, ?_, ?_, ?_, ?_, ?_⟩
    · have := addR_once (x := ⟨o, i, 0⟩) I.once
      unfold addR at this
      rw [if_pos hm] at this
      exact this
    · intro x hx
      rw [List.mem_append] at hx
      rcases hx with hx | hx
      · exact I.rng x hx
      · simp at hx; subst hx; exact ⟨h0, h1⟩
    · intro p
      unfold updB
      by_cases e : p = o
      · subst e; simp
      · rw [if_neg e, I.has p]
        constructor
        · rintro ⟨x, hx, rfl⟩; exact ⟨x, by simp [hx], rfl⟩
        · rintro ⟨x, hx, rfl⟩
          rw [List.mem_append] at hx
          rcases hx with hx | hx
          · exact ⟨x, hx, rfl⟩
          · simp at hx; subst hx; exact absurd rfl e
    · rw [List.pairwise_append]
      refine ⟨I.ver, by simp, fun a ha b hb => ?_⟩
      simp at hb
      subst hb
      exact I.top a ha
    · intro x hx
      rw [List.mem_append] at hx
      rcases hx with hx | hx
      · have := I.top x hx; omega
      · simp at hx; subst hx; show (i : Int) < ((i + 1 : Nat) : Int); omega
  · rw [if_neg hm]
    have ho : h o = true := by rw [hf]; simp [hm]
    refine ⟨by have := I.len; omega, I.once, I.rng, ?_, I.ver, fun x hx => by have := I.top x hx; omega⟩
    intro p
    unfold updB
    by_cases e : p = o
    · subst e; rw [if_pos rfl]; exact ⟨fun _ => (I.has p).1 ho, fun _ => rfl⟩
    · rw [if_neg e]; exact I.has p
/-- Behind j puts. -/
structure InvP (j : Nat) (os : List S33) (m : Int → Bool) : Prop where
  len : os.length ≤ j
  mine : ∀ o, m o = true ↔ ∃ y ∈ os, y.f0 = o
theorem InvP.start : InvP 0 [] (fun _ => false) := ⟨by simp, by simp⟩
theorem InvP.has {j : Nat} {os : List S33} {m : Int → Bool} (I : InvP j os m) (o : Int) : (has33 os o).2 = m o := by
  unfold has33
  rcases find33_cases os o with ⟨hf, ha⟩ | ⟨k, hk, hf, he, _⟩
  · rw [if_pos hf]
    have hn : ¬ m o = true := fun e => by obtain ⟨x, hx, e⟩ := (I.mine o).1 e; exact ha x hx e
    simp [hn]
  · rw [if_neg (by omega)]
    exact ((I.mine o).2 ⟨os[k], List.getElem_mem _, he⟩).symm
theorem InvP.step {j : Nat} {os : List S33} {m : Int → Bool} (I : InvP j os m) (o a b c : Int) (d : Bool) : InvP (j + 1) (putR os ⟨o, a, b, c, d⟩) (updB m o true) := by
  refine ⟨by have := putR_len os ⟨o, a, b, c, d⟩; have := I.len; omega, fun p => ?_⟩
  unfold putR
  rcases find33_cases os o with ⟨hf, ha⟩ | ⟨k, hk, hf, he, _⟩
  · rw [if_pos hf]
    unfold updB
    by_cases e : p = o
    · subst e; simp
    · rw [if_neg e, I.mine p]
      constructor
      · rintro ⟨x, hx, rfl⟩; exact ⟨x, by simp [hx], rfl⟩
      · rintro ⟨x, hx, rfl⟩
        rw [List.mem_append] at hx
        rcases hx with hx | hx
        · exact ⟨x, hx, rfl⟩
        · simp at hx; subst hx; exact absurd rfl e
  · have hn : ¬ find33 os o = -1 := by omega
    rw [if_neg hn, hf, Int.toNat_natCast]
    unfold updB
    by_cases e : p = o
    · subst e
      simp only [if_true, true_iff]
      exact ⟨_, List.mem_set hk _, rfl⟩
    · rw [if_neg e, I.mine p]
      constructor
      · rintro ⟨x, hx, rfl⟩
        obtain ⟨q, hq, rfl⟩ := List.getElem_of_mem hx
        have hqk : k ≠ q := fun h => by subst h; exact e he
        exact ⟨os[q], by
          have : (os.set k ⟨o, a, b, c, d⟩)[q]'(by simpa using hq) = os[q] := by simp [List.getElem_set, hqk]
          rw [← this]; exact List.getElem_mem _, rfl⟩
      · rintro ⟨x, hx, rfl⟩
        rcases List.mem_or_eq_of_mem_set hx with hx | rfl
        · exact ⟨x, hx, rfl⟩
        · exact absurd rfl e
/-- Behind the release. -/
structure InvD (rs : List S30) (h : Int → Bool) : Prop where
  rng : ∀ x ∈ rs, 0 ≤ x.f0 ∧ x.f0 < 256
  has : ∀ x ∈ rs, h x.f0 = true
  ver : rs.Pairwise (fun a b => a.f1 < b.f1)
theorem InvA.miss {i : Nat} {rs : List S30} {h : Int → Bool} (I : InvA i rs h) (o : Int) (ho : h o = false) : find30 rs o = -1 ∧ dropR rs o = rs ∧ InvD rs h := by
  have hf := I.find o
  have : find30 rs o = -1 := by rw [ho] at hf; simpa using hf.symm
  refine ⟨this, by unfold dropR; rw [if_pos this], I.rng, fun x hx => (I.has _).2 ⟨x, hx, rfl⟩, I.ver⟩
theorem InvA.hit {i : Nat} {rs : List S30} {h : Int → Bool} (I : InvA i rs h) (o : Int) (ho : h o = true) : ¬ find30 rs o = -1 ∧ (dropR rs o).length + 1 = rs.length ∧ InvD (dropR rs o) (updB h o false) := by
  rcases find30_cases rs o with ⟨hf, ha⟩ | ⟨k, hk, hf, he, _⟩
  · obtain ⟨x, hx, e⟩ := (I.has o).1 ho
    exact absurd e (ha x hx)
  · have hn : ¬ find30 rs o = -1 := by omega
    unfold dropR
    rw [if_neg hn, hf, Int.toNat_natCast]
    refine ⟨by omega, by rw [List.length_eraseIdx_of_lt hk]; omega, ?_, ?_, I.ver.sublist (List.eraseIdx_sublist _ _)⟩
    · exact fun x hx => I.rng x ((List.eraseIdx_sublist _ _).subset hx)
    · intro x hx
      have hx' := (List.eraseIdx_sublist rs k).subset hx
      unfold updB
      have hne : x.f0 ≠ o := by
        intro e
        obtain ⟨q, hq, hqk, rfl⟩ : ∃ q, ∃ hq : q < rs.length, q ≠ k ∧ rs[q] = x := by
          rw [List.mem_eraseIdx_iff_getElem] at hx
          obtain ⟨q, hq, hqk, e⟩ := hx
          exact ⟨q, hq, hqk, e⟩
        have hnd := I.once
        unfold Once30 at hnd
        have h1 : (rs.map (·.f0))[q]'(by simpa using hq) = (rs.map (·.f0))[k]'(by simpa using hk) := by simp [e, he]
        exact hqk ((List.getElem_inj hnd).1 h1)
      rw [if_neg hne]
      exact (I.has _).2 ⟨x, hx', rfl⟩
/-- The unclaimed ones, one by one. -/
theorem filt_one (p : S30 → Bool) {l : List S30} {i : Nat} (hi : i < l.length) : (l.take (i + 1)).filter p = (l.take i).filter p ++ [l[i]].filter p := by
  rw [List.take_succ_eq_append_getElem hi, List.filter_append]
theorem filt_yes {p : S30 → Bool} {l : List S30} {i : Nat} (hi : i < l.length) (hp : p l[i] = true) : ((l.take (i + 1)).filter p).length = ((l.take i).filter p).length + 1 ∧ ∃ hk : ((l.take i).filter p).length < (l.filter p).length, (l.filter p)[((l.take i).filter p).length] = l[i] := by
  have e1 := filt_one p hi
  have e3 : [l[i]].filter p = [l[i]] := by simp [hp]
  have e2 : l.filter p = (l.take i).filter p ++ ([l[i]] ++ (l.drop (i + 1)).filter p) := by
    rw [← List.append_assoc, ← e3, ← e1, ← List.filter_append, List.take_append_drop]
  refine ⟨by rw [e1, e3, List.length_append]; rfl, by rw [e2]; simp, ?_⟩
  simp only [e2]
  rw [List.getElem_append_right (Nat.le_refl _)]
  simp
theorem filt_no {p : S30 → Bool} {l : List S30} {i : Nat} (hi : i < l.length) (hp : p l[i] = false) : ((l.take (i + 1)).filter p).length = ((l.take i).filter p).length := by
  rw [filt_one p hi, List.length_append]
  simp [hp]
theorem InvD.less {rs : List S30} {h : Int → Bool} (I : InvD rs h) {i : Nat} (h0 : 0 < i) (hi : i < rs.length) : (rs[i - 1]'(by omega)).f1 < (rs[i]).f1 := List.pairwise_iff_getElem.1 I.ver (i - 1) i (by omega) hi (by omega)
end Go.Proofs.Ytfiniikeoemleaa.R
