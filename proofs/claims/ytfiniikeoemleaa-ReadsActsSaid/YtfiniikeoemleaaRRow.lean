/- Rows of structs as flat cells, and stores into them. Conditions: the row. Printed by wip/dev/gen12e.py. -/
import Derived.Test.YtfiniikeoemleaaRSet
import Derived.Laws.OwnMore
namespace Go.Proofs.Ytfiniikeoemleaa.R
open Go Go.RowKit Go.Proofs.YtfiniikeoemleaaW.PrintWords Go.Proofs.YtfiniikeoemleaaW.PrintLast Go.Proofs.YtfiniikeoemleaaW.PrintMore
set_option linter.unusedVariables false
set_option linter.unusedSimpArgs false

theorem grown_trans {a b c : World} {row : Option Nat} (h : a.grownBy b row) (k : b.grownBy c row) : a.grownBy c row :=
  ⟨k.os.trans h.os, k.tape.trans h.tape, k.output.trans h.output, Nat.le_trans h.size k.size, fun i hi hn => (k.block i (Nat.lt_of_lt_of_le hi h.size) hn).trans (h.block i hi hn)⟩
theorem flat_of_reps {α : Type} {enc : α → List Value} {m : Nat} {xs : List α} {cs : List Value} (hm : ∀ x, (enc x).length = m) (h : Reps (fun x c => c = enc x) m xs cs) : cs = xs.flatMap enc := by
  induction xs generalizing cs with
  | nil => have := h.1; simp at this; simp [this]
  | cons x xs ih =>
    have h0 := h.2 0 x rfl
    simp only [Nat.zero_mul, List.drop_zero] at h0
    have hl := h.1
    have h1 : Reps (fun x c => c = enc x) m xs (cs.drop m) := ⟨by rw [List.length_drop, hl, List.length_cons, Nat.succ_mul]; omega, fun j p hj => by
      have := h.2 (j + 1) p (by simpa using hj)
      rw [List.drop_drop, Nat.add_comm m (j * m), ← Nat.succ_mul]; exact this⟩
    rw [List.flatMap_cons, ← ih h1, ← h0, List.take_append_drop]
theorem reps_of_flat {α : Type} {R : α → List Value → Prop} {enc : α → List Value} {m : Nat} {xs : List α} (hm : ∀ x, (enc x).length = m) (hR : ∀ x, R x (enc x)) : Reps R m xs (xs.flatMap enc) := by
  induction xs with
  | nil => exact Reps.none _ _
  | cons x xs ih =>
    refine ⟨by rw [List.flatMap_cons, List.length_append, ih.1, hm, List.length_cons, Nat.succ_mul]; omega, fun j p hj => ?_⟩
    rw [List.flatMap_cons]
    cases j with
    | zero =>
      simp at hj
      subst hj
      have := hm x
      simp only [Nat.zero_mul, List.drop_zero]
      rw [List.take_append_of_le_length (by omega), List.take_of_length_le (by omega)]
      exact hR x
    | succ j =>
      have := ih.2 j p (by simpa using hj)
      rw [List.drop_append, hm, List.drop_eq_nil_of_le (by rw [hm, Nat.succ_mul]; omega), List.nil_append, show (j + 1) * m - m = j * m by rw [Nat.succ_mul]; omega]
      exact this

/-! ### type 30 -/
def e30 (x : S30) : List Value := [.int .i64 x.f0, .int .i64 x.f1, .int .i64 x.f2]
theorem raw30 {w : World} {base : Nat} {ok : Nat → Prop} {v : Value} {xs : List S30} (h : Kd.R k30 30 w base ok v xs) : w.ownsRow base 30 3 v xs.length (xs.flatMap e30) := by
  obtain ⟨_, inner, ho, hr⟩ := h
  have : inner = xs.flatMap e30 := flat_of_reps (m := k30.sz) (fun x => rfl) (hr.imp_ (fun x c hc => k30_openM hc))
  exact this ▸ ho
theorem unraw30 {w : World} {base : Nat} {ok : Nat → Prop} {v : Value} {xs : List S30} (h : w.ownsRow base 30 3 v xs.length (xs.flatMap e30)) (hok : ∀ k, v.ownBlock = some k → ok k) : Kd.R k30 30 w base ok v xs :=
  ⟨hok, _, h, reps_of_flat (m := k30.sz) (fun x => rfl) (fun x => k30_mkM _ _ _ x)⟩
theorem set30 (xs : List S30) (x : S30) : ∀ (k : Nat), k < xs.length → ((((xs.flatMap e30).set (k * 3) (.int .i64 x.f0)).set (k * 3 + 1) (.int .i64 x.f1)).set (k * 3 + 2) (.int .i64 x.f2)) = (xs.set k x).flatMap e30 := by
  induction xs with
  | nil => intro k hk; simp at hk
  | cons y ys ih =>
    intro k hk
    cases k with
    | zero => simp [e30]
    | succ k =>
      have := ih k (by simpa using hk)
      simp only [List.flatMap_cons, List.set_cons_succ]
      rw [← this]
      simp only [e30, Nat.succ_mul, List.cons_append, List.nil_append]
      simp only [show ∀ a, k * 3 + 3 + a = (k * 3 + a) + 3 from fun a => by omega, List.set_cons_succ, show ∀ n (q0 : Value) l u, List.set (q0 :: l) (n + 1) u = q0 :: List.set l n u from fun _ _ _ _ => rfl]
theorem store30 {w : World} {base b n cap k : Nat} {ok : Nat → Prop} {xs : List S30} (h : Kd.R k30 30 w base ok (.slice (some ⟨b, 0, none⟩) n cap) xs) (x : S30) (hk : k < xs.length) :
    Kd.R k30 30 (((w.setCell ⟨b, k * 3, none⟩ (.int .i64 x.f0)).setCell ⟨b, k * 3 + 1, none⟩ (.int .i64 x.f1)).setCell ⟨b, k * 3 + 2, none⟩ (.int .i64 x.f2)) base ok (.slice (some ⟨b, 0, none⟩) n cap) (xs.set k x) ∧ w.grownBy (((w.setCell ⟨b, k * 3, none⟩ (.int .i64 x.f0)).setCell ⟨b, k * 3 + 1, none⟩ (.int .i64 x.f1)).setCell ⟨b, k * 3 + 2, none⟩ (.int .i64 x.f2)) (some b) := by
  obtain ⟨hn, _, _⟩ := Kd.R_reads' h
  subst hn
  have h0 := raw30 h
  have h1 := World.ownsRow.stored h0 (k * 3) (.int .i64 x.f0)
  have h2 := World.ownsRow.stored h1.1 (k * 3 + 1) (.int .i64 x.f1)
  have h3 := World.ownsRow.stored h2.1 (k * 3 + 2) (.int .i64 x.f2)
  refine ⟨unraw30 ?_ h.1, (grown_trans (grown_trans h1.2 h2.2) h3.2)⟩
  have := h3.1
  rw [set30 xs x k hk] at this
  rw [List.length_set]
  exact this

theorem block30 {w : World} {base n c k : Nat} {ok : Nat → Prop} {A : Option Addr} {xs : List S30} (h : Kd.R k30 30 w base ok (.slice A n c) xs) (hk : k < xs.length) : ∃ b, A = some ⟨b, 0, none⟩ ∧ base ≤ b := by
  rcases (raw30 h).2 with ⟨_, h2⟩ | ⟨b, cap, cur, h2, hb, _⟩
  · omega
  · injection h2 with h3
    exact ⟨b, h3, hb⟩
theorem frozen30 {w : World} {base n c b : Nat} {ok : Nat → Prop} {xs : List S30} (h : Kd.R k30 30 w base ok (.slice (some ⟨b, 0, none⟩) n c) xs) (j : Nat) : w.frozen? ⟨b, j, none⟩ = false := by
  obtain ⟨hn, _, _⟩ := Kd.R_reads' h
  subst hn
  exact World.ownsRow.frozenAt (raw30 h) j
theorem cell30 {w : World} {base n c b : Nat} {ok : Nat → Prop} {xs : List S30} (h : Kd.R k30 30 w base ok (.slice (some ⟨b, 0, none⟩) n c) xs) (j : Nat) (hj : j < xs.length * 3) : ∃ v, w.cell? ⟨b, j, none⟩ = some v := by
  obtain ⟨hn, _, _⟩ := Kd.R_reads' h
  subst hn
  have h2 := raw30 h
  rw [World.ownsRow.cellAt h2 j hj]
  exact ⟨_, List.getElem?_eq_getElem (by rw [h2.1]; exact hj)⟩

/-! ### type 33 -/
def e33 (x : S33) : List Value := [.int .i64 x.f0, .int .i64 x.f1, .int .i64 x.f2, .int .i64 x.f3, .bool x.f4]
theorem raw33 {w : World} {base : Nat} {ok : Nat → Prop} {v : Value} {xs : List S33} (h : Kd.R k33 33 w base ok v xs) : w.ownsRow base 33 5 v xs.length (xs.flatMap e33) := by
  obtain ⟨_, inner, ho, hr⟩ := h
  have : inner = xs.flatMap e33 := flat_of_reps (m := k33.sz) (fun x => rfl) (hr.imp_ (fun x c hc => k33_openM hc))
  exact this ▸ ho
theorem unraw33 {w : World} {base : Nat} {ok : Nat → Prop} {v : Value} {xs : List S33} (h : w.ownsRow base 33 5 v xs.length (xs.flatMap e33)) (hok : ∀ k, v.ownBlock = some k → ok k) : Kd.R k33 33 w base ok v xs :=
  ⟨hok, _, h, reps_of_flat (m := k33.sz) (fun x => rfl) (fun x => k33_mkM _ _ _ x)⟩
theorem set33 (xs : List S33) (x : S33) : ∀ (k : Nat), k < xs.length → ((((((xs.flatMap e33).set (k * 5) (.int .i64 x.f0)).set (k * 5 + 1) (.int .i64 x.f1)).set (k * 5 + 2) (.int .i64 x.f2)).set (k * 5 + 3) (.int .i64 x.f3)).set (k * 5 + 4) (.bool x.f4)) = (xs.set k x).flatMap e33 := by
  induction xs with
  | nil => intro k hk; simp at hk
  | cons y ys ih =>
    intro k hk
    cases k with
    | zero => simp [e33]
    | succ k =>
      have := ih k (by simpa using hk)
      simp only [List.flatMap_cons, List.set_cons_succ]
      rw [← this]
      simp only [e33, Nat.succ_mul, List.cons_append, List.nil_append]
      simp only [show ∀ a, k * 5 + 5 + a = (k * 5 + a) + 5 from fun a => by omega, List.set_cons_succ, show ∀ n (q0 : Value) l u, List.set (q0 :: l) (n + 1) u = q0 :: List.set l n u from fun _ _ _ _ => rfl]
theorem store33 {w : World} {base b n cap k : Nat} {ok : Nat → Prop} {xs : List S33} (h : Kd.R k33 33 w base ok (.slice (some ⟨b, 0, none⟩) n cap) xs) (x : S33) (hk : k < xs.length) :
    Kd.R k33 33 (((((w.setCell ⟨b, k * 5, none⟩ (.int .i64 x.f0)).setCell ⟨b, k * 5 + 1, none⟩ (.int .i64 x.f1)).setCell ⟨b, k * 5 + 2, none⟩ (.int .i64 x.f2)).setCell ⟨b, k * 5 + 3, none⟩ (.int .i64 x.f3)).setCell ⟨b, k * 5 + 4, none⟩ (.bool x.f4)) base ok (.slice (some ⟨b, 0, none⟩) n cap) (xs.set k x) ∧ w.grownBy (((((w.setCell ⟨b, k * 5, none⟩ (.int .i64 x.f0)).setCell ⟨b, k * 5 + 1, none⟩ (.int .i64 x.f1)).setCell ⟨b, k * 5 + 2, none⟩ (.int .i64 x.f2)).setCell ⟨b, k * 5 + 3, none⟩ (.int .i64 x.f3)).setCell ⟨b, k * 5 + 4, none⟩ (.bool x.f4)) (some b) := by
  obtain ⟨hn, _, _⟩ := Kd.R_reads' h
  subst hn
  have h0 := raw33 h
  have h1 := World.ownsRow.stored h0 (k * 5) (.int .i64 x.f0)
  have h2 := World.ownsRow.stored h1.1 (k * 5 + 1) (.int .i64 x.f1)
  have h3 := World.ownsRow.stored h2.1 (k * 5 + 2) (.int .i64 x.f2)
  have h4 := World.ownsRow.stored h3.1 (k * 5 + 3) (.int .i64 x.f3)
  have h5 := World.ownsRow.stored h4.1 (k * 5 + 4) (.bool x.f4)
  refine ⟨unraw33 ?_ h.1, (grown_trans (grown_trans (grown_trans (grown_trans h1.2 h2.2) h3.2) h4.2) h5.2)⟩
  have := h5.1
  rw [set33 xs x k hk] at this
  rw [List.length_set]
  exact this

theorem block33 {w : World} {base n c k : Nat} {ok : Nat → Prop} {A : Option Addr} {xs : List S33} (h : Kd.R k33 33 w base ok (.slice A n c) xs) (hk : k < xs.length) : ∃ b, A = some ⟨b, 0, none⟩ ∧ base ≤ b := by
  rcases (raw33 h).2 with ⟨_, h2⟩ | ⟨b, cap, cur, h2, hb, _⟩
  · omega
  · injection h2 with h3
    exact ⟨b, h3, hb⟩
theorem frozen33 {w : World} {base n c b : Nat} {ok : Nat → Prop} {xs : List S33} (h : Kd.R k33 33 w base ok (.slice (some ⟨b, 0, none⟩) n c) xs) (j : Nat) : w.frozen? ⟨b, j, none⟩ = false := by
  obtain ⟨hn, _, _⟩ := Kd.R_reads' h
  subst hn
  exact World.ownsRow.frozenAt (raw33 h) j
theorem cell33 {w : World} {base n c b : Nat} {ok : Nat → Prop} {xs : List S33} (h : Kd.R k33 33 w base ok (.slice (some ⟨b, 0, none⟩) n c) xs) (j : Nat) (hj : j < xs.length * 5) : ∃ v, w.cell? ⟨b, j, none⟩ = some v := by
  obtain ⟨hn, _, _⟩ := Kd.R_reads' h
  subst hn
  have h2 := raw33 h
  rw [World.ownsRow.cellAt h2 j hj]
  exact ⟨_, List.getElem?_eq_getElem (by rw [h2.1]; exact hj)⟩

/-! ### type 44 -/
def e44 (x : S44) : List Value := [.int .i64 x.f0, .int .i64 x.f1, .int .i64 x.f2]
theorem raw44 {w : World} {base : Nat} {ok : Nat → Prop} {v : Value} {xs : List S44} (h : Kd.R k44 44 w base ok v xs) : w.ownsRow base 44 3 v xs.length (xs.flatMap e44) := by
  obtain ⟨_, inner, ho, hr⟩ := h
  have : inner = xs.flatMap e44 := flat_of_reps (m := k44.sz) (fun x => rfl) (hr.imp_ (fun x c hc => k44_openM hc))
  exact this ▸ ho
theorem unraw44 {w : World} {base : Nat} {ok : Nat → Prop} {v : Value} {xs : List S44} (h : w.ownsRow base 44 3 v xs.length (xs.flatMap e44)) (hok : ∀ k, v.ownBlock = some k → ok k) : Kd.R k44 44 w base ok v xs :=
  ⟨hok, _, h, reps_of_flat (m := k44.sz) (fun x => rfl) (fun x => k44_mkM _ _ _ x)⟩
theorem set44 (xs : List S44) (x : S44) : ∀ (k : Nat), k < xs.length → ((((xs.flatMap e44).set (k * 3) (.int .i64 x.f0)).set (k * 3 + 1) (.int .i64 x.f1)).set (k * 3 + 2) (.int .i64 x.f2)) = (xs.set k x).flatMap e44 := by
  induction xs with
  | nil => intro k hk; simp at hk
  | cons y ys ih =>
    intro k hk
    cases k with
    | zero => simp [e44]
    | succ k =>
      have := ih k (by simpa using hk)
      simp only [List.flatMap_cons, List.set_cons_succ]
      rw [← this]
      simp only [e44, Nat.succ_mul, List.cons_append, List.nil_append]
      simp only [show ∀ a, k * 3 + 3 + a = (k * 3 + a) + 3 from fun a => by omega, List.set_cons_succ, show ∀ n (q0 : Value) l u, List.set (q0 :: l) (n + 1) u = q0 :: List.set l n u from fun _ _ _ _ => rfl]
theorem store44 {w : World} {base b n cap k : Nat} {ok : Nat → Prop} {xs : List S44} (h : Kd.R k44 44 w base ok (.slice (some ⟨b, 0, none⟩) n cap) xs) (x : S44) (hk : k < xs.length) :
    Kd.R k44 44 (((w.setCell ⟨b, k * 3, none⟩ (.int .i64 x.f0)).setCell ⟨b, k * 3 + 1, none⟩ (.int .i64 x.f1)).setCell ⟨b, k * 3 + 2, none⟩ (.int .i64 x.f2)) base ok (.slice (some ⟨b, 0, none⟩) n cap) (xs.set k x) ∧ w.grownBy (((w.setCell ⟨b, k * 3, none⟩ (.int .i64 x.f0)).setCell ⟨b, k * 3 + 1, none⟩ (.int .i64 x.f1)).setCell ⟨b, k * 3 + 2, none⟩ (.int .i64 x.f2)) (some b) := by
  obtain ⟨hn, _, _⟩ := Kd.R_reads' h
  subst hn
  have h0 := raw44 h
  have h1 := World.ownsRow.stored h0 (k * 3) (.int .i64 x.f0)
  have h2 := World.ownsRow.stored h1.1 (k * 3 + 1) (.int .i64 x.f1)
  have h3 := World.ownsRow.stored h2.1 (k * 3 + 2) (.int .i64 x.f2)
  refine ⟨unraw44 ?_ h.1, (grown_trans (grown_trans h1.2 h2.2) h3.2)⟩
  have := h3.1
  rw [set44 xs x k hk] at this
  rw [List.length_set]
  exact this

theorem block44 {w : World} {base n c k : Nat} {ok : Nat → Prop} {A : Option Addr} {xs : List S44} (h : Kd.R k44 44 w base ok (.slice A n c) xs) (hk : k < xs.length) : ∃ b, A = some ⟨b, 0, none⟩ ∧ base ≤ b := by
  rcases (raw44 h).2 with ⟨_, h2⟩ | ⟨b, cap, cur, h2, hb, _⟩
  · omega
  · injection h2 with h3
    exact ⟨b, h3, hb⟩
theorem frozen44 {w : World} {base n c b : Nat} {ok : Nat → Prop} {xs : List S44} (h : Kd.R k44 44 w base ok (.slice (some ⟨b, 0, none⟩) n c) xs) (j : Nat) : w.frozen? ⟨b, j, none⟩ = false := by
  obtain ⟨hn, _, _⟩ := Kd.R_reads' h
  subst hn
  exact World.ownsRow.frozenAt (raw44 h) j
theorem cell44 {w : World} {base n c b : Nat} {ok : Nat → Prop} {xs : List S44} (h : Kd.R k44 44 w base ok (.slice (some ⟨b, 0, none⟩) n c) xs) (j : Nat) (hj : j < xs.length * 3) : ∃ v, w.cell? ⟨b, j, none⟩ = some v := by
  obtain ⟨hn, _, _⟩ := Kd.R_reads' h
  subst hn
  have h2 := raw44 h
  rw [World.ownsRow.cellAt h2 j hj]
  exact ⟨_, List.getElem?_eq_getElem (by rw [h2.1]; exact hj)⟩

/-! ### type 45 -/
def e45 (x : S45) : List Value := [.int .i64 x.f0, .int .i64 x.f1, .int .i64 x.f2, .int .i64 x.f3, .bool x.f4]
theorem raw45 {w : World} {base : Nat} {ok : Nat → Prop} {v : Value} {xs : List S45} (h : Kd.R k45 45 w base ok v xs) : w.ownsRow base 45 5 v xs.length (xs.flatMap e45) := by
  obtain ⟨_, inner, ho, hr⟩ := h
  have : inner = xs.flatMap e45 := flat_of_reps (m := k45.sz) (fun x => rfl) (hr.imp_ (fun x c hc => k45_openM hc))
  exact this ▸ ho
theorem unraw45 {w : World} {base : Nat} {ok : Nat → Prop} {v : Value} {xs : List S45} (h : w.ownsRow base 45 5 v xs.length (xs.flatMap e45)) (hok : ∀ k, v.ownBlock = some k → ok k) : Kd.R k45 45 w base ok v xs :=
  ⟨hok, _, h, reps_of_flat (m := k45.sz) (fun x => rfl) (fun x => k45_mkM _ _ _ x)⟩
theorem set45 (xs : List S45) (x : S45) : ∀ (k : Nat), k < xs.length → ((((((xs.flatMap e45).set (k * 5) (.int .i64 x.f0)).set (k * 5 + 1) (.int .i64 x.f1)).set (k * 5 + 2) (.int .i64 x.f2)).set (k * 5 + 3) (.int .i64 x.f3)).set (k * 5 + 4) (.bool x.f4)) = (xs.set k x).flatMap e45 := by
  induction xs with
  | nil => intro k hk; simp at hk
  | cons y ys ih =>
    intro k hk
    cases k with
    | zero => simp [e45]
    | succ k =>
      have := ih k (by simpa using hk)
      simp only [List.flatMap_cons, List.set_cons_succ]
      rw [← this]
      simp only [e45, Nat.succ_mul, List.cons_append, List.nil_append]
      simp only [show ∀ a, k * 5 + 5 + a = (k * 5 + a) + 5 from fun a => by omega, List.set_cons_succ, show ∀ n (q0 : Value) l u, List.set (q0 :: l) (n + 1) u = q0 :: List.set l n u from fun _ _ _ _ => rfl]
theorem store45 {w : World} {base b n cap k : Nat} {ok : Nat → Prop} {xs : List S45} (h : Kd.R k45 45 w base ok (.slice (some ⟨b, 0, none⟩) n cap) xs) (x : S45) (hk : k < xs.length) :
    Kd.R k45 45 (((((w.setCell ⟨b, k * 5, none⟩ (.int .i64 x.f0)).setCell ⟨b, k * 5 + 1, none⟩ (.int .i64 x.f1)).setCell ⟨b, k * 5 + 2, none⟩ (.int .i64 x.f2)).setCell ⟨b, k * 5 + 3, none⟩ (.int .i64 x.f3)).setCell ⟨b, k * 5 + 4, none⟩ (.bool x.f4)) base ok (.slice (some ⟨b, 0, none⟩) n cap) (xs.set k x) ∧ w.grownBy (((((w.setCell ⟨b, k * 5, none⟩ (.int .i64 x.f0)).setCell ⟨b, k * 5 + 1, none⟩ (.int .i64 x.f1)).setCell ⟨b, k * 5 + 2, none⟩ (.int .i64 x.f2)).setCell ⟨b, k * 5 + 3, none⟩ (.int .i64 x.f3)).setCell ⟨b, k * 5 + 4, none⟩ (.bool x.f4)) (some b) := by
  obtain ⟨hn, _, _⟩ := Kd.R_reads' h
  subst hn
  have h0 := raw45 h
  have h1 := World.ownsRow.stored h0 (k * 5) (.int .i64 x.f0)
  have h2 := World.ownsRow.stored h1.1 (k * 5 + 1) (.int .i64 x.f1)
  have h3 := World.ownsRow.stored h2.1 (k * 5 + 2) (.int .i64 x.f2)
  have h4 := World.ownsRow.stored h3.1 (k * 5 + 3) (.int .i64 x.f3)
  have h5 := World.ownsRow.stored h4.1 (k * 5 + 4) (.bool x.f4)
  refine ⟨unraw45 ?_ h.1, (grown_trans (grown_trans (grown_trans (grown_trans h1.2 h2.2) h3.2) h4.2) h5.2)⟩
  have := h5.1
  rw [set45 xs x k hk] at this
  rw [List.length_set]
  exact this

theorem block45 {w : World} {base n c k : Nat} {ok : Nat → Prop} {A : Option Addr} {xs : List S45} (h : Kd.R k45 45 w base ok (.slice A n c) xs) (hk : k < xs.length) : ∃ b, A = some ⟨b, 0, none⟩ ∧ base ≤ b := by
  rcases (raw45 h).2 with ⟨_, h2⟩ | ⟨b, cap, cur, h2, hb, _⟩
  · omega
  · injection h2 with h3
    exact ⟨b, h3, hb⟩
theorem frozen45 {w : World} {base n c b : Nat} {ok : Nat → Prop} {xs : List S45} (h : Kd.R k45 45 w base ok (.slice (some ⟨b, 0, none⟩) n c) xs) (j : Nat) : w.frozen? ⟨b, j, none⟩ = false := by
  obtain ⟨hn, _, _⟩ := Kd.R_reads' h
  subst hn
  exact World.ownsRow.frozenAt (raw45 h) j
theorem cell45 {w : World} {base n c b : Nat} {ok : Nat → Prop} {xs : List S45} (h : Kd.R k45 45 w base ok (.slice (some ⟨b, 0, none⟩) n c) xs) (j : Nat) (hj : j < xs.length * 5) : ∃ v, w.cell? ⟨b, j, none⟩ = some v := by
  obtain ⟨hn, _, _⟩ := Kd.R_reads' h
  subst hn
  have h2 := raw45 h
  rw [World.ownsRow.cellAt h2 j hj]
  exact ⟨_, List.getElem?_eq_getElem (by rw [h2.1]; exact hj)⟩

end Go.Proofs.Ytfiniikeoemleaa.R
