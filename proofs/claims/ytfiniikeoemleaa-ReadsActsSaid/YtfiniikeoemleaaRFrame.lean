/- A frame by types: what changes is of these types, or new. No condition. -/
import Derived.Test.YtfiniikeoemleaaWWords
import Derived.Test.YtfiniikeoemleaaWMore
import Derived.Test.YtfiniikeoemleaaWApart
import Derived.Test.YtfiniikeoemleaaRx0
namespace Go.Proofs.Ytfiniikeoemleaa.R
open Go Go.RowKit Go.Proofs.YtfiniikeoemleaaW.PrintWords Go.Proofs.YtfiniikeoemleaaW.PrintMore
set_option linter.unusedVariables false

/-- What changes is of these types, or new. -/
structure Fr (ts : List Nat) (w w' : World) : Prop where
  os : w'.os = w.os
  tape : w'.tape = w.tape
  output : w'.output = w.output
  size : w.heap.size ≤ w'.heap.size
  block : ∀ k, k < w.heap.size → (∀ cs t fz, w.heap[k]? = some (.cells cs t fz) → t ∉ ts) → w'.heap[k]? = w.heap[k]?
theorem Fr.refl (ts : List Nat) (w : World) : Fr ts w w := ⟨rfl, rfl, rfl, Nat.le_refl _, fun _ _ _ => rfl⟩
theorem Fr.trans {ts : List Nat} {a b c : World} (h : Fr ts a b) (k : Fr ts b c) : Fr ts a c :=
  ⟨k.os.trans h.os, k.tape.trans h.tape, k.output.trans h.output, Nat.le_trans h.size k.size, fun i hi hn => by
    have e := h.block i hi hn
    exact (k.block i (Nat.lt_of_lt_of_le hi h.size) (fun cs t fz hc => hn cs t fz (e ▸ hc))).trans e⟩
theorem Fr.mono {ts us : List Nat} {a b : World} (h : Fr ts a b) (hs : ∀ t, t ∈ ts → t ∈ us) : Fr us a b :=
  ⟨h.os, h.tape, h.output, h.size, fun i hi hn => h.block i hi (fun cs t fz hc ht => hn cs t fz hc (hs t ht))⟩
theorem Fr.of_below {ts : List Nat} {w w' : World} (h : Below w.heap.size w w') : Fr ts w w' := ⟨h.os, h.tape, h.output, h.size, fun i hi _ => h.block i hi⟩
theorem Fr.below {ts : List Nat} {w a b : World} (h : Fr ts w a) (k : Below a.heap.size a b) : Fr ts w b := h.trans (Fr.of_below k)
theorem Fr.alloc {ts : List Nat} {w a : World} (h : Fr ts w a) (o : Obj) : Fr ts w (a.alloc o) := h.below (below_alloc (Below.refl _ _) o)
theorem Fr.drew {ts : List Nat} {w a : World} (h : Fr ts w a) : Fr ts w a.drew := h.below (below_drew (Below.refl _ _))
theorem Fr.drewN {ts : List Nat} {w a : World} (h : Fr ts w a) (m : Nat) : Fr ts w (a.drewN m) := h.below (pw_below_drewN (Below.refl _ _) m)
theorem Fr.set {ts : List Nat} {w a : World} (h : Fr ts w a) {p : Addr} {cs : Array Value} {t : Nat} {fz : Nat × Nat} (hp : a.heap[p.block]? = some (.cells cs t fz)) (ht : t ∈ ts) (u : Value) : Fr ts w (a.setCell p u) :=
  h.trans ⟨rfl, rfl, rfl, by simp [World.setCell], fun i hi hn => Below.heap_setCell a p u i (fun e => hn cs t fz (e ▸ hp) ht)⟩
theorem Fr.grown {ts : List Nat} {w a b : World} (h : Fr ts w a) {row : Option Nat} (hg : a.grownBy b row) (hr : ∀ k, row = some k → ∃ cs t fz, a.heap[k]? = some (.cells cs t fz) ∧ t ∈ ts) : Fr ts w b :=
  h.trans ⟨hg.os, hg.tape, hg.output, hg.size, fun i hi hn => hg.block i hi (fun e => by obtain ⟨cs, t, fz, h1, h2⟩ := hr i e.symm; exact hn cs t fz h1 h2)⟩
theorem Fr.blk {ts : List Nat} {w w' : World} (h : Fr ts w w') {g : Nat} {cs : Array Value} {t : Nat} {fz : Nat × Nat} (hb : w.heap[g]? = some (.cells cs t fz)) (ht : t ∉ ts) : w'.heap[g]? = some (.cells cs t fz) :=
  (h.block g (Array.getElem?_eq_some_iff.1 hb).1 (fun cs' t' fz' hc => by rw [hb] at hc; injection hc with hc; injection hc with _ h2; exact h2 ▸ ht)).trans hb
/-- A row of another type stands as it stood. -/
theorem R_fr {α : Type} {d : Kd α} {e : Nat} {ts : List Nat} {w w' : World} {base : Nat} {ok : Nat → Prop} {v : Value} {xs : List α} (hE : d.E = []) (h : d.R e w base ok v xs) (hf : Fr ts w w') (he : e ∉ ts) : d.R e w' base ok v xs := by
  refine Kd.R_reok hE (Kd.R_step (Kd.R_tight hE h) (fun k hk hlt => ?_)) h.1
  obtain ⟨cs, hcs⟩ := Kd.R_typed h k hk.symm
  exact (hf.blk hcs he).trans hcs.symm
theorem cell_drew {w : World} {a : Addr} {v : Value} (h : w.cell? a = some v) : w.drew.cell? a = some v := h
end Go.Proofs.Ytfiniikeoemleaa.R
