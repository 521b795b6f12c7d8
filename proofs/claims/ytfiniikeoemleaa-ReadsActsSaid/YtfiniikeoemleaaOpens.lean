/- What an argument reads as: values of each kind out of the reading of the data ('DataW.trod'), kind by kind; no condition. -/
import Derived.Test.YtfiniikeoemleaaWWords
import Derived.Deep.Slices
import Derived.Deep.Fields
import Derived.ChangeSame
import Derived.ChangeArms
namespace Go.Proofs.Ytfiniikeoemleaa.Opens
open Go.RowKit Go.Proofs.YtfiniikeoemleaaW.PrintWords

/-- Whatever reads as a datum of the type t is a value of the kind d of which Q holds. -/
def Opens {α : Type} (P : Program) (t : TypeId) (d : Kd α) (Q : α → Prop) : Prop :=
  ∀ (H : Type) (enc : TypeId × Value → H) (w : World) (base : Nat) (spare : Nat → Bool) (held : Bool) (fuel : Nat) (cs : List Value) (x : DataW H × List MemPlace),
    DataW.trod enc P w base spare held fuel t cs = some x → ∃ a, d.K w a cs ∧ Q a

theorem Opens.imp {α : Type} {P : Program} {t : TypeId} {d : Kd α} {Q Q' : α → Prop} (h : Opens P t d Q) (hq : ∀ a, Q a → Q' a) : Opens P t d Q' := by
  intro H enc w base spare held fuel cs x hx
  obtain ⟨a, hk, ha⟩ := h H enc w base spare held fuel cs x hx
  exact ⟨a, hk, hq a ha⟩
theorem Opens.int {P : Program} {t : TypeId} {k : IntKind} (ht : P.underlying t = some (.int k)) : Opens P t (Kd.int k) (fun a => (Lit.int k a).wf = true) := by
  intro H enc w base spare held fuel cs x hx
  obtain ⟨n, rfl, _, hw⟩ := DataW.trod_int ht hx
  exact ⟨n, rfl, hw⟩
theorem Opens.bool {P : Program} {t : TypeId} (ht : P.underlying t = some .bool) : Opens P t Kd.bool (fun _ => True) := by
  intro H enc w base spare held fuel cs x hx
  obtain ⟨n, rfl, _⟩ := DataW.trod_bool ht hx
  exact ⟨n, rfl, trivial⟩
theorem Opens.iso {α β : Type} {P : Program} {t : TypeId} {d : Kd α} {Q : α → Prop} (h : Opens P t d Q) (f : β → α) (g : α → β) (hfg : ∀ a, f (g a) = a) : Opens P t (Kd.iso d f) (fun b => Q (f b)) := by
  intro H enc w base spare held fuel cs x hx
  obtain ⟨a, hk, hq⟩ := h H enc w base spare held fuel cs x hx
  exact ⟨g a, by show d.K w (f (g a)) cs; rw [hfg]; exact hk, by show Q (f (g a)); rw [hfg]; exact hq⟩

theorem list_of {α : Type} {p : Nat → α → Prop} : ∀ n : Nat, (∀ i, i < n → ∃ a, p i a) → ∃ l : List α, l.length = n ∧ ∀ i (hi : i < l.length), p i l[i]
  | 0, _ => ⟨[], rfl, fun i hi => absurd hi (Nat.not_lt_zero i)⟩
  | n + 1, h => by
    obtain ⟨l, hl, hp⟩ := list_of n (fun i hi => h i (by omega))
    obtain ⟨a, ha⟩ := h n (by omega)
    refine ⟨l ++ [a], by simp [hl], fun i hi => ?_⟩
    rcases Nat.lt_or_ge i l.length with hlt | hge
    · rw [List.getElem_append_left hlt]; exact hp i hlt
    · have : i = n := by simp at hi; omega
      subst this
      rw [List.getElem_append_right (by omega)]
      simpa [hl] using ha

theorem add_add' (a : Addr) (i j : Nat) : (a.add i).add j = a.add (i + j) := by
  unfold Addr.add
  by_cases hi : i = 0 <;> by_cases hj : j = 0 <;> simp [hi, hj, Nat.add_assoc]

theorem Opens.slice {α : Type} {P : Program} {t e : TypeId} {d : Kd α} {Q : α → Prop} (ht : P.underlying t = some (.slice e)) (hs : P.cellsOf e = d.sz) (hd : Opens P e d Q) :
    Opens P t (Kd.slice e d) (fun l => ∀ a ∈ l, Q a) := by
  intro H enc w base spare held fuel cs x hx
  rcases Go.Deep.open_slice ht hx with ⟨rfl, _⟩ | ⟨a, len, cap, m, n, D, Pl, rfl, _, hl, hm, hmm, _, hi⟩
  · exact ⟨[], ⟨none, 0, rfl, by simp, rfl, by simp, fun h => absurd h (Nat.lt_irrefl 0)⟩, by simp⟩
  · have hlm : len ≤ m := by rw [hmm]; split <;> omega
    obtain ⟨l, hll, hp⟩ := list_of (p := fun i (v : α) => Q v ∧ ∃ c, c.length = d.sz ∧ d.K w v c ∧ ∀ j u, c[j]? = some u → w.cell? (a.add (i * d.sz + j)) = some u) len (fun i hil => by
      obtain ⟨cs', hc, ht'⟩ := hi i (by omega)
      rw [hs] at hc
      obtain ⟨_, hcl, hat⟩ := World.cells?_some hc
      obtain ⟨v, hk, hq⟩ := hd H enc w base spare held n cs' _ ht'
      refine ⟨v, hq, cs', hcl, hk, fun j u hu => ?_⟩
      have hjl : j < d.sz := by rw [← hcl]; exact (List.getElem?_eq_some_iff.1 hu).1
      rw [← add_add', hat j hjl, hu])
    refine ⟨l, ⟨some a, cap, by rw [hll], by omega, rfl, ?_, fun _ => ⟨a, rfl, fun j p hj => ?_⟩⟩, fun v hv => ?_⟩
    · simp only [maxLen] at hm; omega
    · obtain ⟨hjl, rfl⟩ := List.getElem?_eq_some_iff.1 hj
      exact (hp j hjl).2
    · obtain ⟨i, hil, rfl⟩ := List.getElem_of_mem hv
      exact (hp i hil).1

/-- The fields of a struct from place j on: their cells begin at off. -/
def OpensAt {α : Type} (P : Program) (fs : Array Field) (tot _j off : Nat) (d : Kd α) (Q : α → Prop) : Prop :=
  ∀ (H : Type) (enc : TypeId × Value → H) (w : World) (base : Nat) (spare : Nat → Bool) (held : Bool) (n : Nat) (cs : List Value) (xs : List (DataW H × List MemPlace)), cs.length = tot → xs.length = fs.size →
    (∀ (i : Nat) (f : Field), fs[i]? = some f → DataW.trod enc P w base spare held n f.type ((cs.drop f.offset).take (P.cellsOf f.type)) = xs[i]?) → ∃ a, d.K w a (cs.drop off) ∧ Q a
theorem OpensAt.last {α : Type} {P : Program} {fs : Array Field} {tot j off : Nat} {d : Kd α} {Q : α → Prop} (f : Field) (hf : fs[j]? = some f) (ho : f.offset = off) (hc : off + P.cellsOf f.type = tot)
    (h : Opens P f.type d Q) : OpensAt P fs tot j off d Q := by
  intro H enc w base spare held n cs xs hl hx hg
  have hj : j < xs.length := by rw [hx]; exact (Array.getElem?_eq_some_iff.1 hf).1
  obtain ⟨a, hk, hq⟩ := h H enc w base spare held n _ _ ((hg j f hf).trans (List.getElem?_eq_getElem hj))
  rw [ho, List.take_of_length_le (by rw [List.length_drop]; omega)] at hk
  exact ⟨a, hk, hq⟩
theorem OpensAt.cons {α β : Type} {P : Program} {fs : Array Field} {tot j off off' : Nat} {d : Kd α} {d' : Kd β} {Q : α → Prop} {Q' : β → Prop} (f : Field) (hf : fs[j]? = some f) (ho : f.offset = off) (hc : off + P.cellsOf f.type = off')
    (h : Opens P f.type d Q) (h' : OpensAt P fs tot (j + 1) off' d' Q') : OpensAt P fs tot j off (Kd.pair d d') (fun p => Q p.1 ∧ Q' p.2) := by
  intro H enc w base spare held n cs xs hl hx hg
  have hj : j < xs.length := by rw [hx]; exact (Array.getElem?_eq_some_iff.1 hf).1
  obtain ⟨a, hk, hq⟩ := h H enc w base spare held n _ _ ((hg j f hf).trans (List.getElem?_eq_getElem hj))
  obtain ⟨b, hk', hq'⟩ := h' H enc w base spare held n cs xs hl hx hg
  rw [ho] at hk
  refine ⟨(a, b), ⟨_, _, ?_, hk, hk'⟩, hq, hq'⟩
  rw [← hc, ← List.drop_drop, List.take_append_drop]
theorem Opens.struct {α : Type} {P : Program} {t : TypeId} {fs : Array Field} {tot : Nat} {d : Kd α} {Q : α → Prop} (ht : P.underlying t = some (.struct fs)) (hc : P.cellsOf t = tot) (h : OpensAt P fs tot 0 0 d Q) : Opens P t d Q := by
  intro H enc w base spare held fuel cs x hx
  obtain ⟨xs, n, _, _, hl, hxl, hg⟩ := DataW.trod_struct ht hx
  obtain ⟨a, hk, hq⟩ := h H enc w base spare held n cs xs (hl.trans hc) hxl hg
  exact ⟨a, by simpa using hk, hq⟩

/-- An argument, as a row has it. -/
theorem Opens.arg {α : Type} {P : Program} {t : TypeId} {d : Kd α} {Q : α → Prop} (h : Opens P t d Q) {H : Type} {enc : TypeId × Value → H} {w : World} {base : Nat} {spare : Nat → Bool} {held : Bool} {v : Value} {x : DataW H} {p : List MemPlace}
    (hx : DataW.Trod enc P w base spare held t v x p) : ∃ a, d.K w a v.cells.toList ∧ Q a := by
  obtain ⟨fuel, hf⟩ := hx
  exact h H enc w base spare held fuel _ _ hf
end Go.Proofs.Ytfiniikeoemleaa.Opens
