/- Part 6 of the proof of scriptWrites_holds. Conditions stand in each theorem; nothing is assumed. Gathered by a program of this session out of its texts and the kit's words. -/
import Derived.Test.YthfkgnkojhocbaaZW5
import Derived.Deep.Slices
import Derived.Deep.Fields
import Derived.ChangeSame
import Derived.ChangeArms
import Derived.KernelRfl
import Derived.Test.YthfkgnkojhocbaaRows
import Derived.WalkKit
import Derived.ProofKit
import Derived.OpenShut
import Derived.ShutString
import Derived.ChangeOld
import Derived.Below
import Derived.SizedLaws
section
namespace Go.Proofs.Ythfkgnkojhocbaa.Opens
open Go.RowKit Go.Proofs.YthfkgnkojhocbaaW.PrintWords
/-- Whatever reads as a datum of the type t is a value of the kind d of which Q holds. -/
def Opens {α : Type} (P : Program) (t : TypeId) (d : Kd α) (Q : α → Prop) : Prop :=
  ∀ (H : Type) (enc : TypeId × Value → H) (w : World) (base : Nat) (spare : Nat → Bool) (held : Bool) (fuel : Nat) (cs : List Value) (x : DataW H × List MemPlace),
    DataW.trod enc P w base spare held fuel t cs = some x → ∃ a, d.K w a cs ∧ Q a
theorem Opens.imp {α : Type} {P : Program} {t : TypeId} {d : Kd α} {Q Q' : α → Prop} (h : Opens P t d Q) (hq : ∀ a, Q a → Q' a) : Opens P t d Q' := by
  intro H enc w base spare held fuel cs x hx
  obtain ⟨a, hk, ha⟩ := h H enc w base spare held fuel cs x hx
  exact ⟨a, hk, hq a ha⟩
theorem Opens.int {P : Program} {t : TypeId} {k : IntKind} (ht : P.underlying t = some (.int k)) : Opens P t (Kd.int k) (fun a => (Lit.int k a).wf = true) := by
  intro H enc w base spare held fuel cs x hx
  obtain ⟨n, rfl, _, hw⟩ := DataW.trod_int ht hx
  exact ⟨n, rfl, hw⟩
theorem Opens.bool {P : Program} {t : TypeId} (ht : P.underlying t = some .bool) : Opens P t Kd.bool (fun _ => True) := by
  intro H enc w base spare held fuel cs x hx
  obtain ⟨n, rfl, _⟩ := DataW.trod_bool ht hx
  exact ⟨n, rfl, trivial⟩
theorem Opens.iso {α β : Type} {P : Program} {t : TypeId} {d : Kd α} {Q : α → Prop} (h : Opens P t d Q) (f : β → α) (g : α → β) (hfg : ∀ a, f (g a) = a) : Opens P t (Kd.iso d f) (fun b => Q (f b)) := by
  intro H enc w base spare held fuel cs x hx
  obtain ⟨a, hk, hq⟩ := h H enc w base spare held fuel cs x hx
  exact ⟨g a, by show d.K w (f (g a)) cs; rw [hfg]; exact hk, by show Q (f (g a)); rw [hfg]; exact hq⟩
theorem list_of {α : Type} {p : Nat → α → Prop} : ∀ n : Nat, (∀ i, i < n → ∃ a, p i a) → ∃ l : List α, l.length = n ∧ ∀ i (hi : i < l.length), p i l[i]
  | 0, _ => ⟨[], rfl, fun i hi => absurd hi (Nat.not_lt_zero i)⟩
  | n + 1, h => by
    obtain ⟨l, hl, hp⟩ := list_of n (fun i hi => h i (by omega))
    obtain ⟨a, ha⟩ := h n (by omega)
    refine ⟨l ++ [a], by simp [hl], fun i hi => ?_⟩
    rcases Nat.lt_or_ge i l.length with hlt | hge
    · rw [List.getElem_append_left hlt]; exact hp i hlt
    · have : i = n := by simp at hi; omega
      subst this
      rw [List.getElem_append_right (by omega)]
      simpa [hl] using ha
theorem add_add' (a : Addr) (i j : Nat) : (a.add i).add j = a.add (i + j) := by
  unfold Addr.add
  by_cases hi : i = 0 <;> by_cases hj : j = 0 <;> simp [hi, hj, Nat.add_assoc]
theorem Opens.slice {α : Type} {P : Program} {t e : TypeId} {d : Kd α} {Q : α → Prop} (ht : P.underlying t = some (.slice e)) (hs : P.cellsOf e = d.sz) (hd : Opens P e d Q) :
    Opens P t (Kd.slice e d) (fun l => ∀ a ∈ l, Q a) := by
  intro H enc w base spare held fuel cs x hx
  rcases Go.Deep.open_slice ht hx with ⟨rfl, _⟩ | ⟨a, len, cap, m, n, D, Pl, rfl, _, hl, hm, hmm, _, hi⟩
  · exact ⟨[], ⟨none, 0, rfl, by simp, rfl, by simp, fun h => absurd h (Nat.lt_irrefl 0)⟩, by simp⟩
  · have hlm : len ≤ m := by rw [hmm]; split <;> omega
    obtain ⟨l, hll, hp⟩ := list_of (p := fun i (v : α) => Q v ∧ ∃ c, c.length = d.sz ∧ d.K w v c ∧ ∀ j u, c[j]? = some u → w.cell? (a.add (i * d.sz + j)) = some u) len (fun i hil => by
      obtain ⟨cs', hc, ht'⟩ := hi i (by omega)
      rw [hs] at hc
      obtain ⟨_, hcl, hat⟩ := World.cells?_some hc
      obtain ⟨v, hk, hq⟩ := hd H enc w base spare held n cs' _ ht'
      refine ⟨v, hq, cs', hcl, hk, fun j u hu => ?_⟩
      have hjl : j < d.sz := by rw [← hcl]; exact (List.getElem?_eq_some_iff.1 hu).1
      rw [← add_add', hat j hjl, hu])
    refine ⟨l, ⟨some a, cap, by rw [hll], by omega, rfl, ?_, fun _ => ⟨a, rfl, fun j p hj => ?_⟩⟩, fun v hv => ?_⟩
    · simp only [maxLen] at hm; omega
    · obtain ⟨hjl, rfl⟩ := List.getElem?_eq_some_iff.1 hj
      exact (hp j hjl).2
    · obtain ⟨i, hil, rfl⟩ := List.getElem_of_mem hv
      exact (hp i hil).1
/-- The fields of a struct from place j on: their cells begin at off. -/
def OpensAt {α : Type} (P : Program) (fs : Array Field) (tot _j off : Nat) (d : Kd α) (Q : α → Prop) : Prop :=
  ∀ (H : Type) (enc : TypeId × Value → H) (w : World) (base : Nat) (spare : Nat → Bool) (held : Bool) (n : Nat) (cs : List Value) (xs : List (DataW H × List MemPlace)), cs.length = tot → xs.length = fs.size →
    (∀ (i : Nat) (f : Field), fs[i]? = some f → DataW.trod enc P w base spare held n f.type ((cs.drop f.offset).take (P.cellsOf f.type)) = xs[i]?) → ∃ a, d.K w a (cs.drop off) ∧ Q a
theorem OpensAt.last {α : Type} {P : Program} {fs : Array Field} {tot j off : Nat} {d : Kd α} {Q : α → Prop} (f : Field) (hf : fs[j]? = some f) (ho : f.offset = off) (hc : off + P.cellsOf f.type = tot)
    (h : Opens P f.type d Q) : OpensAt P fs tot j off d Q := by
  intro H enc w base spare held n cs xs hl hx hg
  have hj : j < xs.length := by rw [hx]; exact (Array.getElem?_eq_some_iff.1 hf).1
  obtain ⟨a, hk, hq⟩ := h H enc w base spare held n _ _ ((hg j f hf).trans (List.getElem?_eq_getElem hj))
  rw [ho, List.take_of_length_le (by rw [List.length_drop]; omega)] at hk
  exact ⟨a, hk, hq⟩
theorem OpensAt.cons {α β : Type} {P : Program} {fs : Array Field} {tot j off off' : Nat} {d : Kd α} {d' : Kd β} {Q : α → Prop} {Q' : β → Prop} (f : Field) (hf : fs[j]? = some f) (ho : f.offset = off) (hc : off + P.cellsOf f.type = off')
    (h : Opens P f.type d Q) (h' : OpensAt P fs tot (j + 1) off' d' Q') : OpensAt P fs tot j off (Kd.pair d d') (fun p => Q p.1 ∧ Q' p.2) := by
  intro H enc w base spare held n cs xs hl hx hg
  have hj : j < xs.length := by rw [hx]; exact (Array.getElem?_eq_some_iff.1 hf).1
  obtain ⟨a, hk, hq⟩ := h H enc w base spare held n _ _ ((hg j f hf).trans (List.getElem?_eq_getElem hj))
  obtain ⟨b, hk', hq'⟩ := h' H enc w base spare held n cs xs hl hx hg
  rw [ho] at hk
  refine ⟨(a, b), ⟨_, _, ?_, hk, hk'⟩, hq, hq'⟩
  rw [← hc, ← List.drop_drop, List.take_append_drop]
theorem Opens.struct {α : Type} {P : Program} {t : TypeId} {fs : Array Field} {tot : Nat} {d : Kd α} {Q : α → Prop} (ht : P.underlying t = some (.struct fs)) (hc : P.cellsOf t = tot) (h : OpensAt P fs tot 0 0 d Q) : Opens P t d Q := by
  intro H enc w base spare held fuel cs x hx
  obtain ⟨xs, n, _, _, hl, hxl, hg⟩ := DataW.trod_struct ht hx
  obtain ⟨a, hk, hq⟩ := h H enc w base spare held n cs xs (hl.trans hc) hxl hg
  exact ⟨a, by simpa using hk, hq⟩
/-- An argument, as a row has it. -/
theorem Opens.arg {α : Type} {P : Program} {t : TypeId} {d : Kd α} {Q : α → Prop} (h : Opens P t d Q) {H : Type} {enc : TypeId × Value → H} {w : World} {base : Nat} {spare : Nat → Bool} {held : Bool} {v : Value} {x : DataW H} {p : List MemPlace}
    (hx : DataW.Trod enc P w base spare held t v x p) : ∃ a, d.K w a v.cells.toList ∧ Q a := by
  obtain ⟨fuel, hf⟩ := hx
  exact h H enc w base spare held fuel _ _ hf
end Go.Proofs.Ythfkgnkojhocbaa.Opens
end
section
namespace Go.Proofs.Ythfkgnkojhocbaa.S
open Go.RowKit Go.Proofs.YthfkgnkojhocbaaW.PrintWords Go.Proofs.Ythfkgnkojhocbaa.Opens
def WF25 (x : S25) : Prop := (Lit.int .i64 x.f0).wf = true ∧ (Lit.int .i64 x.f1).wf = true ∧ (Lit.int .i64 x.f2).wf = true ∧ (Lit.int .i64 x.f3).wf = true ∧ (Lit.int .i64 x.f4).wf = true ∧ (Lit.int .i64 x.f5).wf = true
theorem open25 : Opens Try.prog 25 k25 WF25 := (Opens.iso (Opens.struct (tot := 6) Try.underlying25 (by kernel_rfl) (OpensAt.cons (off' := 1) _ rfl rfl (by kernel_rfl) (Opens.int (k := .i64) Try.underlying3) (OpensAt.cons (off' := 2) _ rfl rfl (by kernel_rfl) (Opens.int (k := .i64) Try.underlying3) (OpensAt.cons (off' := 3) _ rfl rfl (by kernel_rfl) (Opens.int (k := .i64) Try.underlying3) (OpensAt.cons (off' := 4) _ rfl rfl (by kernel_rfl) (Opens.int (k := .i64) Try.underlying3) (OpensAt.cons (off' := 5) _ rfl rfl (by kernel_rfl) (Opens.int (k := .i64) Try.underlying3) (OpensAt.last _ rfl rfl (by kernel_rfl) (Opens.int (k := .i64) Try.underlying3)))))))) (fun x : S25 => (x.f0, x.f1, x.f2, x.f3, x.f4, x.f5)) (fun p => ⟨p.1, p.2.1, p.2.2.1, p.2.2.2.1, p.2.2.2.2.1, p.2.2.2.2.2⟩) (fun _ => rfl)).imp (fun _ h => h)
def WF80 (x : S80) : Prop := (Lit.int .i64 x.f0).wf = true ∧ (Lit.int .i64 x.f1).wf = true ∧ (Lit.int .i64 x.f2).wf = true
theorem open80 : Opens Try.prog 80 k80 WF80 := (Opens.iso (Opens.struct (tot := 3) Try.underlying80 (by kernel_rfl) (OpensAt.cons (off' := 1) _ rfl rfl (by kernel_rfl) (Opens.int (k := .i64) Try.underlying3) (OpensAt.cons (off' := 2) _ rfl rfl (by kernel_rfl) (Opens.int (k := .i64) Try.underlying3) (OpensAt.last _ rfl rfl (by kernel_rfl) (Opens.int (k := .i64) Try.underlying2))))) (fun x : S80 => (x.f0, x.f1, x.f2)) (fun p => ⟨p.1, p.2.1, p.2.2⟩) (fun _ => rfl)).imp (fun _ h => h)
def WF34 (x : S34) : Prop := WF25 x.f0 ∧ (∀ a0 ∈ x.f1, (Lit.int .i64 a0).wf = true) ∧ (∀ a0 ∈ x.f2, (Lit.int .u8 a0).wf = true) ∧ (∀ a0 ∈ x.f3, (∀ a1 ∈ a0, (∀ a2 ∈ a1, WF80 a2))) ∧ (∀ a0 ∈ x.f4, (Lit.int .i64 a0).wf = true)
theorem open34 : Opens Try.prog 34 k34 WF34 := (Opens.iso (Opens.struct (tot := 10) Try.underlying34 (by kernel_rfl) (OpensAt.cons (off' := 6) _ rfl rfl (by kernel_rfl) open25 (OpensAt.cons (off' := 7) _ rfl rfl (by kernel_rfl) (Opens.slice Try.underlying26 (by kernel_rfl) (Opens.int (k := .i64) Try.underlying2)) (OpensAt.cons (off' := 8) _ rfl rfl (by kernel_rfl) (Opens.slice Try.underlying22 (by kernel_rfl) (Opens.int (k := .u8) Try.underlying5)) (OpensAt.cons (off' := 9) _ rfl rfl (by kernel_rfl) (Opens.slice Try.underlying27 (by kernel_rfl) (Opens.slice Try.underlying60 (by kernel_rfl) (Opens.slice Try.underlying61 (by kernel_rfl) open80))) (OpensAt.last _ rfl rfl (by kernel_rfl) (Opens.slice Try.underlying28 (by kernel_rfl) (Opens.int (k := .i64) Try.underlying3)))))))) (fun x : S34 => (x.f0, x.f1, x.f2, x.f3, x.f4)) (fun p => ⟨p.1, p.2.1, p.2.2.1, p.2.2.2.1, p.2.2.2.2⟩) (fun _ => rfl)).imp (fun _ h => h)
end Go.Proofs.Ythfkgnkojhocbaa.S
end
section
namespace Go.Proofs.Ythfkgnkojhocbaa.S
def quarrellaw20_ScriptWrites.Pure : Prop := ∀ (x0 : S34), WF34 x0 → ∃ k, quarrellaw20_ScriptWrites.f k x0.f0.f0 x0.f0.f1 x0.f0.f2 x0.f0.f3 x0.f0.f4 x0.f0.f5 x0.f1 x0.f2 x0.f3 x0.f4 = some true
end Go.Proofs.Ythfkgnkojhocbaa.S
end
section
namespace Go.Proofs.Ythfkgnkojhocbaa.Pure
open Go.RowKit Go.Proofs.Ythfkgnkojhocbaa.S Go.Proofs.YthfkgnkojhocbaaW.PrintWords Go.Proofs.YthfkgnkojhocbaaW.PrintLast
set_option linter.unusedVariables false
theorem ScriptWrites : quarrellaw20_ScriptWrites.Pure := by
  intro x hwf
  obtain ⟨c, f, d, a, p⟩ := x
  obtain ⟨k, hk⟩ : ∃ k : Nat, k = 3000000 := ⟨_, rfl⟩
  refine ⟨k, ?_⟩
  simp only
  unfold quarrellaw20_ScriptWrites.f quarrellaw20_Of.f script_Ok.f
  rw [alive_f k (by omega), Option.bind_some, if_pos rfl]
  obtain ⟨b, hb, hs⟩ := great_f c.f0 c.f1 c.f2 c.f3 c.f4 c.f5 f d a p k (by omega)
  rw [hb, Option.bind_some]
  cases b with
  | true => rw [if_pos rfl]
  | false =>
    have hs := hs rfl
    rw [if_neg (by simp), refOkS_f c f d a p hs k (by omega), Option.bind_some, Option.bind_some]
    simp only
    rw [put_f c f d a p hs.fit k (by omega), Option.bind_some, Option.bind_some, Option.bind_some, if_neg (by simp)]
    by_cases h : okS c f d a p = true
    · rw [if_pos h, if_pos h, if_pos rfl, refPut_f c f d a p hs.fit ((okS_iff c f d a p).1 h) k (by omega), Option.bind_some, same_str]
    · rw [if_neg h, if_neg h]
      rfl
end Go.Proofs.Ythfkgnkojhocbaa.Pure
end
section
namespace Go.Proofs.Ythfkgnkojhocbaa.scriptWrites
open Go.ChangeShapes Go.WideShapes Go.ChangeAt Go.RowKit Go.Proofs.Ythfkgnkojhocbaa.Opens Go.Proofs.Ythfkgnkojhocbaa.S Go.Proofs.YthfkgnkojhocbaaW.PrintWords
set_option linter.unusedVariables false
theorem own : ownKnob Try.prog.godebug = none := by kernel_rfl
theorem laidOut : laidOutB Try.prog = true := by kernel_rfl
set_option maxRecDepth 100000 in
theorem lifted (os : Os) (started : os.Started) (H : Type) (enc : TypeId × Value → H) :
    ReturnsInHanded {} Try.checked os 4 .any (Rows.scriptWritesSpec.pre6 enc Try.prog Try.f4 Rows.scriptWritesRow.domain false) (Rows.scriptWritesSpec.post enc Try.prog Try.f4 false true false false) := by
  refine returnsInHanded_of_change_sized (C := Try.checked) own started (by kernel_rfl) Try.func4
    (ChangeSpec.witness6 (enc := enc) (C := Try.checked) false ⟨#[], #[.agg #[.int .i64 0, .int .i64 0, .int .i64 0, .int .i64 0, .int .i64 0, .int .i64 0, .slice none 0 0, .slice none 0 0, .slice none 0 0, .slice none 0 0]], []⟩ 8 (by kernel_rfl) (by kernel_rfl) (by kernel_rfl) (by kernel_rfl)) ?_
  intro W base args ds gs before hval0 hW hcnd hsz0 _
  have hval : ∀ (j : Nat) t v, Try.f4.params[j]? = some t → args[j]? = some v → Value.okWide Try.prog W .any base t v := hval0
  have hW' := hW
  obtain ⟨p, q, hA0, hV, rfl, hfz, hnd⟩ := hW
  have hA : DataW.TrodAll enc Try.prog W 0 (fun _ => true) true Try.f4.params.toList args.toList ds p := hA0
  rw [Try.params4] at hA hval
  obtain ⟨v0, vs0, d0, ds0, p0, q0, hargs, rfl, rfl, h0, r0⟩ := trodAll_cons hA
  obtain ⟨rfl, rfl, rfl⟩ := trodAll_nil r0
  obtain rfl : args = #[v0] := by cases args; simp_all
  obtain ⟨rfl, rfl⟩ := trodVars_none hV
  obtain ⟨cs0, rfl, hcs0⟩ := okWide_struct Try.underlying34 (hval 0 34 v0 rfl rfl)
  have k0 := h0
  have lt0 : ∀ x ∈ p0, x.block < W.heap.size := by obtain ⟨m, hm⟩ := k0; exact DataW.trod_lt m _ _ _ hm
  obtain ⟨x0, hk0, hq0⟩ := Opens.arg open34 h0
  simp only [Value.cells] at hk0
  obtain ⟨A0_6, c0_6, A0_7, c0_7, A0_8, c0_8, A0_9, c0_9, e0, hY0_6, hZ0_6, hY0_7, hZ0_7, hY0_8, hZ0_8, hY0_9, hZ0_9⟩ := k34_open hk0
  obtain ⟨cs0⟩ := cs0
  simp only at e0
  subst e0
  clear hA0 hval0 hsz0
  obtain ⟨k, hP⟩ := Pure.ScriptWrites x0 hq0
  refine (quarrellaw20_ScriptWrites.calls k x0.f0.f0 x0.f0.f1 x0.f0.f2 x0.f0.f3 x0.f0.f4 x0.f0.f5 _ _ x0.f1 _ _ x0.f2 _ _ x0.f3 _ _ x0.f4 true W hZ0_6 hY0_6 hZ0_7 hY0_7 hZ0_8 hY0_8 hZ0_9 hY0_9 hP).mono fun e W' ⟨he, bel0⟩ => ?_
  have bel : Below W.heap.size W W' := by first | exact bel0 | exact bel0.below
  subst he
  exact ⟨_, rfl, _, _, _, [], _, [], hW', trodAll_mk1 (shut_bool Try.underlying4 _), (trodAll_cons_mk (Below.trod laidOut (by kernel_rfl) (of_decide_eq_true (by kernel_rfl)) k0 bel lt0) trodAll_mk0), rfl, bel.frame _, fun h => by cases h⟩
theorem over : Rows.scriptWritesRow.holds Try.pinned (OpenSpec.ofChange Rows.scriptWritesSpec) :=
  OpenClaim.holds_of_wide 4 Try.f4 rfl rfl rfl rfl rfl rfl rfl ⟨rfl, rfl, rfl, rfl, rfl⟩ rfl rfl rfl rfl rfl (by kernel_rfl) Try.func4 (by kernel_rfl)
    (of_decide_eq_true (by kernel_rfl)) (by unfold Func.isWrapper; first | (rw [if_pos (by decide +kernel)]; kernel_rfl) | (rw [if_neg (by decide +kernel)]; exact ⟨rfl, rfl⟩))
    (fun os started H enc _ => lifted os started H enc)
theorem proved : Rows.ScriptWritesSaid := over
#print axioms proved
end Go.Proofs.Ythfkgnkojhocbaa.scriptWrites
namespace Go.Proofs.Ythfkgnkojhocbaa
/-- The row, under a short name, for the claim. -/
theorem scriptWrites_holds : Rows.ScriptWritesSaid := scriptWrites.proved
end Go.Proofs.Ythfkgnkojhocbaa
end
