/- Part 6 of the proof of scriptCut_holds. Conditions stand in each theorem; nothing is assumed. Gathered by a program of this session out of its texts and the kit's words. -/
import Derived.Test.YthfkgnkojhocbaaZC5
import Derived.Deep.Slices
import Derived.Deep.Fields
import Derived.ChangeSame
import Derived.ChangeArms
import Derived.KernelRfl
import Derived.Test.YthfkgnkojhocbaaRows
import Derived.WalkKit
import Derived.ProofKit
import Derived.OpenShut
import Derived.ShutString
import Derived.ChangeOld
import Derived.Below
import Derived.SizedLaws
section
namespace Go.Proofs.Ythfkgnkojhocbaa.S
open Go Go.RowKit Go.Proofs.YthfkgnkojhocbaaW.PrintWords
set_option linter.unusedVariables false
set_option linter.unusedSimpArgs false
theorem langPut_l (os : List S80) (hl : os.length ≤ 20) : ∀ (d k i : Nat) (acc : List Int), i + d = os.length → d < k → acc.length + 3 * d ≤ 1000000 →
    lang_Put.l0 k acc os (os.length : Int) (i : Int) = some (acc ++ (os.drop i).flatMap opB) := by
  intro d
  induction d with
  | zero =>
    intro k i acc hi hk ha
    obtain ⟨k, rfl⟩ : ∃ m, k = m + 1 := ⟨k - 1, by omega⟩
    rw [lang_Put.l0, if_neg (show ¬ ((i : Int) < (os.length : Int)) by omega), List.drop_eq_nil_of_le (by omega)]
    simp
  | succ d ih =>
    intro k i acc hi hk ha
    obtain ⟨k, rfl⟩ : ∃ m, k = m + 1 := ⟨k - 1, by omega⟩
    have hi' : i < os.length := by omega
    rw [lang_Put.l0, if_pos (show (i : Int) < (os.length : Int) by omega), if_pos (show (0 : Int) ≤ (i : Int) by omega), if_pos (show (i : Int) < (os.length : Int) by omega), rd80_at os i hi', Option.bind_some]
    have e3 : acc.length + [os[i].f0 % 256, os[i].f1 % 256, os[i].f2 % 256].length < 140737488355328 := by simp only [List.length_cons, List.length_nil]; omega
    simp only [e3, ↓reduceIte]
    rw [wrap_succ (by omega), ih k (i + 1) _ (by omega) (by omega) (by simp only [List.length_append, List.length_cons, List.length_nil]; omega), List.drop_eq_getElem_cons hi', List.flatMap_cons, List.append_assoc]
    rfl
theorem langPut_f (os : List S80) (hl : os.length ≤ 20) (k : Nat) (hk : 30 < k) : lang_Put.f k os = some (os.flatMap opB) := by
  unfold lang_Put.f
  have h := langPut_l os hl os.length k 0 [] (by omega) (by omega) (by simp; omega)
  rw [show ((0 : Nat) : Int) = 0 from rfl] at h
  rw [h]
  simp
theorem opsLen (os : List S80) (h : os.length ≤ 20) : (os.flatMap opB).length ≤ 60 := by rw [opsB_len]; omega
section
variable (x0 x1 x2 x3 x4 x5 : Int) (f d : List Int) (al : List (List (List S80))) (p : List Int)
theorem put_l3 (hp : p.length ≤ 3000) : ∀ (e k i : Nat) (acc : List Int), i + e = p.length → e < k → acc.length + e ≤ 1000000 →
    script_Put.l3 k acc p (p.length : Int) (i : Int) = some (acc ++ (p.drop i).map (· % 256), 0) := by
  intro e
  induction e with
  | zero =>
    intro k i acc hi hk ha
    obtain ⟨k, rfl⟩ : ∃ m, k = m + 1 := ⟨k - 1, by omega⟩
    rw [script_Put.l3, if_neg (show ¬ ((i : Int) < (p.length : Int)) by omega), List.drop_eq_nil_of_le (by omega)]
    simp
  | succ e ih =>
    intro k i acc hi hk ha
    obtain ⟨k, rfl⟩ : ∃ m, k = m + 1 := ⟨k - 1, by omega⟩
    have hi' : i < p.length := by omega
    have hr : rd p (i : Int) = p[i] := by rw [rd_at]; simp [hi']
    have hb : acc.length < 140737488355328 := by omega
    rw [script_Put.l3, if_pos (show (i : Int) < (p.length : Int) by omega), if_pos (show (0 : Int) ≤ (i : Int) by omega), if_pos (show (i : Int) < (p.length : Int) by omega), hr]
    simp only [hb, ↓reduceIte]
    rw [wrap_succ (by omega), ih k (i + 1) _ (by omega) (by omega) (by simp only [List.length_append, List.length_cons, List.length_nil]; omega), List.drop_eq_getElem_cons hi', List.map_cons, List.append_assoc]
    rfl
theorem put_l2 (i : Nat) (t : List (List S80)) (hF : Few t) (B : Nat) (hB : 40 ≤ B) (R : List Int) (N : Nat)
    (H : ∀ k acc, B < k → acc.length ≤ N → script_Put.l1 k acc al (al.length : Int) ((i + 1 : Nat) : Int) x0 x1 x2 x3 x4 x5 f d al p = some (acc ++ R, 0)) (hi : i < 1000) (hN : N ≤ 900000) :
    ∀ (e k j : Nat) (acc : List Int), j + e = t.length → e + 1 + B < k → acc.length + 61 * e ≤ N →
    script_Put.l2 k acc al (al.length : Int) (i : Int) t (t.length : Int) (j : Int) x0 x1 x2 x3 x4 x5 f d al p = some (acc ++ ((t.drop j).flatMap encT ++ R), 0) := by
  have h20 := hF.1
  intro e
  induction e with
  | zero =>
    intro k j acc hj hk ha
    obtain ⟨k, rfl⟩ : ∃ m, k = m + 1 := ⟨k - 1, by omega⟩
    rw [script_Put.l2, if_neg (show ¬ ((j : Int) < (t.length : Int)) by omega), List.drop_eq_nil_of_le (by omega), wrap_succ (by omega), H k acc (by omega) (by omega)]
    simp
  | succ e ih =>
    intro k j acc hj hk ha
    obtain ⟨k, rfl⟩ : ∃ m, k = m + 1 := ⟨k - 1, by omega⟩
    have hj' : j < t.length := by omega
    have hO := hF.2 t[j] (List.getElem_mem hj')
    have hoL := opsLen t[j] hO
    have hb : acc.length < 140737488355328 := by omega
    have hb2 : (acc ++ [(t[j].length : Int) % 256]).length + (t[j].flatMap opB).length < 140737488355328 := by simp only [List.length_append, List.length_cons, List.length_nil]; omega
    rw [script_Put.l2, if_pos (show (j : Int) < (t.length : Int) by omega), if_pos (show (0 : Int) ≤ (j : Int) by omega), if_pos (show (j : Int) < (t.length : Int) by omega), rd6_at t j hj']
    simp only [hb, ↓reduceIte]
    rw [Option.bind_some, langPut_f t[j] hO k (by omega), Option.bind_some]
    simp only [hb2, ↓reduceIte]
    rw [wrap_succ (by omega), ih k (j + 1) _ (by omega) (by omega) (by simp only [List.length_append, List.length_cons, List.length_nil]; omega), List.drop_eq_getElem_cons hj', List.flatMap_cons]
    congr 2
    unfold encT
    simp
set_option maxRecDepth 100000 in
theorem put_l1 (hp : p.length ≤ 3000) (hd : d.length ≤ 3000) (ha : al.length ≤ 10) (hf : ∀ t ∈ al, Few t) : ∀ (e k i : Nat) (acc : List Int), i + e = al.length → 100 * e + 4000 < k → acc.length + 1300 * e ≤ 20000 →
    script_Put.l1 k acc al (al.length : Int) (i : Int) x0 x1 x2 x3 x4 x5 f d al p = some (acc ++ ((al.drop i).flatMap encA ++ ((d.length : Int) % 256 :: (d ++ p.map (· % 256)))), 0) := by
  intro e
  induction e with
  | zero =>
    intro k i acc hi hk hL
    obtain ⟨k, rfl⟩ : ∃ m, k = m + 1 := ⟨k - 1, by omega⟩
    have hb : acc.length < 140737488355328 := by omega
    have hb2 : (acc ++ [(d.length : Int) % 256]).length + d.length < 140737488355328 := by simp only [List.length_append, List.length_cons, List.length_nil]; omega
    rw [script_Put.l1, if_neg (show ¬ ((i : Int) < (al.length : Int)) by omega), List.drop_eq_nil_of_le (by omega)]
    simp only [hb, ↓reduceIte]
    rw [Option.bind_some]
    simp only [hb2, ↓reduceIte]
    have := put_l3 p hp p.length k 0 (acc ++ [(d.length : Int) % 256] ++ d) (by omega) (by omega) (by simp only [List.length_append, List.length_cons, List.length_nil]; omega)
    rw [show ((0 : Nat) : Int) = 0 from rfl] at this
    rw [this]
    simp
  | succ e ih =>
    intro k i acc hi hk hL
    obtain ⟨k, rfl⟩ : ∃ m, k = m + 1 := ⟨k - 1, by omega⟩
    have hi' : i < al.length := by omega
    have hF := hf al[i] (List.getElem_mem hi')
    have h20 := hF.1
    have hb : acc.length < 140737488355328 := by omega
    rw [script_Put.l1, if_pos (show (i : Int) < (al.length : Int) by omega), if_pos (show (0 : Int) ≤ (i : Int) by omega), if_pos (show (i : Int) < (al.length : Int) by omega), rd7_at al i hi']
    simp only [hb, ↓reduceIte]
    have := put_l2 x0 x1 x2 x3 x4 x5 f d al p i al[i] hF (100 * e + 4000) (by omega) ((al.drop (i + 1)).flatMap encA ++ ((d.length : Int) % 256 :: (d ++ p.map (· % 256)))) (20000 - 1300 * e)
      (fun k acc hk hN => ih k (i + 1) acc (by omega) hk (by omega)) (by omega) (by omega) al[i].length k 0 (acc ++ [(al[i].length : Int) % 256]) (by omega) (by omega) (by simp only [List.length_append, List.length_cons, List.length_nil]; omega)
    rw [show ((0 : Nat) : Int) = 0 from rfl, List.drop_zero] at this
    rw [this, List.drop_eq_getElem_cons hi', List.flatMap_cons]
    congr 2
    unfold encA
    simp
theorem put_l0 (hl : f.length ≤ 20) (hp : p.length ≤ 3000) (hd : d.length ≤ 3000) (ha : al.length ≤ 10) (hf : ∀ t ∈ al, Few t) : ∀ (e k i : Nat) (acc : List Int), i + e = f.length → e + 6000 < k → acc.length + e ≤ 1000 →
    script_Put.l0 k acc f (f.length : Int) (i : Int) x0 x1 x2 x3 x4 x5 f d al p = some (acc ++ ((f.drop i).map (· % 256) ++ (al.flatMap encA ++ ((d.length : Int) % 256 :: (d ++ p.map (· % 256))))), 0) := by
  intro e
  induction e with
  | zero =>
    intro k i acc hi hk hL
    obtain ⟨k, rfl⟩ : ∃ m, k = m + 1 := ⟨k - 1, by omega⟩
    have := put_l1 x0 x1 x2 x3 x4 x5 f d al p hp hd ha hf al.length k 0 acc (by omega) (by omega) (by omega)
    rw [show ((0 : Nat) : Int) = 0 from rfl, List.drop_zero] at this
    rw [script_Put.l0, if_neg (show ¬ ((i : Int) < (f.length : Int)) by omega), List.drop_eq_nil_of_le (by omega), this]
    simp
  | succ e ih =>
    intro k i acc hi hk hL
    obtain ⟨k, rfl⟩ : ∃ m, k = m + 1 := ⟨k - 1, by omega⟩
    have hi' : i < f.length := by omega
    have hr : rd f (i : Int) = f[i] := by rw [rd_at]; simp [hi']
    have hb : acc.length < 140737488355328 := by omega
    rw [script_Put.l0, if_pos (show (i : Int) < (f.length : Int) by omega), if_pos (show (0 : Int) ≤ (i : Int) by omega), if_pos (show (i : Int) < (f.length : Int) by omega), hr]
    simp only [hb, ↓reduceIte]
    rw [wrap_succ (by omega), ih k (i + 1) _ (by omega) (by omega) (by simp only [List.length_append, List.length_cons, List.length_nil]; omega), List.drop_eq_getElem_cons hi', List.map_cons]
    simp
end
/-- What few enough holds besides: scripts that were got. -/
structure Fit (f d : List Int) (al : List (List (List S80))) (p : List Int) : Prop where
  f : f.length ≤ 20
  d : d.length ≤ 3000
  a : al.length ≤ 10
  t : ∀ t ∈ al, Few t
  p : p.length ≤ 3000
/-- script.Put. -/
theorem put_f (c : S25) (f d : List Int) (al : List (List (List S80))) (p : List Int) (hs : Fit f d al p) (k : Nat) (hk : 2000000 < k) :
    script_Put.f k c.f0 c.f1 c.f2 c.f3 c.f4 c.f5 f d al p = some (if okS c f d al p = true then (putF c f d al p, 0) else ([], 1)) := by
  have hlf := hs.f
  unfold script_Put.f script_Ok.f
  rw [Option.bind_some]
  by_cases h : okS c f d al p = true
  · rw [if_pos h, if_pos h]
    have := put_l0 c.f0 c.f1 c.f2 c.f3 c.f4 c.f5 f d al p hs.f hs.p hs.d hs.a hs.t f.length k 0 (head7 c) (by omega) (by omega) (by simp [head7]; omega)
    rw [show ((0 : Nat) : Int) = 0 from rfl, List.drop_zero] at this
    exact this
  · rw [if_neg h, if_neg h]
section
variable (x0 x1 x2 x3 x4 x5 : Int) (f d : List Int) (al : List (List (List S80))) (p : List Int)
end
end Go.Proofs.Ythfkgnkojhocbaa.S
end
section
namespace Go.Proofs.Ythfkgnkojhocbaa.Opens
open Go.RowKit Go.Proofs.YthfkgnkojhocbaaW.PrintWords
/-- Whatever reads as a datum of the type t is a value of the kind d of which Q holds. -/
def Opens {α : Type} (P : Program) (t : TypeId) (d : Kd α) (Q : α → Prop) : Prop :=
  ∀ (H : Type) (enc : TypeId × Value → H) (w : World) (base : Nat) (spare : Nat → Bool) (held : Bool) (fuel : Nat) (cs : List Value) (x : DataW H × List MemPlace),
    DataW.trod enc P w base spare held fuel t cs = some x → ∃ a, d.K w a cs ∧ Q a
theorem Opens.imp {α : Type} {P : Program} {t : TypeId} {d : Kd α} {Q Q' : α → Prop} (h : Opens P t d Q) (hq : ∀ a, Q a → Q' a) : Opens P t d Q' := by
  intro H enc w base spare held fuel cs x hx
  obtain ⟨a, hk, ha⟩ := h H enc w base spare held fuel cs x hx
  exact ⟨a, hk, hq a ha⟩
theorem Opens.int {P : Program} {t : TypeId} {k : IntKind} (ht : P.underlying t = some (.int k)) : Opens P t (Kd.int k) (fun a => (Lit.int k a).wf = true) := by
  intro H enc w base spare held fuel cs x hx
  obtain ⟨n, rfl, _, hw⟩ := DataW.trod_int ht hx
  exact ⟨n, rfl, hw⟩
theorem Opens.bool {P : Program} {t : TypeId} (ht : P.underlying t = some .bool) : Opens P t Kd.bool (fun _ => True) := by
  intro H enc w base spare held fuel cs x hx
  obtain ⟨n, rfl, _⟩ := DataW.trod_bool ht hx
  exact ⟨n, rfl, trivial⟩
theorem Opens.iso {α β : Type} {P : Program} {t : TypeId} {d : Kd α} {Q : α → Prop} (h : Opens P t d Q) (f : β → α) (g : α → β) (hfg : ∀ a, f (g a) = a) : Opens P t (Kd.iso d f) (fun b => Q (f b)) := by
  intro H enc w base spare held fuel cs x hx
  obtain ⟨a, hk, hq⟩ := h H enc w base spare held fuel cs x hx
  exact ⟨g a, by show d.K w (f (g a)) cs; rw [hfg]; exact hk, by show Q (f (g a)); rw [hfg]; exact hq⟩
theorem list_of {α : Type} {p : Nat → α → Prop} : ∀ n : Nat, (∀ i, i < n → ∃ a, p i a) → ∃ l : List α, l.length = n ∧ ∀ i (hi : i < l.length), p i l[i]
  | 0, _ => ⟨[], rfl, fun i hi => absurd hi (Nat.not_lt_zero i)⟩
  | n + 1, h => by
    obtain ⟨l, hl, hp⟩ := list_of n (fun i hi => h i (by omega))
    obtain ⟨a, ha⟩ := h n (by omega)
    refine ⟨l ++ [a], by simp [hl], fun i hi => ?_⟩
    rcases Nat.lt_or_ge i l.length with hlt | hge
    · rw [List.getElem_append_left hlt]; exact hp i hlt
    · have : i = n := by simp at hi; omega
      subst this
      rw [List.getElem_append_right (by omega)]
      simpa [hl] using ha
theorem add_add' (a : Addr) (i j : Nat) : (a.add i).add j = a.add (i + j) := by
  unfold Addr.add
  by_cases hi : i = 0 <;> by_cases hj : j = 0 <;> simp [hi, hj, Nat.add_assoc]
theorem Opens.slice {α : Type} {P : Program} {t e : TypeId} {d : Kd α} {Q : α → Prop} (ht : P.underlying t = some (.slice e)) (hs : P.cellsOf e = d.sz) (hd : Opens P e d Q) :
    Opens P t (Kd.slice e d) (fun l => ∀ a ∈ l, Q a) := by
  intro H enc w base spare held fuel cs x hx
  rcases Go.Deep.open_slice ht hx with ⟨rfl, _⟩ | ⟨a, len, cap, m, n, D, Pl, rfl, _, hl, hm, hmm, _, hi⟩
  · exact ⟨[], ⟨none, 0, rfl, by simp, rfl, by simp, fun h => absurd h (Nat.lt_irrefl 0)⟩, by simp⟩
  · have hlm : len ≤ m := by rw [hmm]; split <;> omega
    obtain ⟨l, hll, hp⟩ := list_of (p := fun i (v : α) => Q v ∧ ∃ c, c.length = d.sz ∧ d.K w v c ∧ ∀ j u, c[j]? = some u → w.cell? (a.add (i * d.sz + j)) = some u) len (fun i hil => by
      obtain ⟨cs', hc, ht'⟩ := hi i (by omega)
      rw [hs] at hc
      obtain ⟨_, hcl, hat⟩ := World.cells?_some hc
      obtain ⟨v, hk, hq⟩ := hd H enc w base spare held n cs' _ ht'
      refine ⟨v, hq, cs', hcl, hk, fun j u hu => ?_⟩
      have hjl : j < d.sz := by rw [← hcl]; exact (List.getElem?_eq_some_iff.1 hu).1
      rw [← add_add', hat j hjl, hu])
    refine ⟨l, ⟨some a, cap, by rw [hll], by omega, rfl, ?_, fun _ => ⟨a, rfl, fun j p hj => ?_⟩⟩, fun v hv => ?_⟩
    · simp only [maxLen] at hm; omega
    · obtain ⟨hjl, rfl⟩ := List.getElem?_eq_some_iff.1 hj
      exact (hp j hjl).2
    · obtain ⟨i, hil, rfl⟩ := List.getElem_of_mem hv
      exact (hp i hil).1
/-- The fields of a struct from place j on: their cells begin at off. -/
def OpensAt {α : Type} (P : Program) (fs : Array Field) (tot _j off : Nat) (d : Kd α) (Q : α → Prop) : Prop :=
  ∀ (H : Type) (enc : TypeId × Value → H) (w : World) (base : Nat) (spare : Nat → Bool) (held : Bool) (n : Nat) (cs : List Value) (xs : List (DataW H × List MemPlace)), cs.length = tot → xs.length = fs.size →
    (∀ (i : Nat) (f : Field), fs[i]? = some f → DataW.trod enc P w base spare held n f.type ((cs.drop f.offset).take (P.cellsOf f.type)) = xs[i]?) → ∃ a, d.K w a (cs.drop off) ∧ Q a
theorem OpensAt.last {α : Type} {P : Program} {fs : Array Field} {tot j off : Nat} {d : Kd α} {Q : α → Prop} (f : Field) (hf : fs[j]? = some f) (ho : f.offset = off) (hc : off + P.cellsOf f.type = tot)
    (h : Opens P f.type d Q) : OpensAt P fs tot j off d Q := by
  intro H enc w base spare held n cs xs hl hx hg
  have hj : j < xs.length := by rw [hx]; exact (Array.getElem?_eq_some_iff.1 hf).1
  obtain ⟨a, hk, hq⟩ := h H enc w base spare held n _ _ ((hg j f hf).trans (List.getElem?_eq_getElem hj))
  rw [ho, List.take_of_length_le (by rw [List.length_drop]; omega)] at hk
  exact ⟨a, hk, hq⟩
theorem OpensAt.cons {α β : Type} {P : Program} {fs : Array Field} {tot j off off' : Nat} {d : Kd α} {d' : Kd β} {Q : α → Prop} {Q' : β → Prop} (f : Field) (hf : fs[j]? = some f) (ho : f.offset = off) (hc : off + P.cellsOf f.type = off')
    (h : Opens P f.type d Q) (h' : OpensAt P fs tot (j + 1) off' d' Q') : OpensAt P fs tot j off (Kd.pair d d') (fun p => Q p.1 ∧ Q' p.2) := by
  intro H enc w base spare held n cs xs hl hx hg
  have hj : j < xs.length := by rw [hx]; exact (Array.getElem?_eq_some_iff.1 hf).1
  obtain ⟨a, hk, hq⟩ := h H enc w base spare held n _ _ ((hg j f hf).trans (List.getElem?_eq_getElem hj))
  obtain ⟨b, hk', hq'⟩ := h' H enc w base spare held n cs xs hl hx hg
  rw [ho] at hk
  refine ⟨(a, b), ⟨_, _, ?_, hk, hk'⟩, hq, hq'⟩
  rw [← hc, ← List.drop_drop, List.take_append_drop]
theorem Opens.struct {α : Type} {P : Program} {t : TypeId} {fs : Array Field} {tot : Nat} {d : Kd α} {Q : α → Prop} (ht : P.underlying t = some (.struct fs)) (hc : P.cellsOf t = tot) (h : OpensAt P fs tot 0 0 d Q) : Opens P t d Q := by
  intro H enc w base spare held fuel cs x hx
  obtain ⟨xs, n, _, _, hl, hxl, hg⟩ := DataW.trod_struct ht hx
  obtain ⟨a, hk, hq⟩ := h H enc w base spare held n cs xs (hl.trans hc) hxl hg
  exact ⟨a, by simpa using hk, hq⟩
/-- An argument, as a row has it. -/
theorem Opens.arg {α : Type} {P : Program} {t : TypeId} {d : Kd α} {Q : α → Prop} (h : Opens P t d Q) {H : Type} {enc : TypeId × Value → H} {w : World} {base : Nat} {spare : Nat → Bool} {held : Bool} {v : Value} {x : DataW H} {p : List MemPlace}
    (hx : DataW.Trod enc P w base spare held t v x p) : ∃ a, d.K w a v.cells.toList ∧ Q a := by
  obtain ⟨fuel, hf⟩ := hx
  exact h H enc w base spare held fuel _ _ hf
end Go.Proofs.Ythfkgnkojhocbaa.Opens
end
section
namespace Go.Proofs.Ythfkgnkojhocbaa.S
open Go.RowKit Go.Proofs.YthfkgnkojhocbaaW.PrintWords Go.Proofs.Ythfkgnkojhocbaa.Opens
def WF25 (x : S25) : Prop := (Lit.int .i64 x.f0).wf = true ∧ (Lit.int .i64 x.f1).wf = true ∧ (Lit.int .i64 x.f2).wf = true ∧ (Lit.int .i64 x.f3).wf = true ∧ (Lit.int .i64 x.f4).wf = true ∧ (Lit.int .i64 x.f5).wf = true
theorem open25 : Opens Try.prog 25 k25 WF25 := (Opens.iso (Opens.struct (tot := 6) Try.underlying25 (by kernel_rfl) (OpensAt.cons (off' := 1) _ rfl rfl (by kernel_rfl) (Opens.int (k := .i64) Try.underlying3) (OpensAt.cons (off' := 2) _ rfl rfl (by kernel_rfl) (Opens.int (k := .i64) Try.underlying3) (OpensAt.cons (off' := 3) _ rfl rfl (by kernel_rfl) (Opens.int (k := .i64) Try.underlying3) (OpensAt.cons (off' := 4) _ rfl rfl (by kernel_rfl) (Opens.int (k := .i64) Try.underlying3) (OpensAt.cons (off' := 5) _ rfl rfl (by kernel_rfl) (Opens.int (k := .i64) Try.underlying3) (OpensAt.last _ rfl rfl (by kernel_rfl) (Opens.int (k := .i64) Try.underlying3)))))))) (fun x : S25 => (x.f0, x.f1, x.f2, x.f3, x.f4, x.f5)) (fun p => ⟨p.1, p.2.1, p.2.2.1, p.2.2.2.1, p.2.2.2.2.1, p.2.2.2.2.2⟩) (fun _ => rfl)).imp (fun _ h => h)
def WF80 (x : S80) : Prop := (Lit.int .i64 x.f0).wf = true ∧ (Lit.int .i64 x.f1).wf = true ∧ (Lit.int .i64 x.f2).wf = true
theorem open80 : Opens Try.prog 80 k80 WF80 := (Opens.iso (Opens.struct (tot := 3) Try.underlying80 (by kernel_rfl) (OpensAt.cons (off' := 1) _ rfl rfl (by kernel_rfl) (Opens.int (k := .i64) Try.underlying3) (OpensAt.cons (off' := 2) _ rfl rfl (by kernel_rfl) (Opens.int (k := .i64) Try.underlying3) (OpensAt.last _ rfl rfl (by kernel_rfl) (Opens.int (k := .i64) Try.underlying2))))) (fun x : S80 => (x.f0, x.f1, x.f2)) (fun p => ⟨p.1, p.2.1, p.2.2⟩) (fun _ => rfl)).imp (fun _ h => h)
def WF34 (x : S34) : Prop := WF25 x.f0 ∧ (∀ a0 ∈ x.f1, (Lit.int .i64 a0).wf = true) ∧ (∀ a0 ∈ x.f2, (Lit.int .u8 a0).wf = true) ∧ (∀ a0 ∈ x.f3, (∀ a1 ∈ a0, (∀ a2 ∈ a1, WF80 a2))) ∧ (∀ a0 ∈ x.f4, (Lit.int .i64 a0).wf = true)
theorem open34 : Opens Try.prog 34 k34 WF34 := (Opens.iso (Opens.struct (tot := 10) Try.underlying34 (by kernel_rfl) (OpensAt.cons (off' := 6) _ rfl rfl (by kernel_rfl) open25 (OpensAt.cons (off' := 7) _ rfl rfl (by kernel_rfl) (Opens.slice Try.underlying26 (by kernel_rfl) (Opens.int (k := .i64) Try.underlying2)) (OpensAt.cons (off' := 8) _ rfl rfl (by kernel_rfl) (Opens.slice Try.underlying22 (by kernel_rfl) (Opens.int (k := .u8) Try.underlying5)) (OpensAt.cons (off' := 9) _ rfl rfl (by kernel_rfl) (Opens.slice Try.underlying27 (by kernel_rfl) (Opens.slice Try.underlying60 (by kernel_rfl) (Opens.slice Try.underlying61 (by kernel_rfl) open80))) (OpensAt.last _ rfl rfl (by kernel_rfl) (Opens.slice Try.underlying28 (by kernel_rfl) (Opens.int (k := .i64) Try.underlying3)))))))) (fun x : S34 => (x.f0, x.f1, x.f2, x.f3, x.f4)) (fun p => ⟨p.1, p.2.1, p.2.2.1, p.2.2.2.1, p.2.2.2.2⟩) (fun _ => rfl)).imp (fun _ h => h)
end Go.Proofs.Ythfkgnkojhocbaa.S
end
section
namespace Go.Proofs.Ythfkgnkojhocbaa.S
def quarrellaw20_ScriptCut.Pure : Prop := ∀ (x0 : S34) (a1 : Int) (l2 : List Int), WF34 x0 → (Lit.int .u16 a1).wf = true → l2.length ≤ 9223372036854775807 → (∀ a0 ∈ l2, (Lit.int .u8 a0).wf = true) → ∃ k, quarrellaw20_ScriptCut.f k x0.f0.f0 x0.f0.f1 x0.f0.f2 x0.f0.f3 x0.f0.f4 x0.f0.f5 x0.f1 x0.f2 x0.f3 x0.f4 a1 l2 = some true
end Go.Proofs.Ythfkgnkojhocbaa.S
end
section
namespace Go.Proofs.Ythfkgnkojhocbaa.Pure
open Go.RowKit Go.Proofs.Ythfkgnkojhocbaa.S Go.Proofs.YthfkgnkojhocbaaW.PrintWords Go.Proofs.YthfkgnkojhocbaaW.PrintLast
set_option linter.unusedVariables false
theorem cut_l0 (l : List Int) (hb : isB l) (hm : l.length ≤ 1000) (x0 x1 x2 x3 x4 x5 : Int) (f d : List Int) (al : List (List (List S80))) : ∀ (e k i : Nat), i + e = l.length → e < k →
    quarrellaw20_ScriptCut.l0 k l (i : Int) x0 x1 x2 x3 x4 x5 f d al l = some true := by
  intro e
  induction e with
  | zero =>
    intro k i hi hk
    obtain ⟨k, rfl⟩ : ∃ m, k = m + 1 := ⟨k - 1, by omega⟩
    rw [quarrellaw20_ScriptCut.l0, if_neg (show ¬ ((i : Int) < (l.length : Int)) by omega)]
  | succ e ih =>
    intro k i hi hk
    obtain ⟨k, rfl⟩ : ∃ m, k = m + 1 := ⟨k - 1, by omega⟩
    have ba := isB_at hb i
    rw [quarrellaw20_ScriptCut.l0, if_pos (show (i : Int) < (l.length : Int) by omega), if_pos (show (0 : Int) ≤ (i : Int) by omega), if_pos (show (i : Int) < (l.length : Int) by omega), rd_at, wrap_id (n := l.getD i 0) (by omega), if_pos rfl, wrap_succ (by omega)]
    exact ih k (i + 1) (by omega) (by omega)
theorem ScriptCut : quarrellaw20_ScriptCut.Pure := by
  intro x n l hwf hn hl hw
  have hd : isB x.f2 := u8_isB hwf.2.2.1
  have hbl := u8_isB hw
  have hn0 : 0 ≤ n ∧ n ≤ 65535 := by
    simp [Lit.wf, IntKind.min, IntKind.max, IntKind.signed, IntKind.bits] at hn
    omega
  obtain ⟨c, f, d, a, p⟩ := x
  obtain ⟨k, hk⟩ : ∃ k : Nat, k = 3000000 := ⟨_, rfl⟩
  obtain ⟨k', e⟩ : ∃ m, k = m + 1 := ⟨k - 1, by omega⟩
  obtain ⟨k2, e2⟩ : ∃ m, k' = m + 1 := ⟨k' - 1, by omega⟩
  obtain ⟨k3, e3⟩ : ∃ m, k2 = m + 1 := ⟨k2 - 1, by omega⟩
  obtain ⟨k4, e4⟩ : ∃ m, k3 = m + 1 := ⟨k3 - 1, by omega⟩
  refine ⟨k, ?_⟩
  simp only at hd ⊢
  unfold quarrellaw20_ScriptCut.f
  rw [alive_f k (by omega), Option.bind_some, if_pos rfl]
  obtain ⟨b, hb, hs⟩ := great_f c.f0 c.f1 c.f2 c.f3 c.f4 c.f5 f d a p k (by omega)
  have ht : quarrellaw20_ScriptCut.j0 k n l true c.f0 c.f1 c.f2 c.f3 c.f4 c.f5 f d a p = some true := by rw [e, quarrellaw20_ScriptCut.j0, if_pos rfl]
  rw [hb, Option.bind_some]
  cases b with
  | true => rw [if_pos rfl, ht]
  | false =>
    have hs := hs rfl
    rw [if_neg (by simp)]
    by_cases h : (l.length : Int) > 200
    · rw [decide_eq_true h, ht]
    · rw [decide_eq_false h, e, quarrellaw20_ScriptCut.j0, if_neg (by simp)]
      unfold quarrellaw20_Of.f
      rw [Option.bind_some]
      simp only
      have hsf : Fit f d a [] := ⟨hs.f, by have := hs.d; omega, hs.a, hs.t, by simp⟩
      rw [put_f c f d a [] hsf k' (by omega), Option.bind_some]
      by_cases ho : okS c f d a [] = true
      · have hO := (okS_iff c f d a []).1 ho
        obtain ⟨h8, hlen⟩ := put_len c f d a [] hs.f hsf.d hs.a hs.t (by simp)
        have hB := isB_put c f hd a []
        rw [if_pos ho, if_pos rfl, e2, quarrellaw20_ScriptCut.j1]
        generalize hP : putF c f d a [] = P at h8 hlen hB
        rw [if_neg (show ¬ (((P.length : Int) == 0) = true) by rw [beq_iff_eq]; omega), if_neg (show ¬ ((P.length : Int) = 0) by omega)]
        have hw : wrap64 n = n := wrap_id (by omega)
        obtain ⟨m, hm⟩ : ∃ m : Nat, Int.tmod n (P.length : Int) = m := ⟨(Int.tmod n (P.length : Int)).toNat, by rw [Int.tmod_eq_emod_of_nonneg (by omega)]; have := Int.emod_nonneg n (show (P.length : Int) ≠ 0 by omega); omega⟩
        have hm2 : m < P.length := by
          rw [Int.tmod_eq_emod_of_nonneg (by omega)] at hm
          have := Int.emod_lt_of_pos n (show (0 : Int) < (P.length : Int) by omega)
          omega
        rw [hw, hm, if_pos (show (0 : Int) ≤ (m : Int) by omega), if_pos (show (m : Int) ≤ (P.length : Int) by omega), Int.toNat_natCast]
        have hcut := get_cut hO hd (P.take m) (P.drop m) (by intro h; have := congrArg List.length h; simp at this; omega) (by rw [List.take_append_drop, hP])
        rw [getS_t _ (isB_take hB m) (by simp; omega) k2 _ _ _ hcut, Option.bind_some]
        have hlm : (P.take m).length = m := by simp; omega
        simp only
        rw [hlm, if_pos rfl]
        obtain ⟨at_, hg⟩ := get_put_more hO hd l
        rw [List.nil_append, hP] at hg
        have hlim : ([] : List Int).length + P.length < 140737488355328 := by simp; omega
        have hlim2 : P.length + l.length < 140737488355328 := by omega
        rw [e3, quarrellaw20_ScriptCut.j2, if_neg (by simp), Option.bind_some]
        simp only [hlim, ↓reduceIte]
        rw [Option.bind_some, List.nil_append]
        simp only [hlim2, ↓reduceIte]
        rw [getS_t _ (isB_app hB hbl) (by simp; omega) k3 _ _ _ hg, Option.bind_some]
        simp only [↓reduceIte]
        rw [e4, quarrellaw20_ScriptCut.j3, if_neg (by simp)]
        have := cut_l0 l hbl (by omega) c.f0 c.f1 c.f2 c.f3 c.f4 c.f5 f d a l.length k4 0 (by omega) (by omega)
        exact this
      · rw [if_neg ho, if_neg (by simp), e2, quarrellaw20_ScriptCut.j1, if_pos rfl]
        rfl
end Go.Proofs.Ythfkgnkojhocbaa.Pure
end
section
namespace Go.Proofs.Ythfkgnkojhocbaa.scriptCut
open Go.ChangeShapes Go.WideShapes Go.ChangeAt Go.RowKit Go.Proofs.Ythfkgnkojhocbaa.Opens Go.Proofs.Ythfkgnkojhocbaa.S Go.Proofs.YthfkgnkojhocbaaW.PrintWords
set_option linter.unusedVariables false
theorem own : ownKnob Try.prog.godebug = none := by kernel_rfl
theorem laidOut : laidOutB Try.prog = true := by kernel_rfl
set_option maxRecDepth 100000 in
theorem lifted (os : Os) (started : os.Started) (H : Type) (enc : TypeId × Value → H) :
    ReturnsInHanded {} Try.checked os 6 .any (Rows.scriptCutSpec.pre6 enc Try.prog Try.f6 Rows.scriptCutRow.domain false) (Rows.scriptCutSpec.post enc Try.prog Try.f6 false true false false) := by
  refine returnsInHanded_of_change_sized (C := Try.checked) own started (by kernel_rfl) Try.func6
    (ChangeSpec.witness6 (enc := enc) (C := Try.checked) false ⟨#[], #[.agg #[.int .i64 0, .int .i64 0, .int .i64 0, .int .i64 0, .int .i64 0, .int .i64 0, .slice none 0 0, .slice none 0 0, .slice none 0 0, .slice none 0 0], .int .u16 0, .slice none 0 0], []⟩ 8 (by kernel_rfl) (by kernel_rfl) (by kernel_rfl) (by kernel_rfl)) ?_
  intro W base args ds gs before hval0 hW hcnd hsz0 _
  have hval : ∀ (j : Nat) t v, Try.f6.params[j]? = some t → args[j]? = some v → Value.okWide Try.prog W .any base t v := hval0
  have hW' := hW
  obtain ⟨p, q, hA0, hV, rfl, hfz, hnd⟩ := hW
  have hA : DataW.TrodAll enc Try.prog W 0 (fun _ => true) true Try.f6.params.toList args.toList ds p := hA0
  rw [Try.params6] at hA hval
  obtain ⟨v0, vs0, d0, ds0, p0, q0, hargs, rfl, rfl, h0, r0⟩ := trodAll_cons hA
  obtain ⟨v1, vs1, d1, ds1, p1, q1, rfl, rfl, rfl, h1, r1⟩ := trodAll_cons r0
  obtain ⟨v2, vs2, d2, ds2, p2, q2, rfl, rfl, rfl, h2, r2⟩ := trodAll_cons r1
  obtain ⟨rfl, rfl, rfl⟩ := trodAll_nil r2
  obtain rfl : args = #[v0, v1, v2] := by cases args; simp_all
  obtain ⟨rfl, rfl⟩ := trodVars_none hV
  obtain ⟨cs0, rfl, hcs0⟩ := okWide_struct Try.underlying34 (hval 0 34 v0 rfl rfl)
  have k0 := h0
  have lt0 : ∀ x ∈ p0, x.block < W.heap.size := by obtain ⟨m, hm⟩ := k0; exact DataW.trod_lt m _ _ _ hm
  obtain ⟨x0, hk0, hq0⟩ := Opens.arg open34 h0
  simp only [Value.cells] at hk0
  obtain ⟨A0_6, c0_6, A0_7, c0_7, A0_8, c0_8, A0_9, c0_9, e0, hY0_6, hZ0_6, hY0_7, hZ0_7, hY0_8, hZ0_8, hY0_9, hZ0_9⟩ := k34_open hk0
  obtain ⟨cs0⟩ := cs0
  simp only at e0
  subst e0
  obtain ⟨a1, rfl, rfl, rfl, w1⟩ := open_int Try.underlying46 (hval 1 46 v1 rfl rfl) h1
  obtain ⟨a2, len2, cap2, rfl⟩ := okWide_slice Try.underlying22 (hval 2 22 v2 rfl rfl)
  have k2 := h2
  have lt2 : ∀ x ∈ p2, x.block < W.heap.size := by obtain ⟨m, hm⟩ := k2; exact DataW.trod_lt m _ _ _ hm
  obtain ⟨l2, ⟨A2, c2, e2, hc2, hr2⟩, hq2⟩ := Opens.arg (Opens.slice Try.underlying22 (by kernel_rfl) (Opens.int (k := .u8) Try.underlying5)) h2
  simp [Value.cells] at e2
  obtain ⟨rfl, rfl, rfl⟩ := e2
  clear hA0 hval0 hsz0
  obtain ⟨k, hP⟩ := Pure.ScriptCut x0 a1 l2 hq0 w1 (Kd.C_max hr2) hq2
  refine (quarrellaw20_ScriptCut.calls k x0.f0.f0 x0.f0.f1 x0.f0.f2 x0.f0.f3 x0.f0.f4 x0.f0.f5 _ _ x0.f1 _ _ x0.f2 _ _ x0.f3 _ _ x0.f4 a1 _ _ l2 true W hZ0_6 hY0_6 hZ0_7 hY0_7 hZ0_8 hY0_8 hZ0_9 hY0_9 hr2 hc2 hP).mono fun e W' ⟨he, bel0⟩ => ?_
  have bel : Below W.heap.size W W' := by first | exact bel0 | exact bel0.below
  subst he
  exact ⟨_, rfl, _, _, _, [], _, [], hW', trodAll_mk1 (shut_bool Try.underlying4 _), (trodAll_cons_mk (Below.trod laidOut (by kernel_rfl) (of_decide_eq_true (by kernel_rfl)) k0 bel lt0) (trodAll_cons_mk (shut_int Try.underlying46 w1) (trodAll_cons_mk (Below.trod laidOut (by kernel_rfl) (of_decide_eq_true (by kernel_rfl)) k2 bel lt2) trodAll_mk0))), rfl, bel.frame _, fun h => by cases h⟩
theorem over : Rows.scriptCutRow.holds Try.pinned (OpenSpec.ofChange Rows.scriptCutSpec) :=
  OpenClaim.holds_of_wide 6 Try.f6 rfl rfl rfl rfl rfl rfl rfl ⟨rfl, rfl, rfl, rfl, rfl⟩ rfl rfl rfl rfl rfl (by kernel_rfl) Try.func6 (by kernel_rfl)
    (of_decide_eq_true (by kernel_rfl)) (by unfold Func.isWrapper; first | (rw [if_pos (by decide +kernel)]; kernel_rfl) | (rw [if_neg (by decide +kernel)]; exact ⟨rfl, rfl⟩))
    (fun os started H enc _ => lifted os started H enc)
theorem proved : Rows.ScriptCutSaid := over
#print axioms proved
end Go.Proofs.Ythfkgnkojhocbaa.scriptCut
namespace Go.Proofs.Ythfkgnkojhocbaa
/-- The row, under a short name, for the claim. -/
theorem scriptCut_holds : Rows.ScriptCutSaid := scriptCut.proved
end Go.Proofs.Ythfkgnkojhocbaa
end
