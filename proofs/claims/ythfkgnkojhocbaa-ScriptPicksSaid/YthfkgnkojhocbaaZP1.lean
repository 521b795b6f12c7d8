/- Part 1 of the proof of scriptPicks_holds. Conditions stand in each theorem; nothing is assumed. Gathered by a program of this session out of its texts and the kit's words. -/
import Derived.Test.YthfkgnkojhocbaaZP0
import Derived.Test.YthfkgnkojhocbaaProg
import Derived.Below
import Derived.Deep.Draws
import Derived.Deep.AppendLies
import Derived.Maps.AppendAt
import Derived.OwnWalk
import Derived.Laws.BytesArg
import Derived.Laws.MakeOwn
import Derived.Laws.OwnMore
import Derived.Deep.OwnRows
import Derived.Tactics
import Derived.Lib.ConvBytes
import Derived.Laws.Slices
import Derived.WalkKit
import Derived.KernelRfl
import Derived.RowKit3
import Derived.Deep.LoopGhost
import Derived.Deep.QuietTactic
import Derived.BigQuiet
import Derived.WideLaws
import Derived.Deep.DeepCutAuto
import Derived.Deep.CutBlock
import Derived.Deep.RegionHeld3
import Derived.Laws.Rows
import Derived.Lib.AppendStr
import Derived.ArgAppend
import Derived.Laws.IdiomCopy
import Derived.OrdersHeld
import Derived.Laws.BitsLemmas
import Derived.RowKit
import Derived.Outline
import Derived.Deep.CutRange
import Derived.StillTailTactics
import Derived.WalkSpells
import Derived.BigRegion
import Derived.ChangeAlike
section
namespace Go.Proofs.Ythfkgnkojhocbaa.S
open Go.RowKit Go.Proofs.YthfkgnkojhocbaaW.PrintWords Go.Proofs.YthfkgnkojhocbaaW.PrintLast Go.Proofs.YthfkgnkojhocbaaW.PrintMore
attribute [local go_sem] max2_int min2_int max_two min_two max_three min_three max_four min_four
set_option linter.unusedVariables false
set_option linter.unusedSimpArgs false
def errW : Option Int → Value
  | none => .nilIface
  | some c => .iface 0 (.int .i64 c)
theorem errW_none : errW none = .nilIface := rfl
theorem errW_some (c : Int) : errW (some c) = .iface 0 (.int .i64 c) := rfl
theorem info5 : (Try.prog.info? 5).map (fun i => (i.zero, i.size, i.bytes)) = some (some (.int .u8 0), 1, 1) := by kernel_rfl
theorem info80 : (Try.prog.info? 80).map (fun i => (i.zero, i.size, i.bytes)) = some (some (.agg #[(.int .i64 0), (.int .i64 0), (.int .i64 0)]), 3, 24) := by kernel_rfl
structure S80 where
  f0 : Int
  f1 : Int
  f2 : Int
def z80 : S80 := ⟨(0 : Int), (0 : Int), (0 : Int)⟩
def k80 : Kd S80 := Kd.iso (Kd.pair (Kd.int .i64) (Kd.pair (Kd.int .i64) (Kd.int .i64))) (fun x : S80 => (x.f0, x.f1, x.f2))
theorem k80_heap : Kd.Heap k80 := Kd.heap_iso _ (Kd.heap_pair (Kd.heap_int .i64) (Kd.heap_pair (Kd.heap_int .i64) (Kd.heap_int .i64)))
theorem k80_open {w : World} {x : S80} {cs : List Value} (h : k80.K w x cs) : cs = [.int .i64 x.f0, .int .i64 x.f1, .int .i64 x.f2] := by
  obtain ⟨_, _, rfl, rfl, ⟨_, _, rfl, rfl, rfl⟩⟩ := h
  exact rfl
theorem k80_mkM (w : World) (base : Nat) (ok : Nat → Prop) (x : S80)  : k80.M w base ok x [.int .i64 x.f0, .int .i64 x.f1, .int .i64 x.f2] := ⟨[.int .i64 x.f0], [.int .i64 x.f1, .int .i64 x.f2], rfl, rfl, ⟨[.int .i64 x.f1], [.int .i64 x.f2], rfl, rfl, rfl⟩⟩
def rd_T80 (xs : List S80) (i : Int) : S80 := xs.getD i.toNat z80
theorem at_T80 {w : World} {A : Option Addr} {n : Nat} {xs : List S80} (h : Kd.C k80 w A n xs) (i : Int) (h0 : 0 ≤ i) (h1 : i < n) : ∃ ad , A = some ad ∧ w.cell? (ad.add (i.toNat * 3)) = some (.int .i64 (rd_T80 xs i).f0) ∧ w.cell? ⟨(ad.add (i.toNat * 3)).block, (ad.add (i.toNat * 3)).off + 1, none⟩ = some (.int .i64 (rd_T80 xs i).f1) ∧ w.cell? ⟨(ad.add (i.toNat * 3)).block, (ad.add (i.toNat * 3)).off + 2, none⟩ = some (.int .i64 (rd_T80 xs i).f2) := by
  obtain ⟨ad, c, e, _, hK, hc0⟩ := Kd.C_get h z80 i h0 h1
  have hc : ∀ j u, c[j]? = some u → w.cell? (ad.add (i.toNat * 3 + j)) = some u := hc0
  obtain rfl := k80_open hK
  exact ⟨ad, e, hc 0 _ rfl, by rw [← add_field _ _ 1 (by omega)]; exact hc 1 _ rfl, by rw [← add_field _ _ 2 (by omega)]; exact hc 2 _ rfl⟩
structure S25 where
  f0 : Int
  f1 : Int
  f2 : Int
  f3 : Int
  f4 : Int
  f5 : Int
def z25 : S25 := ⟨(0 : Int), (0 : Int), (0 : Int), (0 : Int), (0 : Int), (0 : Int)⟩
def k25 : Kd S25 := Kd.iso (Kd.pair (Kd.int .i64) (Kd.pair (Kd.int .i64) (Kd.pair (Kd.int .i64) (Kd.pair (Kd.int .i64) (Kd.pair (Kd.int .i64) (Kd.int .i64)))))) (fun x : S25 => (x.f0, x.f1, x.f2, x.f3, x.f4, x.f5))
theorem k25_open {w : World} {x : S25} {cs : List Value} (h : k25.K w x cs) : cs = [.int .i64 x.f0, .int .i64 x.f1, .int .i64 x.f2, .int .i64 x.f3, .int .i64 x.f4, .int .i64 x.f5] := by
  obtain ⟨_, _, rfl, rfl, ⟨_, _, rfl, rfl, ⟨_, _, rfl, rfl, ⟨_, _, rfl, rfl, ⟨_, _, rfl, rfl, rfl⟩⟩⟩⟩⟩ := h
  exact rfl
def rd_L6 (xs : List (List S80)) (i : Int) : (List S80) := xs.getD i.toNat ([] : List S80)
theorem at_L6 {w : World} {A : Option Addr} {n : Nat} {xs : List (List S80)} (h : Kd.C (Kd.slice 80 k80) w A n xs) (i : Int) (h0 : 0 ≤ i) (h1 : i < n) : ∃ ad A0 c0, A = some ad ∧ w.cell? (ad.add i.toNat) = some (.slice A0 (rd_L6 xs i).length c0) ∧ (rd_L6 xs i).length ≤ c0 ∧ k80.C w A0 (rd_L6 xs i).length (rd_L6 xs i) := by
  obtain ⟨ad, c, e, _, hK, hc0⟩ := Kd.C_get h ([] : List S80) i h0 h1
  have hc : ∀ j u, c[j]? = some u → w.cell? (ad.add (i.toNat * 1 + j)) = some u := hc0
  obtain ⟨A0, c0, rfl, l0, g0⟩ := hK
  exact ⟨ad, A0, c0, e, by have hq := hc 0 _ rfl; rwa [Nat.mul_one, Nat.add_zero] at hq, l0, g0⟩
def rd_L7 (xs : List (List (List S80))) (i : Int) : (List (List S80)) := xs.getD i.toNat ([] : List (List S80))
theorem at_L7 {w : World} {A : Option Addr} {n : Nat} {xs : List (List (List S80))} (h : Kd.C (Kd.slice 61 (Kd.slice 80 k80)) w A n xs) (i : Int) (h0 : 0 ≤ i) (h1 : i < n) : ∃ ad A0 c0, A = some ad ∧ w.cell? (ad.add i.toNat) = some (.slice A0 (rd_L7 xs i).length c0) ∧ (rd_L7 xs i).length ≤ c0 ∧ (Kd.slice 80 k80).C w A0 (rd_L7 xs i).length (rd_L7 xs i) := by
  obtain ⟨ad, c, e, _, hK, hc0⟩ := Kd.C_get h ([] : List (List S80)) i h0 h1
  have hc : ∀ j u, c[j]? = some u → w.cell? (ad.add (i.toNat * 1 + j)) = some u := hc0
  obtain ⟨A0, c0, rfl, l0, g0⟩ := hK
  exact ⟨ad, A0, c0, e, by have hq := hc 0 _ rfl; rwa [Nat.mul_one, Nat.add_zero] at hq, l0, g0⟩
structure S34 where
  f0 : S25
  f1 : (List Int)
  f2 : (List Int)
  f3 : (List (List (List S80)))
  f4 : (List Int)
def k34 : Kd S34 := Kd.iso (Kd.pair k25 (Kd.pair (Kd.slice 2 (Kd.int .i64)) (Kd.pair (Kd.slice 5 (Kd.int .u8)) (Kd.pair (Kd.slice 60 (Kd.slice 61 (Kd.slice 80 k80))) (Kd.slice 3 (Kd.int .i64)))))) (fun x : S34 => (x.f0, x.f1, x.f2, x.f3, x.f4))
theorem k34_open {w : World} {x : S34} {cs : List Value} (h : k34.K w x cs) : ∃ A6 c6 A7 c7 A8 c8 A9 c9, cs = [.int .i64 x.f0.f0, .int .i64 x.f0.f1, .int .i64 x.f0.f2, .int .i64 x.f0.f3, .int .i64 x.f0.f4, .int .i64 x.f0.f5, .slice A6 x.f1.length c6, .slice A7 x.f2.length c7, .slice A8 x.f3.length c8, .slice A9 x.f4.length c9] ∧ x.f1.length ≤ c6 ∧ (Kd.int .i64).C w A6 x.f1.length x.f1 ∧ x.f2.length ≤ c7 ∧ (Kd.int .u8).C w A7 x.f2.length x.f2 ∧ x.f3.length ≤ c8 ∧ (Kd.slice 61 (Kd.slice 80 k80)).C w A8 x.f3.length x.f3 ∧ x.f4.length ≤ c9 ∧ (Kd.int .i64).C w A9 x.f4.length x.f4 := by
  obtain ⟨_, _, rfl, s0, ⟨_, _, rfl, ⟨A6, c6, rfl, l6, g6⟩, ⟨_, _, rfl, ⟨A7, c7, rfl, l7, g7⟩, ⟨_, _, rfl, ⟨A8, c8, rfl, l8, g8⟩, ⟨A9, c9, rfl, l9, g9⟩⟩⟩⟩⟩ := h
  obtain rfl := k25_open s0
  exact ⟨A6, c6, A7, c7, A8, c8, A9, c9, rfl, l6, g6, l7, g7, l8, g8, l9, g9⟩
end Go.Proofs.Ythfkgnkojhocbaa.S
end
section
namespace Go.Proofs.Ythfkgnkojhocbaa.S
open Go Go.RowKit Go.Proofs.YthfkgnkojhocbaaW.PrintWords Go.Proofs.YthfkgnkojhocbaaW.PrintMore
set_option linter.unusedVariables false
/-- What changes is of these types, or new. -/
structure Fr (ts : List Nat) (w w' : World) : Prop where
  os : w'.os = w.os
  tape : w'.tape = w.tape
  output : w'.output = w.output
  size : w.heap.size ≤ w'.heap.size
  block : ∀ k, k < w.heap.size → (∀ cs t fz, w.heap[k]? = some (.cells cs t fz) → t ∉ ts) → w'.heap[k]? = w.heap[k]?
theorem Fr.refl (ts : List Nat) (w : World) : Fr ts w w := ⟨rfl, rfl, rfl, Nat.le_refl _, fun _ _ _ => rfl⟩
theorem Fr.trans {ts : List Nat} {a b c : World} (h : Fr ts a b) (k : Fr ts b c) : Fr ts a c :=
  ⟨k.os.trans h.os, k.tape.trans h.tape, k.output.trans h.output, Nat.le_trans h.size k.size, fun i hi hn => by
    have e := h.block i hi hn
    exact (k.block i (Nat.lt_of_lt_of_le hi h.size) (fun cs t fz hc => hn cs t fz (e ▸ hc))).trans e⟩
theorem Fr.mono {ts us : List Nat} {a b : World} (h : Fr ts a b) (hs : ∀ t, t ∈ ts → t ∈ us) : Fr us a b :=
  ⟨h.os, h.tape, h.output, h.size, fun i hi hn => h.block i hi (fun cs t fz hc ht => hn cs t fz hc (hs t ht))⟩
theorem Fr.of_below {ts : List Nat} {w w' : World} (h : Below w.heap.size w w') : Fr ts w w' := ⟨h.os, h.tape, h.output, h.size, fun i hi _ => h.block i hi⟩
theorem Fr.below {ts : List Nat} {w a b : World} (h : Fr ts w a) (k : Below a.heap.size a b) : Fr ts w b := h.trans (Fr.of_below k)
theorem Fr.alloc {ts : List Nat} {w a : World} (h : Fr ts w a) (o : Obj) : Fr ts w (a.alloc o) := h.below (below_alloc (Below.refl _ _) o)
theorem Fr.drew {ts : List Nat} {w a : World} (h : Fr ts w a) : Fr ts w a.drew := h.below (below_drew (Below.refl _ _))
theorem Fr.drewN {ts : List Nat} {w a : World} (h : Fr ts w a) (m : Nat) : Fr ts w (a.drewN m) := h.below (pw_below_drewN (Below.refl _ _) m)
theorem Fr.set {ts : List Nat} {w a : World} (h : Fr ts w a) {p : Addr} {cs : Array Value} {t : Nat} {fz : Nat × Nat} (hp : a.heap[p.block]? = some (.cells cs t fz)) (ht : t ∈ ts) (u : Value) : Fr ts w (a.setCell p u) :=
  h.trans ⟨rfl, rfl, rfl, by simp [World.setCell], fun i hi hn => Below.heap_setCell a p u i (fun e => hn cs t fz (e ▸ hp) ht)⟩
theorem Fr.grown {ts : List Nat} {w a b : World} (h : Fr ts w a) {row : Option Nat} (hg : a.grownBy b row) (hr : ∀ k, row = some k → ∃ cs t fz, a.heap[k]? = some (.cells cs t fz) ∧ t ∈ ts) : Fr ts w b :=
  h.trans ⟨hg.os, hg.tape, hg.output, hg.size, fun i hi hn => hg.block i hi (fun e => by obtain ⟨cs, t, fz, h1, h2⟩ := hr i e.symm; exact hn cs t fz h1 h2)⟩
theorem Fr.blk {ts : List Nat} {w w' : World} (h : Fr ts w w') {g : Nat} {cs : Array Value} {t : Nat} {fz : Nat × Nat} (hb : w.heap[g]? = some (.cells cs t fz)) (ht : t ∉ ts) : w'.heap[g]? = some (.cells cs t fz) :=
  (h.block g (Array.getElem?_eq_some_iff.1 hb).1 (fun cs' t' fz' hc => by rw [hb] at hc; injection hc with hc; injection hc with _ h2; exact h2 ▸ ht)).trans hb
/-- The same of rows of rows: no block of theirs is of a type that changes. -/
theorem R_frN {α : Type} {d : Kd α} {e : Nat} {ts : List Nat} {w w' : World} {base : Nat} {ok : Nat → Prop} {v : Value} {xs : List α} (h : d.R e w base ok v xs) (hf : Fr ts w w') (hd : ∀ q, q ∈ e :: d.E → q ∉ ts) : d.R e w' base ok v xs :=
  Kd.R_mono (Kd.R_move (Kd.R_bound h) (fun k hk => by obtain ⟨_, _, _, q, hq, cs, hc⟩ := hk; exact (hf.blk hc (hd q hq)).trans hc.symm)) (fun k hk => hk.1)
theorem cell_drew {w : World} {a : Addr} {v : Value} (h : w.cell? a = some v) : w.drew.cell? a = some v := h
end Go.Proofs.Ythfkgnkojhocbaa.S
end
section
namespace Go.Proofs.Ythfkgnkojhocbaa.S
open Go.RowKit Go.Proofs.YthfkgnkojhocbaaW.PrintWords Go.Proofs.YthfkgnkojhocbaaW.PrintLast Go.Proofs.YthfkgnkojhocbaaW.PrintMore
attribute [local go_sem] max2_int min2_int max_two min_two max_three min_three max_four min_four
set_option linter.unusedVariables false
set_option linter.unusedSimpArgs false
def floor_within.f (a0 : Int) (a1 : Int) (a2 : Int) : Option (Bool) := if a0 ≥ a1 then (some (decide (a0 ≤ a2))) else (some false)
set_option maxHeartbeats 8000000 in
set_option maxRecDepth 100000 in
theorem floor_within.calls (a0 : Int) (a1 : Int) (a2 : Int) (r : Bool) (w : World) (h : floor_within.f a0 a1 a2 = some r) :
  Calls Try.prog 46 #[.int .i64 a0, .int .i64 a1, .int .i64 a2] w fun e w' => e = .returned (.bool r) ∧ Drawn0 w w' := by
 have H : (if a0 ≥ a1 then (some (decide (a0 ≤ a2))) else (some false)) = some r := h
 clear h
 by_cases c4 : a0 ≥ a1
 ·rw [if_pos c4] at H
  have c4b0 : decide (a1 ≤ a0) = true := decide_eq_true c4
  clear c4
  obtain rfl := Option.some.inj H
  go_enter Try.func46, Try.ntmps46
  go_wp2
  go_ret
  exact ⟨by first | rfl | (simp; done) | (simp [*]; done), by repeat (first | exact Drawn0.refl _ | apply Drawn0.step)⟩
 ·rw [if_neg c4] at H
  have c4b0 : decide (a1 ≤ a0) = false := decide_eq_false c4
  clear c4
  obtain rfl := Option.some.inj H
  go_enter Try.func46, Try.ntmps46
  go_wp2
  go_ret
  exact ⟨by first | rfl | (simp; done) | (simp [*]; done), by repeat (first | exact Drawn0.refl _ | apply Drawn0.step)⟩
def floor_Check.f (a0_0 : Int) (a0_1 : Int) (a0_2 : Int) (a0_3 : Int) (a0_4 : Int) (a0_5 : Int) : Option (Bool) := (floor_within.f a0_0 1 8).bind fun t102 => (if t102 = true then ((floor_within.f a0_1 1 6).bind fun t103 => (if t103 = true then ((floor_within.f a0_2 1 4096).bind fun t104 => (if t104 = true then ((floor_within.f a0_3 0 255).bind fun t105 => (if t105 = true then ((floor_within.f a0_4 1 4).bind fun t106 => (if t106 = true then ((floor_within.f a0_5 1 64).bind fun t107 => (some t107)) else (some false))) else (some false))) else (some false))) else (some false))) else (some false))
set_option maxHeartbeats 8000000 in
set_option maxRecDepth 100000 in
theorem floor_Check.calls (a0_0 : Int) (a0_1 : Int) (a0_2 : Int) (a0_3 : Int) (a0_4 : Int) (a0_5 : Int) (r : Bool) (w : World) (h : floor_Check.f a0_0 a0_1 a0_2 a0_3 a0_4 a0_5 = some r) :
  Calls Try.prog 34 #[.agg #[.int .i64 a0_0, .int .i64 a0_1, .int .i64 a0_2, .int .i64 a0_3, .int .i64 a0_4, .int .i64 a0_5]] w fun e w' => e = .returned (.bool r) ∧ Below w.heap.size w w' := by
 have hu25 := Try.underlying25
 have HB := Aside0.mk (Below.refl w.heap.size w)
 have H : ((floor_within.f a0_0 1 8).bind fun t102 => (if t102 = true then ((floor_within.f a0_1 1 6).bind fun t103 => (if t103 = true then ((floor_within.f a0_2 1 4096).bind fun t104 => (if t104 = true then ((floor_within.f a0_3 0 255).bind fun t105 => (if t105 = true then ((floor_within.f a0_4 1 4).bind fun t106 => (if t106 = true then ((floor_within.f a0_5 1 64).bind fun t107 => (some t107)) else (some false))) else (some false))) else (some false))) else (some false))) else (some false))) = some r := h
 clear h
 replace H := Option.bind_eq_some_iff.mp H
 obtain ⟨t102, A20, H⟩ := H
 replace H : (if t102 = true then ((floor_within.f a0_1 1 6).bind fun t103 => (if t103 = true then ((floor_within.f a0_2 1 4096).bind fun t104 => (if t104 = true then ((floor_within.f a0_3 0 255).bind fun t105 => (if t105 = true then ((floor_within.f a0_4 1 4).bind fun t106 => (if t106 = true then ((floor_within.f a0_5 1 64).bind fun t107 => (some t107)) else (some false))) else (some false))) else (some false))) else (some false))) else (some false)) = some r := H
 have A2 := Aside0.mk A20
 clear A20
 by_cases c3 : t102 = true
 ·subst c3
  have H1 : ((floor_within.f a0_1 1 6).bind fun t103 => (if t103 = true then ((floor_within.f a0_2 1 4096).bind fun t104 => (if t104 = true then ((floor_within.f a0_3 0 255).bind fun t105 => (if t105 = true then ((floor_within.f a0_4 1 4).bind fun t106 => (if t106 = true then ((floor_within.f a0_5 1 64).bind fun t107 => (some t107)) else (some false))) else (some false))) else (some false))) else (some false))) = some r := by rw [if_pos rfl] at H; exact H
  clear H
  have H := H1
  clear H1
  replace H := Option.bind_eq_some_iff.mp H
  obtain ⟨t103, A40, H⟩ := H
  replace H : (if t103 = true then ((floor_within.f a0_2 1 4096).bind fun t104 => (if t104 = true then ((floor_within.f a0_3 0 255).bind fun t105 => (if t105 = true then ((floor_within.f a0_4 1 4).bind fun t106 => (if t106 = true then ((floor_within.f a0_5 1 64).bind fun t107 => (some t107)) else (some false))) else (some false))) else (some false))) else (some false)) = some r := H
  have A4 := Aside0.mk A40
  clear A40
  by_cases c5 : t103 = true
  ·subst c5
   have H1 : ((floor_within.f a0_2 1 4096).bind fun t104 => (if t104 = true then ((floor_within.f a0_3 0 255).bind fun t105 => (if t105 = true then ((floor_within.f a0_4 1 4).bind fun t106 => (if t106 = true then ((floor_within.f a0_5 1 64).bind fun t107 => (some t107)) else (some false))) else (some false))) else (some false))) = some r := by rw [if_pos rfl] at H; exact H
   clear H
   have H := H1
   clear H1
   replace H := Option.bind_eq_some_iff.mp H
   obtain ⟨t104, A60, H⟩ := H
   replace H : (if t104 = true then ((floor_within.f a0_3 0 255).bind fun t105 => (if t105 = true then ((floor_within.f a0_4 1 4).bind fun t106 => (if t106 = true then ((floor_within.f a0_5 1 64).bind fun t107 => (some t107)) else (some false))) else (some false))) else (some false)) = some r := H
   have A6 := Aside0.mk A60
   clear A60
   by_cases c7 : t104 = true
   ·subst c7
    have H1 : ((floor_within.f a0_3 0 255).bind fun t105 => (if t105 = true then ((floor_within.f a0_4 1 4).bind fun t106 => (if t106 = true then ((floor_within.f a0_5 1 64).bind fun t107 => (some t107)) else (some false))) else (some false))) = some r := by rw [if_pos rfl] at H; exact H
    clear H
    have H := H1
    clear H1
    replace H := Option.bind_eq_some_iff.mp H
    obtain ⟨t105, A80, H⟩ := H
    replace H : (if t105 = true then ((floor_within.f a0_4 1 4).bind fun t106 => (if t106 = true then ((floor_within.f a0_5 1 64).bind fun t107 => (some t107)) else (some false))) else (some false)) = some r := H
    have A8 := Aside0.mk A80
    clear A80
    by_cases c9 : t105 = true
    ·subst c9
     have H1 : ((floor_within.f a0_4 1 4).bind fun t106 => (if t106 = true then ((floor_within.f a0_5 1 64).bind fun t107 => (some t107)) else (some false))) = some r := by rw [if_pos rfl] at H; exact H
     clear H
     have H := H1
     clear H1
     replace H := Option.bind_eq_some_iff.mp H
     obtain ⟨t106, A100, H⟩ := H
     replace H : (if t106 = true then ((floor_within.f a0_5 1 64).bind fun t107 => (some t107)) else (some false)) = some r := H
     have A10 := Aside0.mk A100
     clear A100
     by_cases c11 : t106 = true
     ·subst c11
      have H1 : ((floor_within.f a0_5 1 64).bind fun t107 => (some t107)) = some r := by rw [if_pos rfl] at H; exact H
      clear H
      have H := H1
      clear H1
      replace H := Option.bind_eq_some_iff.mp H
      obtain ⟨t107, A120, H⟩ := H
      replace H : (some t107) = some r := H
      have A12 := Aside0.mk A120
      clear A120
      obtain rfl := Option.some.inj H
      go_enter Try.func34, Try.ntmps34
      go_wp2_with (first | ((with_reducible refine gate_dst (N := 1) rfl ?_); refine box_event ?hg (N := 1) ?hd (cs := #[.int .i64 a0_0, .int .i64 a0_1, .int .i64 a0_2, .int .i64 a0_3, .int .i64 a0_4, .int .i64 a0_5]) (t := 25) ?hr ?_; (case hd => rfl); (case hg => rfl); (case hr => first | (go_simp; done) | (go_simp; rfl)); intro gb101 hg w13 hbox hb; have n0_ := Aside0.mk (below_step (by repeat (first | (with_reducible first | exact HB.out | apply bwA | apply bwN | apply bw1) | exact HB.out)) hb); have n1_ := Aside0.mk (hbox); have n2_ := Aside0.mk ((by rw [hg]; exact (below_size (by repeat (first | (with_reducible first | exact HB.out | apply bwA | apply bwN | apply bw1) | exact HB.out))) : w.heap.size ≤ gb101)); have n3_ := Aside0.mk ((by rw [hg]; exact (below_size (by repeat (first | (with_reducible first | exact HB.out | apply bwA | apply bwN | apply bw1) | exact HB.out))) : w.heap.size ≤ gb101)); clear HB; have HB := n0_; have BK101 := n1_; have GW101 := n2_; have GE101 := n3_; clear n0_ n1_ n2_ n3_; clear hb hbox hg; obtain ⟨hcz14_0, hcz14_1, hcz14_2, hcz14_3, hcz14_4, hcz14_5, hfz14_0, hfz14_1, hfz14_2, hfz14_3, hfz14_4, hfz14_5⟩ := cf6 BK101.out) | ((with_reducible refine gate_callee (f := 46) rfl ?_); refine goesL_ (some 5) rfl rfl Try.func46 (by kernel_rfl) rfl #[.int .i64 a0_0, .int .i64 1, .int .i64 8] rfl (by (try simp only [List.map_toArray, List.map_cons, List.map_nil]); first | done | rfl | (simp only [List.length_drop, List.length_take]; rfl)) ?_; (with_reducible refine (floor_within.calls a0_0 1 8 true _ A2.out).mono ?_); rintro e w' ⟨rfl, ⟨nd, rfl⟩⟩; refine ⟨_, rfl, ?_⟩) | (go_at_call 46; (with_reducible refine (floor_within.calls a0_1 1 6 true _ A4.out).mono ?_); rintro e w' ⟨rfl, ⟨nd, rfl⟩⟩) | (go_at_call 46; (with_reducible refine (floor_within.calls a0_2 1 4096 true _ A6.out).mono ?_); rintro e w' ⟨rfl, ⟨nd, rfl⟩⟩) | (go_at_call 46; (with_reducible refine (floor_within.calls a0_3 0 255 true _ A8.out).mono ?_); rintro e w' ⟨rfl, ⟨nd, rfl⟩⟩) | (go_at_call 46; (with_reducible refine (floor_within.calls a0_4 1 4 true _ A10.out).mono ?_); rintro e w' ⟨rfl, ⟨nd, rfl⟩⟩) | (go_at_call 46; (with_reducible refine (floor_within.calls a0_5 1 64 t107 _ A12.out).mono ?_); rintro e w' ⟨rfl, ⟨nd, rfl⟩⟩))
      go_ret
      exact ⟨by first | rfl | (simp [errW_none, errW_some] <;> rfl) | (simp [*, errW_none, errW_some] <;> rfl), by repeat (first | (with_reducible first | exact HB.out | apply bwA | apply bwN | apply bw1 | refine bwS ?_ GE101.out) | exact HB.out)⟩
     ·replace c11 := Bool.eq_false_iff.mpr c11
      subst c11
      have H1 : (some false) = some r := by rw [if_neg (show ¬ (false = true) by decide)] at H; exact H
      clear H
      have H := H1
      clear H1
      obtain rfl := Option.some.inj H
      go_enter Try.func34, Try.ntmps34
      go_wp2_with (first | ((with_reducible refine gate_dst (N := 1) rfl ?_); refine box_event ?hg (N := 1) ?hd (cs := #[.int .i64 a0_0, .int .i64 a0_1, .int .i64 a0_2, .int .i64 a0_3, .int .i64 a0_4, .int .i64 a0_5]) (t := 25) ?hr ?_; (case hd => rfl); (case hg => rfl); (case hr => first | (go_simp; done) | (go_simp; rfl)); intro gb101 hg w15 hbox hb; have n0_ := Aside0.mk (below_step (by repeat (first | (with_reducible first | exact HB.out | apply bwA | apply bwN | apply bw1) | exact HB.out)) hb); have n1_ := Aside0.mk (hbox); have n2_ := Aside0.mk ((by rw [hg]; exact (below_size (by repeat (first | (with_reducible first | exact HB.out | apply bwA | apply bwN | apply bw1) | exact HB.out))) : w.heap.size ≤ gb101)); have n3_ := Aside0.mk ((by rw [hg]; exact (below_size (by repeat (first | (with_reducible first | exact HB.out | apply bwA | apply bwN | apply bw1) | exact HB.out))) : w.heap.size ≤ gb101)); clear HB; have HB := n0_; have BK101 := n1_; have GW101 := n2_; have GE101 := n3_; clear n0_ n1_ n2_ n3_; clear hb hbox hg; obtain ⟨hcz16_0, hcz16_1, hcz16_2, hcz16_3, hcz16_4, hcz16_5, hfz16_0, hfz16_1, hfz16_2, hfz16_3, hfz16_4, hfz16_5⟩ := cf6 BK101.out) | ((with_reducible refine gate_callee (f := 46) rfl ?_); refine goesL_ (some 5) rfl rfl Try.func46 (by kernel_rfl) rfl #[.int .i64 a0_0, .int .i64 1, .int .i64 8] rfl (by (try simp only [List.map_toArray, List.map_cons, List.map_nil]); first | done | rfl | (simp only [List.length_drop, List.length_take]; rfl)) ?_; (with_reducible refine (floor_within.calls a0_0 1 8 true _ A2.out).mono ?_); rintro e w' ⟨rfl, ⟨nd, rfl⟩⟩; refine ⟨_, rfl, ?_⟩) | (go_at_call 46; (with_reducible refine (floor_within.calls a0_1 1 6 true _ A4.out).mono ?_); rintro e w' ⟨rfl, ⟨nd, rfl⟩⟩) | (go_at_call 46; (with_reducible refine (floor_within.calls a0_2 1 4096 true _ A6.out).mono ?_); rintro e w' ⟨rfl, ⟨nd, rfl⟩⟩) | (go_at_call 46; (with_reducible refine (floor_within.calls a0_3 0 255 true _ A8.out).mono ?_); rintro e w' ⟨rfl, ⟨nd, rfl⟩⟩) | (go_at_call 46; (with_reducible refine (floor_within.calls a0_4 1 4 false _ A10.out).mono ?_); rintro e w' ⟨rfl, ⟨nd, rfl⟩⟩))
      go_ret
      exact ⟨by first | rfl | (simp [errW_none, errW_some] <;> rfl) | (simp [*, errW_none, errW_some] <;> rfl), by repeat (first | (with_reducible first | exact HB.out | apply bwA | apply bwN | apply bw1 | refine bwS ?_ GE101.out) | exact HB.out)⟩
    ·replace c9 := Bool.eq_false_iff.mpr c9
     subst c9
     have H1 : (some false) = some r := by rw [if_neg (show ¬ (false = true) by decide)] at H; exact H
     clear H
     have H := H1
     clear H1
     obtain rfl := Option.some.inj H
     go_enter Try.func34, Try.ntmps34
     go_wp2_with (first | ((with_reducible refine gate_dst (N := 1) rfl ?_); refine box_event ?hg (N := 1) ?hd (cs := #[.int .i64 a0_0, .int .i64 a0_1, .int .i64 a0_2, .int .i64 a0_3, .int .i64 a0_4, .int .i64 a0_5]) (t := 25) ?hr ?_; (case hd => rfl); (case hg => rfl); (case hr => first | (go_simp; done) | (go_simp; rfl)); intro gb101 hg w17 hbox hb; have n0_ := Aside0.mk (below_step (by repeat (first | (with_reducible first | exact HB.out | apply bwA | apply bwN | apply bw1) | exact HB.out)) hb); have n1_ := Aside0.mk (hbox); have n2_ := Aside0.mk ((by rw [hg]; exact (below_size (by repeat (first | (with_reducible first | exact HB.out | apply bwA | apply bwN | apply bw1) | exact HB.out))) : w.heap.size ≤ gb101)); have n3_ := Aside0.mk ((by rw [hg]; exact (below_size (by repeat (first | (with_reducible first | exact HB.out | apply bwA | apply bwN | apply bw1) | exact HB.out))) : w.heap.size ≤ gb101)); clear HB; have HB := n0_; have BK101 := n1_; have GW101 := n2_; have GE101 := n3_; clear n0_ n1_ n2_ n3_; clear hb hbox hg; obtain ⟨hcz18_0, hcz18_1, hcz18_2, hcz18_3, hcz18_4, hcz18_5, hfz18_0, hfz18_1, hfz18_2, hfz18_3, hfz18_4, hfz18_5⟩ := cf6 BK101.out) | ((with_reducible refine gate_callee (f := 46) rfl ?_); refine goesL_ (some 5) rfl rfl Try.func46 (by kernel_rfl) rfl #[.int .i64 a0_0, .int .i64 1, .int .i64 8] rfl (by (try simp only [List.map_toArray, List.map_cons, List.map_nil]); first | done | rfl | (simp only [List.length_drop, List.length_take]; rfl)) ?_; (with_reducible refine (floor_within.calls a0_0 1 8 true _ A2.out).mono ?_); rintro e w' ⟨rfl, ⟨nd, rfl⟩⟩; refine ⟨_, rfl, ?_⟩) | (go_at_call 46; (with_reducible refine (floor_within.calls a0_1 1 6 true _ A4.out).mono ?_); rintro e w' ⟨rfl, ⟨nd, rfl⟩⟩) | (go_at_call 46; (with_reducible refine (floor_within.calls a0_2 1 4096 true _ A6.out).mono ?_); rintro e w' ⟨rfl, ⟨nd, rfl⟩⟩) | (go_at_call 46; (with_reducible refine (floor_within.calls a0_3 0 255 false _ A8.out).mono ?_); rintro e w' ⟨rfl, ⟨nd, rfl⟩⟩))
     go_ret
     exact ⟨by first | rfl | (simp [errW_none, errW_some] <;> rfl) | (simp [*, errW_none, errW_some] <;> rfl), by repeat (first | (with_reducible first | exact HB.out | apply bwA | apply bwN | apply bw1 | refine bwS ?_ GE101.out) | exact HB.out)⟩
   ·replace c7 := Bool.eq_false_iff.mpr c7
    subst c7
    have H1 : (some false) = some r := by rw [if_neg (show ¬ (false = true) by decide)] at H; exact H
    clear H
    have H := H1
    clear H1
    obtain rfl := Option.some.inj H
    go_enter Try.func34, Try.ntmps34
    go_wp2_with (first | ((with_reducible refine gate_dst (N := 1) rfl ?_); refine box_event ?hg (N := 1) ?hd (cs := #[.int .i64 a0_0, .int .i64 a0_1, .int .i64 a0_2, .int .i64 a0_3, .int .i64 a0_4, .int .i64 a0_5]) (t := 25) ?hr ?_; (case hd => rfl); (case hg => rfl); (case hr => first | (go_simp; done) | (go_simp; rfl)); intro gb101 hg w19 hbox hb; have n0_ := Aside0.mk (below_step (by repeat (first | (with_reducible first | exact HB.out | apply bwA | apply bwN | apply bw1) | exact HB.out)) hb); have n1_ := Aside0.mk (hbox); have n2_ := Aside0.mk ((by rw [hg]; exact (below_size (by repeat (first | (with_reducible first | exact HB.out | apply bwA | apply bwN | apply bw1) | exact HB.out))) : w.heap.size ≤ gb101)); have n3_ := Aside0.mk ((by rw [hg]; exact (below_size (by repeat (first | (with_reducible first | exact HB.out | apply bwA | apply bwN | apply bw1) | exact HB.out))) : w.heap.size ≤ gb101)); clear HB; have HB := n0_; have BK101 := n1_; have GW101 := n2_; have GE101 := n3_; clear n0_ n1_ n2_ n3_; clear hb hbox hg; obtain ⟨hcz20_0, hcz20_1, hcz20_2, hcz20_3, hcz20_4, hcz20_5, hfz20_0, hfz20_1, hfz20_2, hfz20_3, hfz20_4, hfz20_5⟩ := cf6 BK101.out) | ((with_reducible refine gate_callee (f := 46) rfl ?_); refine goesL_ (some 5) rfl rfl Try.func46 (by kernel_rfl) rfl #[.int .i64 a0_0, .int .i64 1, .int .i64 8] rfl (by (try simp only [List.map_toArray, List.map_cons, List.map_nil]); first | done | rfl | (simp only [List.length_drop, List.length_take]; rfl)) ?_; (with_reducible refine (floor_within.calls a0_0 1 8 true _ A2.out).mono ?_); rintro e w' ⟨rfl, ⟨nd, rfl⟩⟩; refine ⟨_, rfl, ?_⟩) | (go_at_call 46; (with_reducible refine (floor_within.calls a0_1 1 6 true _ A4.out).mono ?_); rintro e w' ⟨rfl, ⟨nd, rfl⟩⟩) | (go_at_call 46; (with_reducible refine (floor_within.calls a0_2 1 4096 false _ A6.out).mono ?_); rintro e w' ⟨rfl, ⟨nd, rfl⟩⟩))
    go_ret
    exact ⟨by first | rfl | (simp [errW_none, errW_some] <;> rfl) | (simp [*, errW_none, errW_some] <;> rfl), by repeat (first | (with_reducible first | exact HB.out | apply bwA | apply bwN | apply bw1 | refine bwS ?_ GE101.out) | exact HB.out)⟩
  ·replace c5 := Bool.eq_false_iff.mpr c5
   subst c5
   have H1 : (some false) = some r := by rw [if_neg (show ¬ (false = true) by decide)] at H; exact H
   clear H
   have H := H1
   clear H1
   obtain rfl := Option.some.inj H
   go_enter Try.func34, Try.ntmps34
   go_wp2_with (first | ((with_reducible refine gate_dst (N := 1) rfl ?_); refine box_event ?hg (N := 1) ?hd (cs := #[.int .i64 a0_0, .int .i64 a0_1, .int .i64 a0_2, .int .i64 a0_3, .int .i64 a0_4, .int .i64 a0_5]) (t := 25) ?hr ?_; (case hd => rfl); (case hg => rfl); (case hr => first | (go_simp; done) | (go_simp; rfl)); intro gb101 hg w21 hbox hb; have n0_ := Aside0.mk (below_step (by repeat (first | (with_reducible first | exact HB.out | apply bwA | apply bwN | apply bw1) | exact HB.out)) hb); have n1_ := Aside0.mk (hbox); have n2_ := Aside0.mk ((by rw [hg]; exact (below_size (by repeat (first | (with_reducible first | exact HB.out | apply bwA | apply bwN | apply bw1) | exact HB.out))) : w.heap.size ≤ gb101)); have n3_ := Aside0.mk ((by rw [hg]; exact (below_size (by repeat (first | (with_reducible first | exact HB.out | apply bwA | apply bwN | apply bw1) | exact HB.out))) : w.heap.size ≤ gb101)); clear HB; have HB := n0_; have BK101 := n1_; have GW101 := n2_; have GE101 := n3_; clear n0_ n1_ n2_ n3_; clear hb hbox hg; obtain ⟨hcz22_0, hcz22_1, hcz22_2, hcz22_3, hcz22_4, hcz22_5, hfz22_0, hfz22_1, hfz22_2, hfz22_3, hfz22_4, hfz22_5⟩ := cf6 BK101.out) | ((with_reducible refine gate_callee (f := 46) rfl ?_); refine goesL_ (some 5) rfl rfl Try.func46 (by kernel_rfl) rfl #[.int .i64 a0_0, .int .i64 1, .int .i64 8] rfl (by (try simp only [List.map_toArray, List.map_cons, List.map_nil]); first | done | rfl | (simp only [List.length_drop, List.length_take]; rfl)) ?_; (with_reducible refine (floor_within.calls a0_0 1 8 true _ A2.out).mono ?_); rintro e w' ⟨rfl, ⟨nd, rfl⟩⟩; refine ⟨_, rfl, ?_⟩) | (go_at_call 46; (with_reducible refine (floor_within.calls a0_1 1 6 false _ A4.out).mono ?_); rintro e w' ⟨rfl, ⟨nd, rfl⟩⟩))
   go_ret
   exact ⟨by first | rfl | (simp [errW_none, errW_some] <;> rfl) | (simp [*, errW_none, errW_some] <;> rfl), by repeat (first | (with_reducible first | exact HB.out | apply bwA | apply bwN | apply bw1 | refine bwS ?_ GE101.out) | exact HB.out)⟩
 ·replace c3 := Bool.eq_false_iff.mpr c3
  subst c3
  have H1 : (some false) = some r := by rw [if_neg (show ¬ (false = true) by decide)] at H; exact H
  clear H
  have H := H1
  clear H1
  obtain rfl := Option.some.inj H
  go_enter Try.func34, Try.ntmps34
  go_wp2_with (first | ((with_reducible refine gate_dst (N := 1) rfl ?_); refine box_event ?hg (N := 1) ?hd (cs := #[.int .i64 a0_0, .int .i64 a0_1, .int .i64 a0_2, .int .i64 a0_3, .int .i64 a0_4, .int .i64 a0_5]) (t := 25) ?hr ?_; (case hd => rfl); (case hg => rfl); (case hr => first | (go_simp; done) | (go_simp; rfl)); intro gb101 hg w23 hbox hb; have n0_ := Aside0.mk (below_step (by repeat (first | (with_reducible first | exact HB.out | apply bwA | apply bwN | apply bw1) | exact HB.out)) hb); have n1_ := Aside0.mk (hbox); have n2_ := Aside0.mk ((by rw [hg]; exact (below_size (by repeat (first | (with_reducible first | exact HB.out | apply bwA | apply bwN | apply bw1) | exact HB.out))) : w.heap.size ≤ gb101)); have n3_ := Aside0.mk ((by rw [hg]; exact (below_size (by repeat (first | (with_reducible first | exact HB.out | apply bwA | apply bwN | apply bw1) | exact HB.out))) : w.heap.size ≤ gb101)); clear HB; have HB := n0_; have BK101 := n1_; have GW101 := n2_; have GE101 := n3_; clear n0_ n1_ n2_ n3_; clear hb hbox hg; obtain ⟨hcz24_0, hcz24_1, hcz24_2, hcz24_3, hcz24_4, hcz24_5, hfz24_0, hfz24_1, hfz24_2, hfz24_3, hfz24_4, hfz24_5⟩ := cf6 BK101.out) | ((with_reducible refine gate_callee (f := 46) rfl ?_); refine goesL_ (some 5) rfl rfl Try.func46 (by kernel_rfl) rfl #[.int .i64 a0_0, .int .i64 1, .int .i64 8] rfl (by (try simp only [List.map_toArray, List.map_cons, List.map_nil]); first | done | rfl | (simp only [List.length_drop, List.length_take]; rfl)) ?_; (with_reducible refine (floor_within.calls a0_0 1 8 false _ A2.out).mono ?_); rintro e w' ⟨rfl, ⟨nd, rfl⟩⟩; refine ⟨_, rfl, ?_⟩))
  go_ret
  exact ⟨by first | rfl | (simp [errW_none, errW_some] <;> rfl) | (simp [*, errW_none, errW_some] <;> rfl), by repeat (first | (with_reducible first | exact HB.out | apply bwA | apply bwN | apply bw1 | refine bwS ?_ GE101.out) | exact HB.out)⟩
def lang_object.f (a0 : Int) : Option (Bool) := if a0 = 1 then (some true) else (if a0 = 2 then (some true) else (some (a0 == 5)))
set_option maxHeartbeats 8000000 in
set_option maxRecDepth 100000 in
theorem lang_object.calls (a0 : Int) (r : Bool) (w : World) (h : lang_object.f a0 = some r) :
  Calls Try.prog 63 #[.int .i64 a0] w fun e w' => e = .returned (.bool r) ∧ Drawn0 w w' := by
 have H : (if a0 = 1 then (some true) else (if a0 = 2 then (some true) else (some (a0 == 5)))) = some r := h
 clear h
 by_cases c2 : a0 = 1
 ·rw [if_pos c2] at H
  have c2b0 : (a0 == 1) = true := beq_iff_eq.mpr c2
  have c2b1 : (a0 != 1) = false := bne_eq_false_iff_eq.mpr c2
  clear c2
  obtain rfl := Option.some.inj H
  go_enter Try.func63, Try.ntmps63
  go_wp2
  go_ret
  exact ⟨by first | rfl | (simp; done) | (simp [*]; done), by repeat (first | exact Drawn0.refl _ | apply Drawn0.step)⟩
 ·rw [if_neg c2] at H
  have c2b0 : (a0 == 1) = false := beq_eq_false_iff_ne.mpr c2
  have c2b1 : (a0 != 1) = true := bne_iff_ne.mpr c2
  by_cases c3 : a0 = 2
  ·rw [if_pos c3] at H
   have c3b0 : (a0 == 2) = true := beq_iff_eq.mpr c3
   have c3b1 : (a0 != 2) = false := bne_eq_false_iff_eq.mpr c3
   clear c3
   obtain rfl := Option.some.inj H
   go_enter Try.func63, Try.ntmps63
   go_wp2
   go_ret
   exact ⟨by first | rfl | (simp; done) | (simp [*]; done), by repeat (first | exact Drawn0.refl _ | apply Drawn0.step)⟩
  ·rw [if_neg c3] at H
   have c3b0 : (a0 == 2) = false := beq_eq_false_iff_ne.mpr c3
   have c3b1 : (a0 != 2) = true := bne_iff_ne.mpr c3
   obtain rfl := Option.some.inj H
   go_enter Try.func63, Try.ntmps63
   go_wp2
   go_ret
   exact ⟨by first | rfl | (simp; done) | (simp [*]; done), by repeat (first | exact Drawn0.refl _ | apply Drawn0.step)⟩
def lang_Ok.f (a0_0 : Int) (a0_1 : Int) (a0_2 : Int) (a1 : Int) : Option (Bool) := (lang_object.f a0_0).bind fun t109 => (if t109 = true then (if a0_1 ≥ 0 then (if a0_1 < a1 then (some (a0_2 == 0)) else (some false)) else (some false)) else (if a0_0 = 3 then (if a0_1 = 0 then (if a0_2 ≥ (-128) then (some (decide (a0_2 ≤ 127))) else (some false)) else (some false)) else (if a0_0 = 4 then (if a0_1 = 0 then (if a0_2 ≥ (-128) then (some (decide (a0_2 ≤ 127))) else (some false)) else (some false)) else (some false))))
set_option maxHeartbeats 8000000 in
set_option maxRecDepth 100000 in
theorem lang_Ok.calls (a0_0 : Int) (a0_1 : Int) (a0_2 : Int) (a1 : Int) (r : Bool) (w : World) (h : lang_Ok.f a0_0 a0_1 a0_2 a1 = some r) :
  Calls Try.prog 61 #[.agg #[.int .i64 a0_0, .int .i64 a0_1, .int .i64 a0_2], .int .i64 a1] w fun e w' => e = .returned (.bool r) ∧ Below w.heap.size w w' := by
 have hu80 := Try.underlying80
 have HB := Aside0.mk (Below.refl w.heap.size w)
 have H : ((lang_object.f a0_0).bind fun t109 => (if t109 = true then (if a0_1 ≥ 0 then (if a0_1 < a1 then (some (a0_2 == 0)) else (some false)) else (some false)) else (if a0_0 = 3 then (if a0_1 = 0 then (if a0_2 ≥ (-128) then (some (decide (a0_2 ≤ 127))) else (some false)) else (some false)) else (if a0_0 = 4 then (if a0_1 = 0 then (if a0_2 ≥ (-128) then (some (decide (a0_2 ≤ 127))) else (some false)) else (some false)) else (some false))))) = some r := h
 clear h
 replace H := Option.bind_eq_some_iff.mp H
 obtain ⟨t109, A30, H⟩ := H
 replace H : (if t109 = true then (if a0_1 ≥ 0 then (if a0_1 < a1 then (some (a0_2 == 0)) else (some false)) else (some false)) else (if a0_0 = 3 then (if a0_1 = 0 then (if a0_2 ≥ (-128) then (some (decide (a0_2 ≤ 127))) else (some false)) else (some false)) else (if a0_0 = 4 then (if a0_1 = 0 then (if a0_2 ≥ (-128) then (some (decide (a0_2 ≤ 127))) else (some false)) else (some false)) else (some false)))) = some r := H
 have A3 := Aside0.mk A30
 clear A30
 by_cases c4 : t109 = true
 ·subst c4
  have H1 : (if a0_1 ≥ 0 then (if a0_1 < a1 then (some (a0_2 == 0)) else (some false)) else (some false)) = some r := by rw [if_pos rfl] at H; exact H
  clear H
  have H := H1
  clear H1
  by_cases c5 : a0_1 ≥ 0
  ·rw [if_pos c5] at H
   have c5b0 : decide (0 ≤ a0_1) = true := decide_eq_true c5
   clear c5
   by_cases c6 : a0_1 < a1
   ·rw [if_pos c6] at H
    have c6b0 : decide (a0_1 < a1) = true := decide_eq_true c6
    clear c6
    obtain rfl := Option.some.inj H
    go_enter Try.func61, Try.ntmps61
    go_wp2_with (first | ((with_reducible refine gate_dst (N := 2) rfl ?_); refine box_event ?hg (N := 2) ?hd (cs := #[.int .i64 a0_0, .int .i64 a0_1, .int .i64 a0_2]) (t := 80) ?hr ?_; (case hd => rfl); (case hg => rfl); (case hr => first | (go_simp; done) | (go_simp; rfl)); intro gb108 hg w7 hbox hb; have n0_ := Aside0.mk (below_step (by repeat (first | (with_reducible first | exact HB.out | apply bwA | apply bwN | apply bw1) | exact HB.out)) hb); have n1_ := Aside0.mk (hbox); have n2_ := Aside0.mk ((by rw [hg]; exact (below_size (by repeat (first | (with_reducible first | exact HB.out | apply bwA | apply bwN | apply bw1) | exact HB.out))) : w.heap.size ≤ gb108)); have n3_ := Aside0.mk ((by rw [hg]; exact (below_size (by repeat (first | (with_reducible first | exact HB.out | apply bwA | apply bwN | apply bw1) | exact HB.out))) : w.heap.size ≤ gb108)); clear HB; have HB := n0_; have BK108 := n1_; have GW108 := n2_; have GE108 := n3_; clear n0_ n1_ n2_ n3_; clear hb hbox hg; have hcz8_0 : w7.cell? ⟨gb108, 0, none⟩ = some (.int .i64 a0_0) := (blk_cell BK108.out 0).trans rfl; have hcz8_1 : w7.cell? ⟨gb108, 1, none⟩ = some (.int .i64 a0_1) := (blk_cell BK108.out 1).trans rfl; have hcz8_2 : w7.cell? ⟨gb108, 2, none⟩ = some (.int .i64 a0_2) := (blk_cell BK108.out 2).trans rfl; have hfz8_0 := blk_frozen BK108.out 0; have hfz8_1 := blk_frozen BK108.out 1; have hfz8_2 := blk_frozen BK108.out 2) | ((with_reducible refine gate_callee (f := 63) rfl ?_); refine goesL_ (some 8) rfl rfl Try.func63 (by kernel_rfl) rfl #[.int .i64 a0_0] rfl (by (try simp only [List.map_toArray, List.map_cons, List.map_nil]); first | done | rfl | (simp only [List.length_drop, List.length_take]; rfl)) ?_; (with_reducible refine (lang_object.calls a0_0 true _ A3.out).mono ?_); rintro e w' ⟨rfl, ⟨nd, rfl⟩⟩; refine ⟨_, rfl, ?_⟩))
    go_ret
    exact ⟨by first | rfl | (simp [errW_none, errW_some] <;> rfl) | (simp [*, errW_none, errW_some] <;> rfl), by repeat (first | (with_reducible first | exact HB.out | apply bwA | apply bwN | apply bw1 | refine bwS ?_ GE108.out) | exact HB.out)⟩
   ·rw [if_neg c6] at H
    have c6b0 : decide (a0_1 < a1) = false := decide_eq_false c6
    clear c6
    obtain rfl := Option.some.inj H
    go_enter Try.func61, Try.ntmps61
    go_wp2_with (first | ((with_reducible refine gate_dst (N := 2) rfl ?_); refine box_event ?hg (N := 2) ?hd (cs := #[.int .i64 a0_0, .int .i64 a0_1, .int .i64 a0_2]) (t := 80) ?hr ?_; (case hd => rfl); (case hg => rfl); (case hr => first | (go_simp; done) | (go_simp; rfl)); intro gb108 hg w9 hbox hb; have n0_ := Aside0.mk (below_step (by repeat (first | (with_reducible first | exact HB.out | apply bwA | apply bwN | apply bw1) | exact HB.out)) hb); have n1_ := Aside0.mk (hbox); have n2_ := Aside0.mk ((by rw [hg]; exact (below_size (by repeat (first | (with_reducible first | exact HB.out | apply bwA | apply bwN | apply bw1) | exact HB.out))) : w.heap.size ≤ gb108)); have n3_ := Aside0.mk ((by rw [hg]; exact (below_size (by repeat (first | (with_reducible first | exact HB.out | apply bwA | apply bwN | apply bw1) | exact HB.out))) : w.heap.size ≤ gb108)); clear HB; have HB := n0_; have BK108 := n1_; have GW108 := n2_; have GE108 := n3_; clear n0_ n1_ n2_ n3_; clear hb hbox hg; have hcz10_0 : w9.cell? ⟨gb108, 0, none⟩ = some (.int .i64 a0_0) := (blk_cell BK108.out 0).trans rfl; have hcz10_1 : w9.cell? ⟨gb108, 1, none⟩ = some (.int .i64 a0_1) := (blk_cell BK108.out 1).trans rfl; have hcz10_2 : w9.cell? ⟨gb108, 2, none⟩ = some (.int .i64 a0_2) := (blk_cell BK108.out 2).trans rfl; have hfz10_0 := blk_frozen BK108.out 0; have hfz10_1 := blk_frozen BK108.out 1; have hfz10_2 := blk_frozen BK108.out 2) | ((with_reducible refine gate_callee (f := 63) rfl ?_); refine goesL_ (some 8) rfl rfl Try.func63 (by kernel_rfl) rfl #[.int .i64 a0_0] rfl (by (try simp only [List.map_toArray, List.map_cons, List.map_nil]); first | done | rfl | (simp only [List.length_drop, List.length_take]; rfl)) ?_; (with_reducible refine (lang_object.calls a0_0 true _ A3.out).mono ?_); rintro e w' ⟨rfl, ⟨nd, rfl⟩⟩; refine ⟨_, rfl, ?_⟩))
    go_ret
    exact ⟨by first | rfl | (simp [errW_none, errW_some] <;> rfl) | (simp [*, errW_none, errW_some] <;> rfl), by repeat (first | (with_reducible first | exact HB.out | apply bwA | apply bwN | apply bw1 | refine bwS ?_ GE108.out) | exact HB.out)⟩
  ·rw [if_neg c5] at H
   have c5b0 : decide (0 ≤ a0_1) = false := decide_eq_false c5
   clear c5
   obtain rfl := Option.some.inj H
   go_enter Try.func61, Try.ntmps61
   go_wp2_with (first | ((with_reducible refine gate_dst (N := 2) rfl ?_); refine box_event ?hg (N := 2) ?hd (cs := #[.int .i64 a0_0, .int .i64 a0_1, .int .i64 a0_2]) (t := 80) ?hr ?_; (case hd => rfl); (case hg => rfl); (case hr => first | (go_simp; done) | (go_simp; rfl)); intro gb108 hg w11 hbox hb; have n0_ := Aside0.mk (below_step (by repeat (first | (with_reducible first | exact HB.out | apply bwA | apply bwN | apply bw1) | exact HB.out)) hb); have n1_ := Aside0.mk (hbox); have n2_ := Aside0.mk ((by rw [hg]; exact (below_size (by repeat (first | (with_reducible first | exact HB.out | apply bwA | apply bwN | apply bw1) | exact HB.out))) : w.heap.size ≤ gb108)); have n3_ := Aside0.mk ((by rw [hg]; exact (below_size (by repeat (first | (with_reducible first | exact HB.out | apply bwA | apply bwN | apply bw1) | exact HB.out))) : w.heap.size ≤ gb108)); clear HB; have HB := n0_; have BK108 := n1_; have GW108 := n2_; have GE108 := n3_; clear n0_ n1_ n2_ n3_; clear hb hbox hg; have hcz12_0 : w11.cell? ⟨gb108, 0, none⟩ = some (.int .i64 a0_0) := (blk_cell BK108.out 0).trans rfl; have hcz12_1 : w11.cell? ⟨gb108, 1, none⟩ = some (.int .i64 a0_1) := (blk_cell BK108.out 1).trans rfl; have hcz12_2 : w11.cell? ⟨gb108, 2, none⟩ = some (.int .i64 a0_2) := (blk_cell BK108.out 2).trans rfl; have hfz12_0 := blk_frozen BK108.out 0; have hfz12_1 := blk_frozen BK108.out 1; have hfz12_2 := blk_frozen BK108.out 2) | ((with_reducible refine gate_callee (f := 63) rfl ?_); refine goesL_ (some 8) rfl rfl Try.func63 (by kernel_rfl) rfl #[.int .i64 a0_0] rfl (by (try simp only [List.map_toArray, List.map_cons, List.map_nil]); first | done | rfl | (simp only [List.length_drop, List.length_take]; rfl)) ?_; (with_reducible refine (lang_object.calls a0_0 true _ A3.out).mono ?_); rintro e w' ⟨rfl, ⟨nd, rfl⟩⟩; refine ⟨_, rfl, ?_⟩))
   go_ret
   exact ⟨by first | rfl | (simp [errW_none, errW_some] <;> rfl) | (simp [*, errW_none, errW_some] <;> rfl), by repeat (first | (with_reducible first | exact HB.out | apply bwA | apply bwN | apply bw1 | refine bwS ?_ GE108.out) | exact HB.out)⟩
 ·replace c4 := Bool.eq_false_iff.mpr c4
  subst c4
  have H1 : (if a0_0 = 3 then (if a0_1 = 0 then (if a0_2 ≥ (-128) then (some (decide (a0_2 ≤ 127))) else (some false)) else (some false)) else (if a0_0 = 4 then (if a0_1 = 0 then (if a0_2 ≥ (-128) then (some (decide (a0_2 ≤ 127))) else (some false)) else (some false)) else (some false))) = some r := by rw [if_neg (show ¬ (false = true) by decide)] at H; exact H
  clear H
  have H := H1
  clear H1
  by_cases c13 : a0_0 = 3
  ·rw [if_pos c13] at H
   have c13b0 : (a0_0 == 3) = true := beq_iff_eq.mpr c13
   have c13b1 : (a0_0 != 3) = false := bne_eq_false_iff_eq.mpr c13
   clear c13
   by_cases c14 : a0_1 = 0
   ·rw [if_pos c14] at H
    have c14b0 : (a0_1 == 0) = true := beq_iff_eq.mpr c14
    have c14b1 : (a0_1 != 0) = false := bne_eq_false_iff_eq.mpr c14
    clear c14
    by_cases c15 : a0_2 ≥ (-128)
    ·rw [if_pos c15] at H
     have c15b0 : decide ((-128) ≤ a0_2) = true := decide_eq_true c15
     clear c15
     obtain rfl := Option.some.inj H
     go_enter Try.func61, Try.ntmps61
     go_wp2_with (first | ((with_reducible refine gate_dst (N := 2) rfl ?_); refine box_event ?hg (N := 2) ?hd (cs := #[.int .i64 a0_0, .int .i64 a0_1, .int .i64 a0_2]) (t := 80) ?hr ?_; (case hd => rfl); (case hg => rfl); (case hr => first | (go_simp; done) | (go_simp; rfl)); intro gb108 hg w16 hbox hb; have n0_ := Aside0.mk (below_step (by repeat (first | (with_reducible first | exact HB.out | apply bwA | apply bwN | apply bw1) | exact HB.out)) hb); have n1_ := Aside0.mk (hbox); have n2_ := Aside0.mk ((by rw [hg]; exact (below_size (by repeat (first | (with_reducible first | exact HB.out | apply bwA | apply bwN | apply bw1) | exact HB.out))) : w.heap.size ≤ gb108)); have n3_ := Aside0.mk ((by rw [hg]; exact (below_size (by repeat (first | (with_reducible first | exact HB.out | apply bwA | apply bwN | apply bw1) | exact HB.out))) : w.heap.size ≤ gb108)); clear HB; have HB := n0_; have BK108 := n1_; have GW108 := n2_; have GE108 := n3_; clear n0_ n1_ n2_ n3_; clear hb hbox hg; have hcz17_0 : w16.cell? ⟨gb108, 0, none⟩ = some (.int .i64 a0_0) := (blk_cell BK108.out 0).trans rfl; have hcz17_1 : w16.cell? ⟨gb108, 1, none⟩ = some (.int .i64 a0_1) := (blk_cell BK108.out 1).trans rfl; have hcz17_2 : w16.cell? ⟨gb108, 2, none⟩ = some (.int .i64 a0_2) := (blk_cell BK108.out 2).trans rfl; have hfz17_0 := blk_frozen BK108.out 0; have hfz17_1 := blk_frozen BK108.out 1; have hfz17_2 := blk_frozen BK108.out 2) | ((with_reducible refine gate_callee (f := 63) rfl ?_); refine goesL_ (some 8) rfl rfl Try.func63 (by kernel_rfl) rfl #[.int .i64 a0_0] rfl (by (try simp only [List.map_toArray, List.map_cons, List.map_nil]); first | done | rfl | (simp only [List.length_drop, List.length_take]; rfl)) ?_; (with_reducible refine (lang_object.calls a0_0 false _ A3.out).mono ?_); rintro e w' ⟨rfl, ⟨nd, rfl⟩⟩; refine ⟨_, rfl, ?_⟩))
     go_ret
     exact ⟨by first | rfl | (simp [errW_none, errW_some] <;> rfl) | (simp [*, errW_none, errW_some] <;> rfl), by repeat (first | (with_reducible first | exact HB.out | apply bwA | apply bwN | apply bw1 | refine bwS ?_ GE108.out) | exact HB.out)⟩
    ·rw [if_neg c15] at H
     have c15b0 : decide ((-128) ≤ a0_2) = false := decide_eq_false c15
     clear c15
     obtain rfl := Option.some.inj H
     go_enter Try.func61, Try.ntmps61
     go_wp2_with (first | ((with_reducible refine gate_dst (N := 2) rfl ?_); refine box_event ?hg (N := 2) ?hd (cs := #[.int .i64 a0_0, .int .i64 a0_1, .int .i64 a0_2]) (t := 80) ?hr ?_; (case hd => rfl); (case hg => rfl); (case hr => first | (go_simp; done) | (go_simp; rfl)); intro gb108 hg w18 hbox hb; have n0_ := Aside0.mk (below_step (by repeat (first | (with_reducible first | exact HB.out | apply bwA | apply bwN | apply bw1) | exact HB.out)) hb); have n1_ := Aside0.mk (hbox); have n2_ := Aside0.mk ((by rw [hg]; exact (below_size (by repeat (first | (with_reducible first | exact HB.out | apply bwA | apply bwN | apply bw1) | exact HB.out))) : w.heap.size ≤ gb108)); have n3_ := Aside0.mk ((by rw [hg]; exact (below_size (by repeat (first | (with_reducible first | exact HB.out | apply bwA | apply bwN | apply bw1) | exact HB.out))) : w.heap.size ≤ gb108)); clear HB; have HB := n0_; have BK108 := n1_; have GW108 := n2_; have GE108 := n3_; clear n0_ n1_ n2_ n3_; clear hb hbox hg; have hcz19_0 : w18.cell? ⟨gb108, 0, none⟩ = some (.int .i64 a0_0) := (blk_cell BK108.out 0).trans rfl; have hcz19_1 : w18.cell? ⟨gb108, 1, none⟩ = some (.int .i64 a0_1) := (blk_cell BK108.out 1).trans rfl; have hcz19_2 : w18.cell? ⟨gb108, 2, none⟩ = some (.int .i64 a0_2) := (blk_cell BK108.out 2).trans rfl; have hfz19_0 := blk_frozen BK108.out 0; have hfz19_1 := blk_frozen BK108.out 1; have hfz19_2 := blk_frozen BK108.out 2) | ((with_reducible refine gate_callee (f := 63) rfl ?_); refine goesL_ (some 8) rfl rfl Try.func63 (by kernel_rfl) rfl #[.int .i64 a0_0] rfl (by (try simp only [List.map_toArray, List.map_cons, List.map_nil]); first | done | rfl | (simp only [List.length_drop, List.length_take]; rfl)) ?_; (with_reducible refine (lang_object.calls a0_0 false _ A3.out).mono ?_); rintro e w' ⟨rfl, ⟨nd, rfl⟩⟩; refine ⟨_, rfl, ?_⟩))
     go_ret
     exact ⟨by first | rfl | (simp [errW_none, errW_some] <;> rfl) | (simp [*, errW_none, errW_some] <;> rfl), by repeat (first | (with_reducible first | exact HB.out | apply bwA | apply bwN | apply bw1 | refine bwS ?_ GE108.out) | exact HB.out)⟩
   ·rw [if_neg c14] at H
    have c14b0 : (a0_1 == 0) = false := beq_eq_false_iff_ne.mpr c14
    have c14b1 : (a0_1 != 0) = true := bne_iff_ne.mpr c14
    obtain rfl := Option.some.inj H
    go_enter Try.func61, Try.ntmps61
    go_wp2_with (first | ((with_reducible refine gate_dst (N := 2) rfl ?_); refine box_event ?hg (N := 2) ?hd (cs := #[.int .i64 a0_0, .int .i64 a0_1, .int .i64 a0_2]) (t := 80) ?hr ?_; (case hd => rfl); (case hg => rfl); (case hr => first | (go_simp; done) | (go_simp; rfl)); intro gb108 hg w20 hbox hb; have n0_ := Aside0.mk (below_step (by repeat (first | (with_reducible first | exact HB.out | apply bwA | apply bwN | apply bw1) | exact HB.out)) hb); have n1_ := Aside0.mk (hbox); have n2_ := Aside0.mk ((by rw [hg]; exact (below_size (by repeat (first | (with_reducible first | exact HB.out | apply bwA | apply bwN | apply bw1) | exact HB.out))) : w.heap.size ≤ gb108)); have n3_ := Aside0.mk ((by rw [hg]; exact (below_size (by repeat (first | (with_reducible first | exact HB.out | apply bwA | apply bwN | apply bw1) | exact HB.out))) : w.heap.size ≤ gb108)); clear HB; have HB := n0_; have BK108 := n1_; have GW108 := n2_; have GE108 := n3_; clear n0_ n1_ n2_ n3_; clear hb hbox hg; have hcz21_0 : w20.cell? ⟨gb108, 0, none⟩ = some (.int .i64 a0_0) := (blk_cell BK108.out 0).trans rfl; have hcz21_1 : w20.cell? ⟨gb108, 1, none⟩ = some (.int .i64 a0_1) := (blk_cell BK108.out 1).trans rfl; have hcz21_2 : w20.cell? ⟨gb108, 2, none⟩ = some (.int .i64 a0_2) := (blk_cell BK108.out 2).trans rfl; have hfz21_0 := blk_frozen BK108.out 0; have hfz21_1 := blk_frozen BK108.out 1; have hfz21_2 := blk_frozen BK108.out 2) | ((with_reducible refine gate_callee (f := 63) rfl ?_); refine goesL_ (some 8) rfl rfl Try.func63 (by kernel_rfl) rfl #[.int .i64 a0_0] rfl (by (try simp only [List.map_toArray, List.map_cons, List.map_nil]); first | done | rfl | (simp only [List.length_drop, List.length_take]; rfl)) ?_; (with_reducible refine (lang_object.calls a0_0 false _ A3.out).mono ?_); rintro e w' ⟨rfl, ⟨nd, rfl⟩⟩; refine ⟨_, rfl, ?_⟩))
    go_ret
    exact ⟨by first | rfl | (simp [errW_none, errW_some] <;> rfl) | (simp [*, errW_none, errW_some] <;> rfl), by repeat (first | (with_reducible first | exact HB.out | apply bwA | apply bwN | apply bw1 | refine bwS ?_ GE108.out) | exact HB.out)⟩
  ·rw [if_neg c13] at H
   have c13b0 : (a0_0 == 3) = false := beq_eq_false_iff_ne.mpr c13
   have c13b1 : (a0_0 != 3) = true := bne_iff_ne.mpr c13
   by_cases c22 : a0_0 = 4
   ·rw [if_pos c22] at H
    have c22b0 : (a0_0 == 4) = true := beq_iff_eq.mpr c22
    have c22b1 : (a0_0 != 4) = false := bne_eq_false_iff_eq.mpr c22
    clear c22
    by_cases c23 : a0_1 = 0
    ·rw [if_pos c23] at H
     have c23b0 : (a0_1 == 0) = true := beq_iff_eq.mpr c23
     have c23b1 : (a0_1 != 0) = false := bne_eq_false_iff_eq.mpr c23
     clear c23
     by_cases c24 : a0_2 ≥ (-128)
     ·rw [if_pos c24] at H
      have c24b0 : decide ((-128) ≤ a0_2) = true := decide_eq_true c24
      clear c24
      obtain rfl := Option.some.inj H
      go_enter Try.func61, Try.ntmps61
      go_wp2_with (first | ((with_reducible refine gate_dst (N := 2) rfl ?_); refine box_event ?hg (N := 2) ?hd (cs := #[.int .i64 a0_0, .int .i64 a0_1, .int .i64 a0_2]) (t := 80) ?hr ?_; (case hd => rfl); (case hg => rfl); (case hr => first | (go_simp; done) | (go_simp; rfl)); intro gb108 hg w25 hbox hb; have n0_ := Aside0.mk (below_step (by repeat (first | (with_reducible first | exact HB.out | apply bwA | apply bwN | apply bw1) | exact HB.out)) hb); have n1_ := Aside0.mk (hbox); have n2_ := Aside0.mk ((by rw [hg]; exact (below_size (by repeat (first | (with_reducible first | exact HB.out | apply bwA | apply bwN | apply bw1) | exact HB.out))) : w.heap.size ≤ gb108)); have n3_ := Aside0.mk ((by rw [hg]; exact (below_size (by repeat (first | (with_reducible first | exact HB.out | apply bwA | apply bwN | apply bw1) | exact HB.out))) : w.heap.size ≤ gb108)); clear HB; have HB := n0_; have BK108 := n1_; have GW108 := n2_; have GE108 := n3_; clear n0_ n1_ n2_ n3_; clear hb hbox hg; have hcz26_0 : w25.cell? ⟨gb108, 0, none⟩ = some (.int .i64 a0_0) := (blk_cell BK108.out 0).trans rfl; have hcz26_1 : w25.cell? ⟨gb108, 1, none⟩ = some (.int .i64 a0_1) := (blk_cell BK108.out 1).trans rfl; have hcz26_2 : w25.cell? ⟨gb108, 2, none⟩ = some (.int .i64 a0_2) := (blk_cell BK108.out 2).trans rfl; have hfz26_0 := blk_frozen BK108.out 0; have hfz26_1 := blk_frozen BK108.out 1; have hfz26_2 := blk_frozen BK108.out 2) | ((with_reducible refine gate_callee (f := 63) rfl ?_); refine goesL_ (some 8) rfl rfl Try.func63 (by kernel_rfl) rfl #[.int .i64 a0_0] rfl (by (try simp only [List.map_toArray, List.map_cons, List.map_nil]); first | done | rfl | (simp only [List.length_drop, List.length_take]; rfl)) ?_; (with_reducible refine (lang_object.calls a0_0 false _ A3.out).mono ?_); rintro e w' ⟨rfl, ⟨nd, rfl⟩⟩; refine ⟨_, rfl, ?_⟩))
      go_ret
      exact ⟨by first | rfl | (simp [errW_none, errW_some] <;> rfl) | (simp [*, errW_none, errW_some] <;> rfl), by repeat (first | (with_reducible first | exact HB.out | apply bwA | apply bwN | apply bw1 | refine bwS ?_ GE108.out) | exact HB.out)⟩
     ·rw [if_neg c24] at H
      have c24b0 : decide ((-128) ≤ a0_2) = false := decide_eq_false c24
      clear c24
      obtain rfl := Option.some.inj H
      go_enter Try.func61, Try.ntmps61
      go_wp2_with (first | ((with_reducible refine gate_dst (N := 2) rfl ?_); refine box_event ?hg (N := 2) ?hd (cs := #[.int .i64 a0_0, .int .i64 a0_1, .int .i64 a0_2]) (t := 80) ?hr ?_; (case hd => rfl); (case hg => rfl); (case hr => first | (go_simp; done) | (go_simp; rfl)); intro gb108 hg w27 hbox hb; have n0_ := Aside0.mk (below_step (by repeat (first | (with_reducible first | exact HB.out | apply bwA | apply bwN | apply bw1) | exact HB.out)) hb); have n1_ := Aside0.mk (hbox); have n2_ := Aside0.mk ((by rw [hg]; exact (below_size (by repeat (first | (with_reducible first | exact HB.out | apply bwA | apply bwN | apply bw1) | exact HB.out))) : w.heap.size ≤ gb108)); have n3_ := Aside0.mk ((by rw [hg]; exact (below_size (by repeat (first | (with_reducible first | exact HB.out | apply bwA | apply bwN | apply bw1) | exact HB.out))) : w.heap.size ≤ gb108)); clear HB; have HB := n0_; have BK108 := n1_; have GW108 := n2_; have GE108 := n3_; clear n0_ n1_ n2_ n3_; clear hb hbox hg; have hcz28_0 : w27.cell? ⟨gb108, 0, none⟩ = some (.int .i64 a0_0) := (blk_cell BK108.out 0).trans rfl; have hcz28_1 : w27.cell? ⟨gb108, 1, none⟩ = some (.int .i64 a0_1) := (blk_cell BK108.out 1).trans rfl; have hcz28_2 : w27.cell? ⟨gb108, 2, none⟩ = some (.int .i64 a0_2) := (blk_cell BK108.out 2).trans rfl; have hfz28_0 := blk_frozen BK108.out 0; have hfz28_1 := blk_frozen BK108.out 1; have hfz28_2 := blk_frozen BK108.out 2) | ((with_reducible refine gate_callee (f := 63) rfl ?_); refine goesL_ (some 8) rfl rfl Try.func63 (by kernel_rfl) rfl #[.int .i64 a0_0] rfl (by (try simp only [List.map_toArray, List.map_cons, List.map_nil]); first | done | rfl | (simp only [List.length_drop, List.length_take]; rfl)) ?_; (with_reducible refine (lang_object.calls a0_0 false _ A3.out).mono ?_); rintro e w' ⟨rfl, ⟨nd, rfl⟩⟩; refine ⟨_, rfl, ?_⟩))
      go_ret
      exact ⟨by first | rfl | (simp [errW_none, errW_some] <;> rfl) | (simp [*, errW_none, errW_some] <;> rfl), by repeat (first | (with_reducible first | exact HB.out | apply bwA | apply bwN | apply bw1 | refine bwS ?_ GE108.out) | exact HB.out)⟩
    ·rw [if_neg c23] at H
     have c23b0 : (a0_1 == 0) = false := beq_eq_false_iff_ne.mpr c23
     have c23b1 : (a0_1 != 0) = true := bne_iff_ne.mpr c23
     obtain rfl := Option.some.inj H
     go_enter Try.func61, Try.ntmps61
     go_wp2_with (first | ((with_reducible refine gate_dst (N := 2) rfl ?_); refine box_event ?hg (N := 2) ?hd (cs := #[.int .i64 a0_0, .int .i64 a0_1, .int .i64 a0_2]) (t := 80) ?hr ?_; (case hd => rfl); (case hg => rfl); (case hr => first | (go_simp; done) | (go_simp; rfl)); intro gb108 hg w29 hbox hb; have n0_ := Aside0.mk (below_step (by repeat (first | (with_reducible first | exact HB.out | apply bwA | apply bwN | apply bw1) | exact HB.out)) hb); have n1_ := Aside0.mk (hbox); have n2_ := Aside0.mk ((by rw [hg]; exact (below_size (by repeat (first | (with_reducible first | exact HB.out | apply bwA | apply bwN | apply bw1) | exact HB.out))) : w.heap.size ≤ gb108)); have n3_ := Aside0.mk ((by rw [hg]; exact (below_size (by repeat (first | (with_reducible first | exact HB.out | apply bwA | apply bwN | apply bw1) | exact HB.out))) : w.heap.size ≤ gb108)); clear HB; have HB := n0_; have BK108 := n1_; have GW108 := n2_; have GE108 := n3_; clear n0_ n1_ n2_ n3_; clear hb hbox hg; have hcz30_0 : w29.cell? ⟨gb108, 0, none⟩ = some (.int .i64 a0_0) := (blk_cell BK108.out 0).trans rfl; have hcz30_1 : w29.cell? ⟨gb108, 1, none⟩ = some (.int .i64 a0_1) := (blk_cell BK108.out 1).trans rfl; have hcz30_2 : w29.cell? ⟨gb108, 2, none⟩ = some (.int .i64 a0_2) := (blk_cell BK108.out 2).trans rfl; have hfz30_0 := blk_frozen BK108.out 0; have hfz30_1 := blk_frozen BK108.out 1; have hfz30_2 := blk_frozen BK108.out 2) | ((with_reducible refine gate_callee (f := 63) rfl ?_); refine goesL_ (some 8) rfl rfl Try.func63 (by kernel_rfl) rfl #[.int .i64 a0_0] rfl (by (try simp only [List.map_toArray, List.map_cons, List.map_nil]); first | done | rfl | (simp only [List.length_drop, List.length_take]; rfl)) ?_; (with_reducible refine (lang_object.calls a0_0 false _ A3.out).mono ?_); rintro e w' ⟨rfl, ⟨nd, rfl⟩⟩; refine ⟨_, rfl, ?_⟩))
     go_ret
     exact ⟨by first | rfl | (simp [errW_none, errW_some] <;> rfl) | (simp [*, errW_none, errW_some] <;> rfl), by repeat (first | (with_reducible first | exact HB.out | apply bwA | apply bwN | apply bw1 | refine bwS ?_ GE108.out) | exact HB.out)⟩
   ·rw [if_neg c22] at H
    have c22b0 : (a0_0 == 4) = false := beq_eq_false_iff_ne.mpr c22
    have c22b1 : (a0_0 != 4) = true := bne_iff_ne.mpr c22
    obtain rfl := Option.some.inj H
    go_enter Try.func61, Try.ntmps61
    go_wp2_with (first | ((with_reducible refine gate_dst (N := 2) rfl ?_); refine box_event ?hg (N := 2) ?hd (cs := #[.int .i64 a0_0, .int .i64 a0_1, .int .i64 a0_2]) (t := 80) ?hr ?_; (case hd => rfl); (case hg => rfl); (case hr => first | (go_simp; done) | (go_simp; rfl)); intro gb108 hg w31 hbox hb; have n0_ := Aside0.mk (below_step (by repeat (first | (with_reducible first | exact HB.out | apply bwA | apply bwN | apply bw1) | exact HB.out)) hb); have n1_ := Aside0.mk (hbox); have n2_ := Aside0.mk ((by rw [hg]; exact (below_size (by repeat (first | (with_reducible first | exact HB.out | apply bwA | apply bwN | apply bw1) | exact HB.out))) : w.heap.size ≤ gb108)); have n3_ := Aside0.mk ((by rw [hg]; exact (below_size (by repeat (first | (with_reducible first | exact HB.out | apply bwA | apply bwN | apply bw1) | exact HB.out))) : w.heap.size ≤ gb108)); clear HB; have HB := n0_; have BK108 := n1_; have GW108 := n2_; have GE108 := n3_; clear n0_ n1_ n2_ n3_; clear hb hbox hg; have hcz32_0 : w31.cell? ⟨gb108, 0, none⟩ = some (.int .i64 a0_0) := (blk_cell BK108.out 0).trans rfl; have hcz32_1 : w31.cell? ⟨gb108, 1, none⟩ = some (.int .i64 a0_1) := (blk_cell BK108.out 1).trans rfl; have hcz32_2 : w31.cell? ⟨gb108, 2, none⟩ = some (.int .i64 a0_2) := (blk_cell BK108.out 2).trans rfl; have hfz32_0 := blk_frozen BK108.out 0; have hfz32_1 := blk_frozen BK108.out 1; have hfz32_2 := blk_frozen BK108.out 2) | ((with_reducible refine gate_callee (f := 63) rfl ?_); refine goesL_ (some 8) rfl rfl Try.func63 (by kernel_rfl) rfl #[.int .i64 a0_0] rfl (by (try simp only [List.map_toArray, List.map_cons, List.map_nil]); first | done | rfl | (simp only [List.length_drop, List.length_take]; rfl)) ?_; (with_reducible refine (lang_object.calls a0_0 false _ A3.out).mono ?_); rintro e w' ⟨rfl, ⟨nd, rfl⟩⟩; refine ⟨_, rfl, ?_⟩))
    go_ret
    exact ⟨by first | rfl | (simp [errW_none, errW_some] <;> rfl) | (simp [*, errW_none, errW_some] <;> rfl), by repeat (first | (with_reducible first | exact HB.out | apply bwA | apply bwN | apply bw1 | refine bwS ?_ GE108.out) | exact HB.out)⟩
end Go.Proofs.Ythfkgnkojhocbaa.S
end
section
namespace Go.Proofs.Ythfkgnkojhocbaa.S
open Go.RowKit Go.Proofs.YthfkgnkojhocbaaW.PrintWords Go.Proofs.YthfkgnkojhocbaaW.PrintLast Go.Proofs.YthfkgnkojhocbaaW.PrintMore
attribute [local go_sem] max2_int min2_int max_two min_two max_three min_three max_four min_four
set_option linter.unusedVariables false
set_option linter.unusedSimpArgs false
def lang_Get.l0 : Nat → List Int → Int → List (S80) → Int → Option ((List (S80)) × Int × Int)
  | 0, _, _, _, _ => none
  | k + 1, x0, x1, x7, x8 => if x8 < (x0.length : Int) then (if (wrap64 ((x0.length : Int) - x8)) < 3 then (some (([] : List (S80)), x8, 9)) else (if 0 ≤ x8 then (if 0 ≤ (wrap64 (x8 + 1)) then (if (wrap64 (x8 + 1)) < (x0.length : Int) then (if 0 ≤ (wrap64 (x8 + 2)) then (if (wrap64 (x8 + 2)) < (x0.length : Int) then ((lang_Ok.f (wrap64 (rd x0 x8)) (wrap64 (rd x0 (wrap64 (x8 + 1)))) (wrap64 (IntKind.i8.wrap (rd x0 (wrap64 (x8 + 2))))) x1).bind fun t114 => (if t114 = true then (if x7.length < 5864062014805 then (lang_Get.l0 k x0 x1 (x7 ++ [(⟨wrap64 (rd x0 x8), wrap64 (rd x0 (wrap64 (x8 + 1))), wrap64 (IntKind.i8.wrap (rd x0 (wrap64 (x8 + 2))))⟩ : S80)]) (wrap64 (x8 + 3))) else (none)) else (some (([] : List (S80)), x8, 3)))) else (none)) else (none)) else (none)) else (none)) else (none))) else (some (x7, (-1), 0))
def lang_Get.f (k : Nat) (l0 : List Int) (a1 : Int) : Option ((List (S80)) × Int × Int) := lang_Get.l0 k l0 a1 ([] : List (S80)) 0
theorem lang_Get.mono_l : ∀ k, (∀ y0 y1 y2 y3, LeO (lang_Get.l0 k y0 y1 y2 y3) (lang_Get.l0 (k + 1) y0 y1 y2 y3))
  | 0 => fun _ _ _ _ r h => by simp [lang_Get.l0] at h
  | k + 1 => by
    have ih0 := lang_Get.mono_l k
    · intro y0 y1 y2 y3
      unfold lang_Get.l0
      repeat' first
      | (with_reducible exact ih0 _ _ _ _)
      | (with_reducible exact LeO.refl _)
      | (with_reducible exact LeO.none _)
      | (with_reducible refine LeO.ite ?_ ?_)
      | (with_reducible refine LeO.bind ?_ (fun _ => ?_))
      | exact ih0 _ _ _ _
      | exact LeO.none _
      | refine LeO.ite ?_ ?_
      | refine LeO.bind ?_ (fun _ => ?_)
theorem lang_Get.mono : ∀ a0 a1 k, LeO (lang_Get.f k a0 a1) (lang_Get.f (k + 1) a0 a1) := by
  intro a0 a1 k
  have ih0 := lang_Get.mono_l k
  unfold lang_Get.f
  repeat' first
      | (with_reducible exact ih0 _ _ _ _)
      | (with_reducible exact LeO.refl _)
      | (with_reducible exact LeO.none _)
      | (with_reducible refine LeO.ite ?_ ?_)
      | (with_reducible refine LeO.bind ?_ (fun _ => ?_))
      | exact ih0 _ _ _ _
      | exact LeO.none _
      | refine LeO.ite ?_ ?_
      | refine LeO.bind ?_ (fun _ => ?_)
def lang_Get.T7 : Bool × List (List Nat × List Nat) := (true, [([], []), ([], []), ([0, 1], [0, 1]), ([2], [2]), ([3], [3]), ([], []), ([], []), ([6], [6]), ([5, 7], [5, 7]), ([8], [8]), ([9], [9]), ([], []), ([], []), ([12], [12]), ([11, 13], [11, 13]), ([14], [14]), ([15], [15]), ([16], [16]), ([4, 10, 17], [4, 10, 17]), ([], []), ([19, 18, 0, 1, 2, 3, 4, 5, 6, 7, 8, 9, 10, 11, 12, 13, 14, 15, 16, 17, 18, 19], [18, 19])])
def lang_Get.B7 : List Nat := [0, 0, 3, 7, 15, 0, 0, 64, 224, 480, 992, 0, 0, 4096, 14336, 30720, 63488, 129024, 262143, 0, 1048575]
theorem lang_Get.tab7 : rtab .any (opsOf Try.f55 7) = lang_Get.T7 := by kernel_rfl
theorem lang_Get.bits7 : waitsOk lang_Get.T7.2 lang_Get.B7 = true := by kernel_rfl
set_option maxHeartbeats 8000000 in
set_option maxRecDepth 100000 in
theorem lang_Get.calls (k : Nat) (A0 : Option Addr) (c0 : Nat) (l0 : List Int) (a1 : Int) (r1 : List (S80)) (r2 : Int) (r3 : Int) (w : World) (hr0 : Kd.C (Kd.int .u8) w A0 l0.length l0) (hc0 : l0.length ≤ c0) (h : lang_Get.f k l0 a1 = some (r1, r2, r3)) :
  Calls Try.prog 55 #[.slice A0 l0.length c0, .int .i64 a1] w fun e w' => ∃ v0_ : Value, e = .returned (.tuple #[v0_, .int .i64 r2, .int .i64 r3]) ∧ Kd.R k80 80 w' w.heap.size (fun _ => True) v0_ r1 ∧ Below w.heap.size w w' := by
 have hu80 := Try.underlying80
 have HR0 := Aside0.mk hr0
 have HC0 := Aside0.mk hc0
 clear hr0 hc0
 have HB := Aside0.mk (Below.refl w.heap.size w)
 have H : (lang_Get.l0 k l0 a1 ([] : List (S80)) 0) = some (r1, r2, r3) := h
 clear h
 have H' := Aside0.mk H
 clear H
 go_enter Try.func55, Try.ntmps55
 go_wp2
 go_loopg [7, 8] k (fun kq v7 v8 w' => ∃ (x7_1 : List (S80)) (x8_1 : Int), v8 = .int .i64 x8_1 ∧ Aside0 (lang_Get.l0 kq l0 a1 x7_1 x8_1 = some (r1, r2, r3)) ∧ Aside0 (kq ≤ k) ∧ Aside0 (Kd.R k80 80 w' w.heap.size (fun _ => True) v7 x7_1) ∧ Aside0 (Below w.heap.size w w'))
 case atStart => exact ⟨(([] : List (S80))), (0), (by first | rfl | (simp; done) | (simp [*]; done)), H', ⟨Nat.le_refl _⟩, ⟨by first | exact Kd.R_nil _ _ _ _ _ | exact Kd.N_nil _ _ _ _ _ | exact Kd.V_nil _ _ _ _ _ | exact Kd.Q_nil _ _ _ _ _ | exact Kd.S_nil _ _ _ _ _⟩, ⟨by repeat (first | (with_reducible first | exact HB.out | apply bwA | apply bwN | apply bw1) | exact HB.out)⟩⟩
 case round =>
  clear H'
  obtain ⟨x7_1, x8_1, rfl, HA, HK1, HO_7, HB⟩ := hrel
  cases gk with
  | zero => exact absurd HA.out (by simp [lang_Get.l0])
  | succ k1 =>
   have H := HA.out
   clear HA
   simp only [lang_Get.l0] at H
   by_cases c3 : x8_1 < (l0.length : Int)
   ·rw [if_pos c3] at H
    have c3b0 : decide (x8_1 < (l0.length : Int)) = true := decide_eq_true c3
    clear c3
    by_cases c4 : (wrap64 ((l0.length : Int) - x8_1)) < 3
    ·rw [if_pos c4] at H
     have c4b0 : decide ((wrap64 ((l0.length : Int) - x8_1)) < 3) = true := decide_eq_true c4
     clear c4
     simp only [Option.some.injEq, Prod.mk.injEq] at H
     obtain ⟨rfl, rfl, rfl⟩ := H
     go_wp2
     go_ret3
     exact ⟨_, by first | rfl | (simp [errW_none, errW_some] <;> rfl) | (simp [*, errW_none, errW_some] <;> rfl), by first | exact Kd.R_nil _ _ _ _ _ | exact Kd.N_nil _ _ _ _ _ | exact Kd.V_nil _ _ _ _ _ | exact Kd.Q_nil _ _ _ _ _ | exact Kd.S_nil _ _ _ _ _, by repeat (first | (with_reducible first | exact HB.out | apply bwA | apply bwN | apply bw1) | exact HB.out)⟩
    ·rw [if_neg c4] at H
     have c4b0 : decide ((wrap64 ((l0.length : Int) - x8_1)) < 3) = false := decide_eq_false c4
     clear c4
     by_cases c5 : 0 ≤ x8_1
     ·rw [if_pos c5] at H
      have c5b0 : decide (0 ≤ x8_1) = true := decide_eq_true c5
      clear c5
      obtain ⟨ji6, hji6⟩ : ∃ j_ : Int, (wrap64 (x8_1 + 1)) = j_ := ⟨_, rfl⟩
      replace H : (if 0 ≤ (ji6) then (if (ji6) < (l0.length : Int) then (if 0 ≤ (wrap64 (x8_1 + 2)) then (if (wrap64 (x8_1 + 2)) < (l0.length : Int) then ((lang_Ok.f (wrap64 (rd l0 x8_1)) (wrap64 (rd l0 (ji6))) (wrap64 (IntKind.i8.wrap (rd l0 (wrap64 (x8_1 + 2))))) a1).bind fun t114 => (if t114 = true then (if x7_1.length < 5864062014805 then (lang_Get.l0 k1 l0 a1 (x7_1 ++ [(⟨wrap64 (rd l0 x8_1), wrap64 (rd l0 (ji6)), wrap64 (IntKind.i8.wrap (rd l0 (wrap64 (x8_1 + 2))))⟩ : S80)]) (wrap64 (x8_1 + 3))) else (none)) else (some (([] : List (S80)), x8_1, 3)))) else (none)) else (none)) else (none)) else (none)) = some (r1, r2, r3) := by first | (rw [hji6] at H; exact H) | (simp only [hji6] at H ⊢; exact H)
      have hji6w : (IntKind.i64.wrap (x8_1 + 1)) = ji6 := (i64_w _).trans hji6
      by_cases c7 : 0 ≤ (ji6)
      ·rw [if_pos c7] at H
       have c7b0 : decide (0 ≤ (ji6)) = true := decide_eq_true c7
       clear c7
       by_cases c8 : (ji6) < (l0.length : Int)
       ·rw [if_pos c8] at H
        have c8b0 : decide ((ji6) < (l0.length : Int)) = true := decide_eq_true c8
        clear c8
        obtain ⟨ji9, hji9⟩ : ∃ j_ : Int, (wrap64 (x8_1 + 2)) = j_ := ⟨_, rfl⟩
        replace H : (if 0 ≤ (ji9) then (if (ji9) < (l0.length : Int) then ((lang_Ok.f (wrap64 (rd l0 x8_1)) (wrap64 (rd l0 (ji6))) (wrap64 (IntKind.i8.wrap (rd l0 (ji9)))) a1).bind fun t114 => (if t114 = true then (if x7_1.length < 5864062014805 then (lang_Get.l0 k1 l0 a1 (x7_1 ++ [(⟨wrap64 (rd l0 x8_1), wrap64 (rd l0 (ji6)), wrap64 (IntKind.i8.wrap (rd l0 (ji9)))⟩ : S80)]) (wrap64 (x8_1 + 3))) else (none)) else (some (([] : List (S80)), x8_1, 3)))) else (none)) else (none)) = some (r1, r2, r3) := by first | (rw [hji9] at H; exact H) | (simp only [hji9] at H ⊢; exact H)
        have hji9w : (IntKind.i64.wrap (x8_1 + 2)) = ji9 := (i64_w _).trans hji9
        (try rw [hji9] at hji6)
        (try rw [hji9] at hji6w)
        by_cases c10 : 0 ≤ (ji9)
        ·rw [if_pos c10] at H
         have c10b0 : decide (0 ≤ (ji9)) = true := decide_eq_true c10
         clear c10
         by_cases c11 : (ji9) < (l0.length : Int)
         ·rw [if_pos c11] at H
          have c11b0 : decide ((ji9) < (l0.length : Int)) = true := decide_eq_true c11
          clear c11
          replace H := Option.bind_eq_some_iff.mp H
          obtain ⟨t114, A120, H⟩ := H
          replace H : (if t114 = true then (if x7_1.length < 5864062014805 then (lang_Get.l0 k1 l0 a1 (x7_1 ++ [(⟨wrap64 (rd l0 x8_1), wrap64 (rd l0 (ji6)), wrap64 (IntKind.i8.wrap (rd l0 (ji9)))⟩ : S80)]) (wrap64 (x8_1 + 3))) else (none)) else (some (([] : List (S80)), x8_1, 3))) = some (r1, r2, r3) := H
          have A12 := Aside0.mk A120
          clear A120
          by_cases c13 : t114 = true
          ·subst c13
           have H1 : (if x7_1.length < 5864062014805 then (lang_Get.l0 k1 l0 a1 (x7_1 ++ [(⟨wrap64 (rd l0 x8_1), wrap64 (rd l0 (ji6)), wrap64 (IntKind.i8.wrap (rd l0 (ji9)))⟩ : S80)]) (wrap64 (x8_1 + 3))) else (none)) = some (r1, r2, r3) := by rw [if_pos rfl] at H; exact H
           clear H
           have H := H1
           clear H1
           by_cases c14 : x7_1.length < 5864062014805
           ·rw [if_pos c14] at H
            have LMc14 := Aside0.mk c14
            clear c14
            obtain ⟨y115, hy115⟩ : ∃ y_ : List (S80), y_ = (x7_1 ++ [(⟨wrap64 (rd l0 x8_1), wrap64 (rd l0 (ji6)), wrap64 (IntKind.i8.wrap (rd l0 (ji9)))⟩ : S80)]) := ⟨_, rfl⟩
            replace H : (lang_Get.l0 k1 l0 a1 y115 (wrap64 (x8_1 + 3))) = some (r1, r2, r3) := by first | (rw [hy115]; with_reducible exact H) | (have H2_ := (Option.bind_some _ _).symm.trans H; rw [hy115]; with_reducible exact H2_) | (have H2_ := (Option.bind_some _ _).symm.trans H; with_reducible exact H2_) | with_reducible exact H | (rw [hy115]; exact H) | exact H
            have Ny115 := Aside0.mk hy115
            clear hy115
            have H' := Aside0.mk H
            clear H
            try go_wp2
            have n0_ := Aside0.mk (Kd.R_drew HO_7.out)
            have n1_ := Aside0.mk (below_drew1 HB.out)
            clear HO_7
            clear HB
            have HO_7 := n0_
            have HB := n1_
            clear n0_ n1_
            have p110 : 0 ≤ (x8_1 : Int) := of_decide_eq_true (by first | (with_reducible assumption) | assumption)
            have q110 : x8_1 < (l0.length : Int) := of_decide_eq_true (by first | (with_reducible assumption) | assumption)
            obtain ⟨ad110, e110, hx110_0⟩ := Kd.at_int HR0.out x8_1 p110 q110
            have hw110_0 := hx110_0
            cases e110
            replace hx110_0 := (HB.out.cell (World.block_lt_of_cell? w _ hx110_0)).trans hx110_0
            replace p110 := eq_true p110
            replace q110 := eq_true q110
            have p111 : 0 ≤ ((ji6) : Int) := of_decide_eq_true (by first | (with_reducible assumption) | assumption)
            have q111 : (ji6) < (l0.length : Int) := of_decide_eq_true (by first | (with_reducible assumption) | assumption)
            obtain ⟨ad111, e111, hx111_0⟩ := Kd.at_int HR0.out (ji6) p111 q111
            have hw111_0 := hx111_0
            obtain rfl : ad110 = ad111 := (by injection e111)
            replace hx111_0 := (HB.out.cell (World.block_lt_of_cell? w _ hx111_0)).trans hx111_0
            replace p111 := eq_true p111
            replace q111 := eq_true q111
            have p112 : 0 ≤ ((ji9) : Int) := of_decide_eq_true (by first | (with_reducible assumption) | assumption)
            have q112 : (ji9) < (l0.length : Int) := of_decide_eq_true (by first | (with_reducible assumption) | assumption)
            obtain ⟨ad112, e112, hx112_0⟩ := Kd.at_int HR0.out (ji9) p112 q112
            have hw112_0 := hx112_0
            obtain rfl : ad110 = ad112 := (by injection e112)
            replace hx112_0 := (HB.out.cell (World.block_lt_of_cell? w _ hx112_0)).trans hx112_0
            replace p112 := eq_true p112
            replace q112 := eq_true q112
            refine start_ (n := 21) (S := fun w' => w'.cell? (ad110.add (x8_1).toNat) = some (.int .u8 (rd l0 x8_1)) ∧ w'.cell? (ad110.add ((ji6)).toNat) = some (.int .u8 (rd l0 (ji6))) ∧ w'.cell? (ad110.add ((ji9)).toNat) = some (.int .u8 (rd l0 (ji9)))) (ds := []) #[false, false, false, false, false, false, false, false, false, false, false, false, false, false, false, false, false, false, false, false, false] (by kernel_rfl) rfl rfl ⟨((HB.out.cell (World.block_lt_of_cell? w _ hw110_0)).trans hw110_0), ((HB.out.cell (World.block_lt_of_cell? w _ hw111_0)).trans hw111_0), ((HB.out.cell (World.block_lt_of_cell? w _ hw112_0)).trans hw112_0)⟩ (fun hHeld => ?_); refine with_tabW lang_Get.tab7 lang_Get.bits7 (fun HT_ HW_ => ?_)
            generalize wr.drew = w15 at HO_7 HB hx110_0 hx111_0 hx112_0 hHeld ⊢
            refine pure_ (i := 0) (N := some 22) (v := ?_) (a' := ?_) #[true, false, false, false, false, false, false, false, false, false, false, false, false, false, false, false, false, false, false, false, false] rfl rfl (any_of HT_.out (by kernel_rfl)) (fun _ _ _ h => h) (Or.inl ⟨by rfl, ?_⟩) ?_ ?_
            rotate_left
            ·intro w'
             go_simp
             with_reducible rfl
            rotate_left
            ·simp only [Act.put, List.setIfInBounds_toArray, List.set_cons_zero, List.set_cons_succ, i64_w, i32_w]
             rfl
            refine pure_ (i := 1) (N := some 23) (v := ?_) (a' := ?_) #[true, true, false, false, false, false, false, false, false, false, false, false, false, false, false, false, false, false, false, false, false] rfl rfl (any_of HT_.out (by kernel_rfl)) (fun _ _ _ h => h) (Or.inl ⟨by rfl, ?_⟩) ?_ ?_
            rotate_left
            ·intro w'
             go_simp
             with_reducible rfl
            rotate_left
            ·simp only [Act.put, List.setIfInBounds_toArray, List.set_cons_zero, List.set_cons_succ, i64_w, i32_w]
             rfl
            refine pure_ (i := 2) (N := some 24) (v := ?_) (a' := ?_) #[true, true, true, false, false, false, false, false, false, false, false, false, false, false, false, false, false, false, false, false, false] rfl rfl (any_of HT_.out (by kernel_rfl)) (fun _ _ _ h => h) (Or.inl ⟨by rfl, ?_⟩) ?_ ?_
            rotate_left
            ·intro w'
             go_simp
             with_reducible rfl
            rotate_left
            ·simp only [Act.put, List.setIfInBounds_toArray, List.set_cons_zero, List.set_cons_succ, i64_w, i32_w]
             rfl
            refine pure_ (i := 5) (N := some 27) (v := ?_) (a' := ?_) #[true, true, true, false, false, true, false, false, false, false, false, false, false, false, false, false, false, false, false, false, false] rfl rfl (any_of HT_.out (by kernel_rfl)) (fun _ _ _ h => h) (Or.inl ⟨by rfl, ?_⟩) ?_ ?_
            rotate_left
            ·intro w'
             go_simp
             with_reducible rfl
            rotate_left
            ·simp only [Act.put, List.setIfInBounds_toArray, List.set_cons_zero, List.set_cons_succ, i64_w, i32_w]
             rfl
            refine pure_ (i := 6) (N := some 28) (v := ?_) (a' := ?_) #[true, true, true, false, false, true, true, false, false, false, false, false, false, false, false, false, false, false, false, false, false] rfl rfl (any_of HT_.out (by kernel_rfl)) (fun _ _ _ h => h) (Or.inl ⟨by rfl, ?_⟩) ?_ ?_
            rotate_left
            ·intro w'
             go_simp
             with_reducible rfl
            rotate_left
            ·simp only [Act.put, List.setIfInBounds_toArray, List.set_cons_zero, List.set_cons_succ, i64_w, i32_w]
             rfl
            refine pure_ (i := 7) (N := some 29) (v := ?_) (a' := ?_) #[true, true, true, false, false, true, true, true, false, false, false, false, false, false, false, false, false, false, false, false, false] rfl rfl (any_of HT_.out (by kernel_rfl)) (fun _ _ _ h => h) (Or.inl ⟨by rfl, ?_⟩) ?_ ?_
            rotate_left
            ·intro w'
             go_simp
             with_reducible rfl
            rotate_left
            ·simp only [Act.put, List.setIfInBounds_toArray, List.set_cons_zero, List.set_cons_succ, i64_w, i32_w]
             rfl
            refine pure_ (i := 8) (N := some 30) (v := ?_) (a' := ?_) #[true, true, true, false, false, true, true, true, true, false, false, false, false, false, false, false, false, false, false, false, false] rfl rfl (any_of HT_.out (by kernel_rfl)) (fun _ _ _ h => h) (Or.inl ⟨by rfl, ?_⟩) ?_ ?_
            rotate_left
            ·intro w'
             go_simp
             with_reducible rfl
            rotate_left
            ·simp only [Act.put, List.setIfInBounds_toArray, List.set_cons_zero, List.set_cons_succ, i64_w, i32_w]
             rfl
            refine pure_ (i := 11) (N := some 33) (v := ?_) (a' := ?_) #[true, true, true, false, false, true, true, true, true, false, false, true, false, false, false, false, false, false, false, false, false] rfl rfl (any_of HT_.out (by kernel_rfl)) (fun _ _ _ h => h) (Or.inl ⟨by rfl, ?_⟩) ?_ ?_
            rotate_left
            ·intro w'
             go_simp
             with_reducible rfl
            rotate_left
            ·simp only [Act.put, List.setIfInBounds_toArray, List.set_cons_zero, List.set_cons_succ, i64_w, i32_w]
             rfl
            refine pure_ (i := 12) (N := some 34) (v := ?_) (a' := ?_) #[true, true, true, false, false, true, true, true, true, false, false, true, true, false, false, false, false, false, false, false, false] rfl rfl (any_of HT_.out (by kernel_rfl)) (fun _ _ _ h => h) (Or.inl ⟨by rfl, ?_⟩) ?_ ?_
            rotate_left
            ·intro w'
             go_simp
             with_reducible rfl
            rotate_left
            ·simp only [Act.put, List.setIfInBounds_toArray, List.set_cons_zero, List.set_cons_succ, i64_w, i32_w]
             rfl
            refine pure_ (i := 13) (N := some 35) (v := ?_) (a' := ?_) #[true, true, true, false, false, true, true, true, true, false, false, true, true, true, false, false, false, false, false, false, false] rfl rfl (any_of HT_.out (by kernel_rfl)) (fun _ _ _ h => h) (Or.inl ⟨by rfl, ?_⟩) ?_ ?_
            rotate_left
            ·intro w'
             go_simp
             with_reducible rfl
            rotate_left
            ·simp only [Act.put, List.setIfInBounds_toArray, List.set_cons_zero, List.set_cons_succ, i64_w, i32_w]
             rfl
            refine pure_ (i := 14) (N := some 36) (v := ?_) (a' := ?_) #[true, true, true, false, false, true, true, true, true, false, false, true, true, true, true, false, false, false, false, false, false] rfl rfl (any_of HT_.out (by kernel_rfl)) (fun _ _ _ h => h) (Or.inl ⟨by rfl, ?_⟩) ?_ ?_
            rotate_left
            ·intro w'
             go_simp
             with_reducible rfl
            rotate_left
            ·simp only [Act.put, List.setIfInBounds_toArray, List.set_cons_zero, List.set_cons_succ, i64_w, i32_w]
             rfl
            refine take_ (i := 3) (N := some 25) (v := ?_) (a' := ?_) #[true, true, true, true, false, true, true, true, true, false, false, true, true, true, true, false, false, false, false, false, false] rfl rfl (take_ofW HT_.out HW_.out (by kernel_rfl)) (fun _ _ _ h => h) (Or.inl ⟨by rfl, ?_⟩) hHeld ?_ ?_
            rotate_left
            ·rintro w' ⟨s0, s1, s2⟩
             go_simp
             with_reducible rfl
            rotate_left
            ·simp only [Act.put, List.setIfInBounds_toArray, List.set_cons_zero, List.set_cons_succ, i64_w, i32_w]
             rfl
            refine pure_ (i := 4) (N := some 26) (v := ?_) (a' := ?_) #[true, true, true, true, true, true, true, true, true, false, false, true, true, true, true, false, false, false, false, false, false] rfl rfl (any_of HT_.out (by kernel_rfl)) (fun _ _ _ h => h) (Or.inl ⟨by rfl, ?_⟩) ?_ ?_
            rotate_left
            ·intro w'
             go_simp
             with_reducible rfl
            rotate_left
            ·simp only [Act.put, List.setIfInBounds_toArray, List.set_cons_zero, List.set_cons_succ, i64_w, i32_w]
             rfl
            refine take_ (i := 9) (N := some 31) (v := ?_) (a' := ?_) #[true, true, true, true, true, true, true, true, true, true, false, true, true, true, true, false, false, false, false, false, false] rfl rfl (take_ofW HT_.out HW_.out (by kernel_rfl)) (fun _ _ _ h => h) (Or.inl ⟨by rfl, ?_⟩) hHeld ?_ ?_
            rotate_left
            ·rintro w' ⟨s0, s1, s2⟩
             go_simp
             with_reducible rfl
            rotate_left
            ·simp only [Act.put, List.setIfInBounds_toArray, List.set_cons_zero, List.set_cons_succ, i64_w, i32_w]
             rfl
            refine pure_ (i := 10) (N := some 32) (v := ?_) (a' := ?_) #[true, true, true, true, true, true, true, true, true, true, true, true, true, true, true, false, false, false, false, false, false] rfl rfl (any_of HT_.out (by kernel_rfl)) (fun _ _ _ h => h) (Or.inl ⟨by rfl, ?_⟩) ?_ ?_
            rotate_left
            ·intro w'
             go_simp
             with_reducible rfl
            rotate_left
            ·simp only [Act.put, List.setIfInBounds_toArray, List.set_cons_zero, List.set_cons_succ, i64_w, i32_w]
             rfl
            refine take_ (i := 15) (N := some 37) (v := ?_) (a' := ?_) #[true, true, true, true, true, true, true, true, true, true, true, true, true, true, true, true, false, false, false, false, false] rfl rfl (take_ofW HT_.out HW_.out (by kernel_rfl)) (fun _ _ _ h => h) (Or.inl ⟨by rfl, ?_⟩) hHeld ?_ ?_
            rotate_left
            ·rintro w' ⟨s0, s1, s2⟩
             go_simp
             with_reducible rfl
            rotate_left
            ·simp only [Act.put, List.setIfInBounds_toArray, List.set_cons_zero, List.set_cons_succ, i64_w, i32_w]
             rfl
            refine pure_ (i := 16) (N := some 38) (v := ?_) (a' := ?_) #[true, true, true, true, true, true, true, true, true, true, true, true, true, true, true, true, true, false, false, false, false] rfl rfl (any_of HT_.out (by kernel_rfl)) (fun _ _ _ h => h) (Or.inl ⟨by rfl, ?_⟩) ?_ ?_
            rotate_left
            ·intro w'
             go_simp
             with_reducible rfl
            rotate_left
            ·simp only [Act.put, List.setIfInBounds_toArray, List.set_cons_zero, List.set_cons_succ, i64_w, i32_w]
             rfl
            refine pure_ (i := 17) (N := some 39) (v := ?_) (a' := ?_) #[true, true, true, true, true, true, true, true, true, true, true, true, true, true, true, true, true, true, false, false, false] rfl rfl (any_of HT_.out (by kernel_rfl)) (fun _ _ _ h => h) (Or.inl ⟨by rfl, ?_⟩) ?_ ?_
            rotate_left
            ·intro w'
             go_simp
             with_reducible rfl
            rotate_left
            ·simp only [Act.put, List.setIfInBounds_toArray, List.set_cons_zero, List.set_cons_succ, i64_w, i32_w]
             rfl
            refine pure_ (i := 18) (N := some 40) (v := ?_) (a' := ?_) #[true, true, true, true, true, true, true, true, true, true, true, true, true, true, true, true, true, true, true, false, false] rfl rfl (any_of HT_.out (by kernel_rfl)) (fun _ _ _ h => h) (Or.inl ⟨by rfl, ?_⟩) ?_ ?_
            rotate_left
            ·intro w'
             go_simp
             with_reducible rfl
            rotate_left
            ·simp only [Act.put, List.setIfInBounds_toArray, List.set_cons_zero, List.set_cons_succ, i64_w, i32_w]
             rfl
            refine one_ (i := 19) (N := some 9) #[true, true, true, true, true, true, true, true, true, true, true, true, true, true, true, true, true, true, true, true, false] rfl rfl (one_of HT_.out (by kernel_rfl)) (by decide) (fun K hK => ?_)
            refine box_step ?hg (N := 9) ?hd (cs := #[.int .i64 0, .int .i64 0, .int .i64 0]) (t := 80) ?hr ?_; (case hd => rfl); (case hg => rfl); (case hr => first | (go_simp; done) | (go_simp; rfl))
            intro gb113 hg w16 hbox hb
            have n0_ := Aside0.mk (Kd.R_below (Kd.R_elderB (by (with_reducible repeat (first | apply Kd.R_alloc | apply Kd.R_drewN | apply Kd.R_drew)); exact HO_7.out) gb113 (Nat.le_of_eq hg.symm)) hb)
            have n1_ := Aside0.mk (below_step (by repeat (first | (with_reducible first | exact HB.out | apply bwA | apply bwN | apply bw1) | exact HB.out)) hb)
            have n2_ := Aside0.mk (hbox)
            have n3_ := Aside0.mk ((by rw [hg]; exact (below_size (by repeat (first | (with_reducible first | exact HB.out | apply bwA | apply bwN | apply bw1) | exact HB.out))) : w.heap.size ≤ gb113))
            have n4_ := Aside0.mk ((by rw [hg]; exact (below_size (by repeat (first | (with_reducible first | exact HB.out | apply bwA | apply bwN | apply bw1) | exact HB.out))) : w.heap.size ≤ gb113))
            clear HO_7
            clear HB
            have HO_7 := n0_
            have HB := n1_
            have BK113 := n2_
            have GW113 := n3_
            have GE113 := n4_
            clear n0_ n1_ n2_ n3_ n4_
            clear hb hbox hg
            refine hK.out _ _ ⟨((HB.out.cell (World.block_lt_of_cell? w _ hw110_0)).trans hw110_0), ((HB.out.cell (World.block_lt_of_cell? w _ hw111_0)).trans hw111_0), ((HB.out.cell (World.block_lt_of_cell? w _ hw112_0)).trans hw112_0)⟩ (fun hHeld => ?_)
            clear hK K
            refine norm_ (a' := ?_) ?_ ?_
            rotate_left
            ·show Act.put _ (some 9) _ = _
             simp only [Act.put, List.setIfInBounds_toArray, List.set_cons_zero, List.set_cons_succ, i64_w, i32_w]
             rfl
            refine one_ (i := 20) (N := none) #[true, true, true, true, true, true, true, true, true, true, true, true, true, true, true, true, true, true, true, true, true] rfl rfl (one_of HT_.out (by kernel_rfl)) (by decide) (fun K hK => ?_)
            have hs17 : w16.cell? ⟨gb113, 0, none⟩ = some (.int .i64 0) := (blk_cell BK113.out 0).trans rfl
            have hfs17 := blk_frozen BK113.out 0
            have hs18 : w16.cell? ⟨gb113, 1, none⟩ = some (.int .i64 0) := (blk_cell BK113.out 1).trans rfl
            have hfs18 := blk_frozen BK113.out 1
            have hs19 : w16.cell? ⟨gb113, 2, none⟩ = some (.int .i64 0) := (blk_cell BK113.out 2).trans rfl
            have hfs19 := blk_frozen BK113.out 2
            refine skip_ (w1 := ?_) (by rfl) rfl ?_ ?_
            rotate_left
            ·go_simp
             rfl
            refine hK.out _ _ ⟨((cell_far (p := ⟨gb113, _, none⟩) (by first | exact Nat.ne_of_lt (Nat.lt_of_lt_of_le (by have := World.block_lt_of_cell? _ _ hw110_0; first | rwa [add_block] at this | exact this) GW113.out) | (rw [add_block]; exact Nat.ne_of_lt (Nat.lt_of_lt_of_le (by have := World.block_lt_of_cell? _ _ hw110_0; first | rwa [add_block] at this | exact this) GW113.out)) | (show (Addr.add _ _).block ≠ _; rw [add_block]; exact Nat.ne_of_lt (Nat.lt_of_lt_of_le (by have := World.block_lt_of_cell? _ _ hw110_0; first | rwa [add_block] at this | exact this) GW113.out)) | (dsimp only; exact Nat.ne_of_lt (Nat.lt_of_lt_of_le (by have := World.block_lt_of_cell? _ _ hw110_0; first | rwa [add_block] at this | exact this) GW113.out))) _).trans (((cell_far (p := ⟨gb113, _, none⟩) (by first | exact Nat.ne_of_lt (Nat.lt_of_lt_of_le (by have := World.block_lt_of_cell? _ _ hw110_0; first | rwa [add_block] at this | exact this) GW113.out) | (rw [add_block]; exact Nat.ne_of_lt (Nat.lt_of_lt_of_le (by have := World.block_lt_of_cell? _ _ hw110_0; first | rwa [add_block] at this | exact this) GW113.out)) | (show (Addr.add _ _).block ≠ _; rw [add_block]; exact Nat.ne_of_lt (Nat.lt_of_lt_of_le (by have := World.block_lt_of_cell? _ _ hw110_0; first | rwa [add_block] at this | exact this) GW113.out)) | (dsimp only; exact Nat.ne_of_lt (Nat.lt_of_lt_of_le (by have := World.block_lt_of_cell? _ _ hw110_0; first | rwa [add_block] at this | exact this) GW113.out))) _).trans (((cell_far (p := ⟨gb113, _, none⟩) (by first | exact Nat.ne_of_lt (Nat.lt_of_lt_of_le (by have := World.block_lt_of_cell? _ _ hw110_0; first | rwa [add_block] at this | exact this) GW113.out) | (rw [add_block]; exact Nat.ne_of_lt (Nat.lt_of_lt_of_le (by have := World.block_lt_of_cell? _ _ hw110_0; first | rwa [add_block] at this | exact this) GW113.out)) | (show (Addr.add _ _).block ≠ _; rw [add_block]; exact Nat.ne_of_lt (Nat.lt_of_lt_of_le (by have := World.block_lt_of_cell? _ _ hw110_0; first | rwa [add_block] at this | exact this) GW113.out)) | (dsimp only; exact Nat.ne_of_lt (Nat.lt_of_lt_of_le (by have := World.block_lt_of_cell? _ _ hw110_0; first | rwa [add_block] at this | exact this) GW113.out))) _).trans (hHeld.1)))))), ((cell_far (p := ⟨gb113, _, none⟩) (by first | exact Nat.ne_of_lt (Nat.lt_of_lt_of_le (by have := World.block_lt_of_cell? _ _ hw111_0; first | rwa [add_block] at this | exact this) GW113.out) | (rw [add_block]; exact Nat.ne_of_lt (Nat.lt_of_lt_of_le (by have := World.block_lt_of_cell? _ _ hw111_0; first | rwa [add_block] at this | exact this) GW113.out)) | (show (Addr.add _ _).block ≠ _; rw [add_block]; exact Nat.ne_of_lt (Nat.lt_of_lt_of_le (by have := World.block_lt_of_cell? _ _ hw111_0; first | rwa [add_block] at this | exact this) GW113.out)) | (dsimp only; exact Nat.ne_of_lt (Nat.lt_of_lt_of_le (by have := World.block_lt_of_cell? _ _ hw111_0; first | rwa [add_block] at this | exact this) GW113.out))) _).trans (((cell_far (p := ⟨gb113, _, none⟩) (by first | exact Nat.ne_of_lt (Nat.lt_of_lt_of_le (by have := World.block_lt_of_cell? _ _ hw111_0; first | rwa [add_block] at this | exact this) GW113.out) | (rw [add_block]; exact Nat.ne_of_lt (Nat.lt_of_lt_of_le (by have := World.block_lt_of_cell? _ _ hw111_0; first | rwa [add_block] at this | exact this) GW113.out)) | (show (Addr.add _ _).block ≠ _; rw [add_block]; exact Nat.ne_of_lt (Nat.lt_of_lt_of_le (by have := World.block_lt_of_cell? _ _ hw111_0; first | rwa [add_block] at this | exact this) GW113.out)) | (dsimp only; exact Nat.ne_of_lt (Nat.lt_of_lt_of_le (by have := World.block_lt_of_cell? _ _ hw111_0; first | rwa [add_block] at this | exact this) GW113.out))) _).trans (((cell_far (p := ⟨gb113, _, none⟩) (by first | exact Nat.ne_of_lt (Nat.lt_of_lt_of_le (by have := World.block_lt_of_cell? _ _ hw111_0; first | rwa [add_block] at this | exact this) GW113.out) | (rw [add_block]; exact Nat.ne_of_lt (Nat.lt_of_lt_of_le (by have := World.block_lt_of_cell? _ _ hw111_0; first | rwa [add_block] at this | exact this) GW113.out)) | (show (Addr.add _ _).block ≠ _; rw [add_block]; exact Nat.ne_of_lt (Nat.lt_of_lt_of_le (by have := World.block_lt_of_cell? _ _ hw111_0; first | rwa [add_block] at this | exact this) GW113.out)) | (dsimp only; exact Nat.ne_of_lt (Nat.lt_of_lt_of_le (by have := World.block_lt_of_cell? _ _ hw111_0; first | rwa [add_block] at this | exact this) GW113.out))) _).trans (hHeld.2.1)))))), ((cell_far (p := ⟨gb113, _, none⟩) (by first | exact Nat.ne_of_lt (Nat.lt_of_lt_of_le (by have := World.block_lt_of_cell? _ _ hw112_0; first | rwa [add_block] at this | exact this) GW113.out) | (rw [add_block]; exact Nat.ne_of_lt (Nat.lt_of_lt_of_le (by have := World.block_lt_of_cell? _ _ hw112_0; first | rwa [add_block] at this | exact this) GW113.out)) | (show (Addr.add _ _).block ≠ _; rw [add_block]; exact Nat.ne_of_lt (Nat.lt_of_lt_of_le (by have := World.block_lt_of_cell? _ _ hw112_0; first | rwa [add_block] at this | exact this) GW113.out)) | (dsimp only; exact Nat.ne_of_lt (Nat.lt_of_lt_of_le (by have := World.block_lt_of_cell? _ _ hw112_0; first | rwa [add_block] at this | exact this) GW113.out))) _).trans (((cell_far (p := ⟨gb113, _, none⟩) (by first | exact Nat.ne_of_lt (Nat.lt_of_lt_of_le (by have := World.block_lt_of_cell? _ _ hw112_0; first | rwa [add_block] at this | exact this) GW113.out) | (rw [add_block]; exact Nat.ne_of_lt (Nat.lt_of_lt_of_le (by have := World.block_lt_of_cell? _ _ hw112_0; first | rwa [add_block] at this | exact this) GW113.out)) | (show (Addr.add _ _).block ≠ _; rw [add_block]; exact Nat.ne_of_lt (Nat.lt_of_lt_of_le (by have := World.block_lt_of_cell? _ _ hw112_0; first | rwa [add_block] at this | exact this) GW113.out)) | (dsimp only; exact Nat.ne_of_lt (Nat.lt_of_lt_of_le (by have := World.block_lt_of_cell? _ _ hw112_0; first | rwa [add_block] at this | exact this) GW113.out))) _).trans (((cell_far (p := ⟨gb113, _, none⟩) (by first | exact Nat.ne_of_lt (Nat.lt_of_lt_of_le (by have := World.block_lt_of_cell? _ _ hw112_0; first | rwa [add_block] at this | exact this) GW113.out) | (rw [add_block]; exact Nat.ne_of_lt (Nat.lt_of_lt_of_le (by have := World.block_lt_of_cell? _ _ hw112_0; first | rwa [add_block] at this | exact this) GW113.out)) | (show (Addr.add _ _).block ≠ _; rw [add_block]; exact Nat.ne_of_lt (Nat.lt_of_lt_of_le (by have := World.block_lt_of_cell? _ _ hw112_0; first | rwa [add_block] at this | exact this) GW113.out)) | (dsimp only; exact Nat.ne_of_lt (Nat.lt_of_lt_of_le (by have := World.block_lt_of_cell? _ _ hw112_0; first | rwa [add_block] at this | exact this) GW113.out))) _).trans (hHeld.2.2))))))⟩ (fun hHeld => ?_)
            clear hK K
            refine done_ (done_of HT_.out (by kernel_rfl)) ?_
            have hcz20_0 : w16.cell? ⟨gb113, 0, none⟩ = some (.int .i64 0) := (blk_cell BK113.out 0).trans rfl
            have hcz20_1 : w16.cell? ⟨gb113, 1, none⟩ = some (.int .i64 0) := (blk_cell BK113.out 1).trans rfl
            have hcz20_2 : w16.cell? ⟨gb113, 2, none⟩ = some (.int .i64 0) := (blk_cell BK113.out 2).trans rfl
            have hfz20_0 := blk_frozen BK113.out 0
            have hfz20_1 := blk_frozen BK113.out 1
            have hfz20_2 := blk_frozen BK113.out 2
            try go_wp2_with (first | ((with_reducible refine gate_callee (f := 61) rfl ?_); refine goesL_ (some 43) rfl rfl Try.func61 (by kernel_rfl) rfl #[.agg #[.int .i64 (wrap64 (rd l0 x8_1)), .int .i64 (wrap64 (rd l0 (ji6))), .int .i64 (wrap64 (IntKind.i8.wrap (rd l0 (ji9))))], .int .i64 a1] rfl (by (try simp only [List.map_toArray, List.map_cons, List.map_nil]); first | done | (simp only [hji6, hji9]; rfl) | rfl | (simp only [List.length_drop, List.length_take]; rfl)) ?_; (with_reducible refine (lang_Ok.calls (wrap64 (rd l0 x8_1)) (wrap64 (rd l0 (ji6))) (wrap64 (IntKind.i8.wrap (rd l0 (ji9)))) a1 true _ A12.out).mono ?_); rintro e w21 ⟨rfl, hb⟩; refine ⟨_, rfl, ?_⟩; have n0_ := Aside0.mk (Kd.R_below (by (with_reducible repeat (first | apply Kd.R_alloc | apply Kd.R_drewN | apply Kd.R_drew)); exact (Kd.R_mono (Kd.R_far (p := ⟨gb113, 2, none⟩) (Kd.R_far (p := ⟨gb113, 1, none⟩) (Kd.R_far (p := ⟨gb113, 0, none⟩) (Kd.R_mono HO_7.out (fun k_ hk => (⟨hk, hk.2⟩ : _ ∧ k_ ≠ gb113))) (fun _ hk => hk.2) (.int .i64 (wrap64 (rd l0 x8_1)))) (fun _ hk => hk.2) (.int .i64 (wrap64 (rd l0 (ji6))))) (fun _ hk => hk.2) (.int .i64 (wrap64 (IntKind.i8.wrap (rd l0 (ji9)))))) (fun _ h_ => h_.1))) hb); have n1_ := Aside0.mk (blk_below (g := gb113) (o := .cells #[.int .i64 (wrap64 (rd l0 x8_1)), .int .i64 (wrap64 (rd l0 (ji6))), .int .i64 (wrap64 (IntKind.i8.wrap (rd l0 (ji9))))] 80 (0, 0)) (by (with_reducible repeat (first | refine blk_drewN ?_ _ | refine blk_drew ?_ | refine blk_alloc ?_ _)); refine blk_put (cs := #[.int .i64 (wrap64 (rd l0 x8_1)), .int .i64 (wrap64 (rd l0 (ji6))), .int .i64 0]) ?_ 2 _ rfl; (with_reducible repeat (first | refine blk_drewN ?_ _ | refine blk_drew ?_ | refine blk_alloc ?_ _)); refine blk_put (cs := #[.int .i64 (wrap64 (rd l0 x8_1)), .int .i64 0, .int .i64 0]) ?_ 1 _ rfl; (with_reducible repeat (first | refine blk_drewN ?_ _ | refine blk_drew ?_ | refine blk_alloc ?_ _)); refine blk_put (cs := #[.int .i64 0, .int .i64 0, .int .i64 0]) ?_ 0 _ rfl; (with_reducible repeat (first | refine blk_drewN ?_ _ | refine blk_drew ?_ | refine blk_alloc ?_ _)); exact BK113.out) hb); have n2_ := Aside0.mk (below_step (by repeat (first | (with_reducible first | exact HB.out | apply bwA | apply bwN | apply bw1 | refine bwS ?_ GE113.out) | exact HB.out)) hb); clear HO_7; clear BK113; clear HB; have HO_7 := n0_; have BK113 := n1_; have HB := n2_; clear n0_ n1_ n2_; (try clear hb); (try clear hb2); (try clear hk); (try clear hi); have hcz22_0 : w21.cell? ⟨gb113, 0, none⟩ = some (.int .i64 (wrap64 (rd l0 x8_1))) := (blk_cell BK113.out 0).trans rfl; have hcz22_1 : w21.cell? ⟨gb113, 1, none⟩ = some (.int .i64 (wrap64 (rd l0 (ji6)))) := (blk_cell BK113.out 1).trans rfl; have hcz22_2 : w21.cell? ⟨gb113, 2, none⟩ = some (.int .i64 (wrap64 (IntKind.i8.wrap (rd l0 (ji9))))) := (blk_cell BK113.out 2).trans rfl; have hfz22_0 := blk_frozen BK113.out 0; have hfz22_1 := blk_frozen BK113.out 1; have hfz22_2 := blk_frozen BK113.out 2) | ((with_reducible refine gate_builtin (b := .append) (xs := #[.tmp 46, .tmp 48]) rfl ?_); at_builtin; refine Kd.R_append k80 (w0 := w) w.heap.size rfl (.tmp 46) (.tmp 48) 61 80 (.agg #[(.int .i64 0), (.int .i64 0), (.int .i64 0)]) 24 rfl Try.underlying61 info80 rfl (by decide) (by omega) u7 x7_1 (⟨wrap64 (rd l0 x8_1), wrap64 (rd l0 (ji6)), wrap64 (IntKind.i8.wrap (rd l0 (ji9)))⟩ : S80) [.int .i64 (wrap64 (rd l0 x8_1)), .int .i64 (wrap64 (rd l0 (ji6))), .int .i64 (wrap64 (IntKind.i8.wrap (rd l0 (ji9))))] (fun k_ => k_ ≠ gb113) (fun _ => False) rfl rfl ?aP (fun _ hk => hk.elim) ?aF ?aO ?aB ?aS ?aL ?_; (case aP => exact k80_mkM _ _ _ (⟨wrap64 (rd l0 x8_1), wrap64 (rd l0 (ji6)), wrap64 (IntKind.i8.wrap (rd l0 (ji9)))⟩ : S80)); (case aB => exact (by repeat (first | (with_reducible first | exact HB.out | apply bwA | apply bwN | apply bw1 | refine bwS ?_ GE113.out) | exact HB.out))); (case aF => exact (fun k_ hk => Kd.freshB (g := gb113) (o := .cells #[.int .i64 (wrap64 (rd l0 x8_1)), .int .i64 (wrap64 (rd l0 (ji6))), .int .i64 (wrap64 (IntKind.i8.wrap (rd l0 (ji9))))] 80 (0, 0)) (by (with_reducible repeat (first | refine blk_drewN ?_ _ | refine blk_drew ?_ | refine blk_alloc ?_ _)); exact BK113.out) k_ hk)); (case aO => exact (by (with_reducible repeat (first | apply Kd.R_alloc | apply Kd.R_drewN | apply Kd.R_drew)); exact Kd.R_mono HO_7.out (fun _ hk => hk.2))); (case aS => exact (below_size (by repeat (first | (with_reducible first | exact HB.out | apply bwA | apply bwN | apply bw1 | refine bwS ?_ GE113.out) | exact HB.out)))); (case aL => have := LMc14.out; omega); intro v116 w23 ho hb hg hat; rw [← Ny115.out] at ho; have n0_ := Aside0.mk (blk_grown (g := gb113) (o := .cells #[.int .i64 (wrap64 (rd l0 x8_1)), .int .i64 (wrap64 (rd l0 (ji6))), .int .i64 (wrap64 (IntKind.i8.wrap (rd l0 (ji9))))] 80 (0, 0)) (by (with_reducible repeat (first | refine blk_drewN ?_ _ | refine blk_drew ?_ | refine blk_alloc ?_ _)); exact BK113.out) hg (Kd.R_away HO_7.out (fun _ hk => hk.2))); have n1_ := Aside0.mk (hb); have n2_ := Aside0.mk (ho); clear BK113; clear HB; clear HO_7; have BK113 := n0_; have HB := n1_; have HO117 := n2_; clear n0_ n1_ n2_; clear ho hb hg hat))
            go_roundg k1
            case measure => have := HK1.out; omega
            case rel => exact ⟨(y115), (wrap64 (x8_1 + 3)), (by first | rfl | (simp; done) | (simp [*]; done)), H', ⟨by have := HK1.out; omega⟩, ⟨by (with_reducible repeat (first | apply Kd.R_alloc | apply Kd.R_drewN | apply Kd.R_drew)); exact Kd.R_mono HO117.out (fun _ hk => trivial)⟩, ⟨by repeat (first | (with_reducible first | exact HB.out | apply bwA | apply bwN | apply bw1 | refine bwS ?_ GE113.out) | exact HB.out)⟩⟩
           ·rw [if_neg c14] at H
            exact absurd H (by simp)
          ·replace c13 := Bool.eq_false_iff.mpr c13
           subst c13
           have H1 : (some (([] : List (S80)), x8_1, 3)) = some (r1, r2, r3) := by rw [if_neg (show ¬ (false = true) by decide)] at H; exact H
           clear H
           have H := H1
           clear H1
           simp only [Option.some.injEq, Prod.mk.injEq] at H
           obtain ⟨rfl, rfl, rfl⟩ := H
           try go_wp2
           have n0_ := Aside0.mk (Kd.R_drew HO_7.out)
           have n1_ := Aside0.mk (below_drew1 HB.out)
           clear HO_7
           clear HB
           have HO_7 := n0_
           have HB := n1_
           clear n0_ n1_
           have p110 : 0 ≤ (x8_1 : Int) := of_decide_eq_true (by first | (with_reducible assumption) | assumption)
           have q110 : x8_1 < (l0.length : Int) := of_decide_eq_true (by first | (with_reducible assumption) | assumption)
           obtain ⟨ad110, e110, hx110_0⟩ := Kd.at_int HR0.out x8_1 p110 q110
           have hw110_0 := hx110_0
           cases e110
           replace hx110_0 := (HB.out.cell (World.block_lt_of_cell? w _ hx110_0)).trans hx110_0
           replace p110 := eq_true p110
           replace q110 := eq_true q110
           have p111 : 0 ≤ ((ji6) : Int) := of_decide_eq_true (by first | (with_reducible assumption) | assumption)
           have q111 : (ji6) < (l0.length : Int) := of_decide_eq_true (by first | (with_reducible assumption) | assumption)
           obtain ⟨ad111, e111, hx111_0⟩ := Kd.at_int HR0.out (ji6) p111 q111
           have hw111_0 := hx111_0
           obtain rfl : ad110 = ad111 := (by injection e111)
           replace hx111_0 := (HB.out.cell (World.block_lt_of_cell? w _ hx111_0)).trans hx111_0
           replace p111 := eq_true p111
           replace q111 := eq_true q111
           have p112 : 0 ≤ ((ji9) : Int) := of_decide_eq_true (by first | (with_reducible assumption) | assumption)
           have q112 : (ji9) < (l0.length : Int) := of_decide_eq_true (by first | (with_reducible assumption) | assumption)
           obtain ⟨ad112, e112, hx112_0⟩ := Kd.at_int HR0.out (ji9) p112 q112
           have hw112_0 := hx112_0
           obtain rfl : ad110 = ad112 := (by injection e112)
           replace hx112_0 := (HB.out.cell (World.block_lt_of_cell? w _ hx112_0)).trans hx112_0
           replace p112 := eq_true p112
           replace q112 := eq_true q112
           refine start_ (n := 21) (S := fun w' => w'.cell? (ad110.add (x8_1).toNat) = some (.int .u8 (rd l0 x8_1)) ∧ w'.cell? (ad110.add ((ji6)).toNat) = some (.int .u8 (rd l0 (ji6))) ∧ w'.cell? (ad110.add ((ji9)).toNat) = some (.int .u8 (rd l0 (ji9)))) (ds := []) #[false, false, false, false, false, false, false, false, false, false, false, false, false, false, false, false, false, false, false, false, false] (by kernel_rfl) rfl rfl ⟨((HB.out.cell (World.block_lt_of_cell? w _ hw110_0)).trans hw110_0), ((HB.out.cell (World.block_lt_of_cell? w _ hw111_0)).trans hw111_0), ((HB.out.cell (World.block_lt_of_cell? w _ hw112_0)).trans hw112_0)⟩ (fun hHeld => ?_); refine with_tabW lang_Get.tab7 lang_Get.bits7 (fun HT_ HW_ => ?_)
           generalize wr.drew = w24 at HO_7 HB hx110_0 hx111_0 hx112_0 hHeld ⊢
           refine pure_ (i := 0) (N := some 22) (v := ?_) (a' := ?_) #[true, false, false, false, false, false, false, false, false, false, false, false, false, false, false, false, false, false, false, false, false] rfl rfl (any_of HT_.out (by kernel_rfl)) (fun _ _ _ h => h) (Or.inl ⟨by rfl, ?_⟩) ?_ ?_
           rotate_left
           ·intro w'
            go_simp
            with_reducible rfl
           rotate_left
           ·simp only [Act.put, List.setIfInBounds_toArray, List.set_cons_zero, List.set_cons_succ, i64_w, i32_w]
            rfl
           refine pure_ (i := 1) (N := some 23) (v := ?_) (a' := ?_) #[true, true, false, false, false, false, false, false, false, false, false, false, false, false, false, false, false, false, false, false, false] rfl rfl (any_of HT_.out (by kernel_rfl)) (fun _ _ _ h => h) (Or.inl ⟨by rfl, ?_⟩) ?_ ?_
           rotate_left
           ·intro w'
            go_simp
            with_reducible rfl
           rotate_left
           ·simp only [Act.put, List.setIfInBounds_toArray, List.set_cons_zero, List.set_cons_succ, i64_w, i32_w]
            rfl
           refine pure_ (i := 2) (N := some 24) (v := ?_) (a' := ?_) #[true, true, true, false, false, false, false, false, false, false, false, false, false, false, false, false, false, false, false, false, false] rfl rfl (any_of HT_.out (by kernel_rfl)) (fun _ _ _ h => h) (Or.inl ⟨by rfl, ?_⟩) ?_ ?_
           rotate_left
           ·intro w'
            go_simp
            with_reducible rfl
           rotate_left
           ·simp only [Act.put, List.setIfInBounds_toArray, List.set_cons_zero, List.set_cons_succ, i64_w, i32_w]
            rfl
           refine pure_ (i := 5) (N := some 27) (v := ?_) (a' := ?_) #[true, true, true, false, false, true, false, false, false, false, false, false, false, false, false, false, false, false, false, false, false] rfl rfl (any_of HT_.out (by kernel_rfl)) (fun _ _ _ h => h) (Or.inl ⟨by rfl, ?_⟩) ?_ ?_
           rotate_left
           ·intro w'
            go_simp
            with_reducible rfl
           rotate_left
           ·simp only [Act.put, List.setIfInBounds_toArray, List.set_cons_zero, List.set_cons_succ, i64_w, i32_w]
            rfl
           refine pure_ (i := 6) (N := some 28) (v := ?_) (a' := ?_) #[true, true, true, false, false, true, true, false, false, false, false, false, false, false, false, false, false, false, false, false, false] rfl rfl (any_of HT_.out (by kernel_rfl)) (fun _ _ _ h => h) (Or.inl ⟨by rfl, ?_⟩) ?_ ?_
           rotate_left
           ·intro w'
            go_simp
            with_reducible rfl
           rotate_left
           ·simp only [Act.put, List.setIfInBounds_toArray, List.set_cons_zero, List.set_cons_succ, i64_w, i32_w]
            rfl
           refine pure_ (i := 7) (N := some 29) (v := ?_) (a' := ?_) #[true, true, true, false, false, true, true, true, false, false, false, false, false, false, false, false, false, false, false, false, false] rfl rfl (any_of HT_.out (by kernel_rfl)) (fun _ _ _ h => h) (Or.inl ⟨by rfl, ?_⟩) ?_ ?_
           rotate_left
           ·intro w'
            go_simp
            with_reducible rfl
           rotate_left
           ·simp only [Act.put, List.setIfInBounds_toArray, List.set_cons_zero, List.set_cons_succ, i64_w, i32_w]
            rfl
           refine pure_ (i := 8) (N := some 30) (v := ?_) (a' := ?_) #[true, true, true, false, false, true, true, true, true, false, false, false, false, false, false, false, false, false, false, false, false] rfl rfl (any_of HT_.out (by kernel_rfl)) (fun _ _ _ h => h) (Or.inl ⟨by rfl, ?_⟩) ?_ ?_
           rotate_left
           ·intro w'
            go_simp
            with_reducible rfl
           rotate_left
           ·simp only [Act.put, List.setIfInBounds_toArray, List.set_cons_zero, List.set_cons_succ, i64_w, i32_w]
            rfl
           refine pure_ (i := 11) (N := some 33) (v := ?_) (a' := ?_) #[true, true, true, false, false, true, true, true, true, false, false, true, false, false, false, false, false, false, false, false, false] rfl rfl (any_of HT_.out (by kernel_rfl)) (fun _ _ _ h => h) (Or.inl ⟨by rfl, ?_⟩) ?_ ?_
           rotate_left
           ·intro w'
            go_simp
            with_reducible rfl
           rotate_left
           ·simp only [Act.put, List.setIfInBounds_toArray, List.set_cons_zero, List.set_cons_succ, i64_w, i32_w]
            rfl
           refine pure_ (i := 12) (N := some 34) (v := ?_) (a' := ?_) #[true, true, true, false, false, true, true, true, true, false, false, true, true, false, false, false, false, false, false, false, false] rfl rfl (any_of HT_.out (by kernel_rfl)) (fun _ _ _ h => h) (Or.inl ⟨by rfl, ?_⟩) ?_ ?_
           rotate_left
           ·intro w'
            go_simp
            with_reducible rfl
           rotate_left
           ·simp only [Act.put, List.setIfInBounds_toArray, List.set_cons_zero, List.set_cons_succ, i64_w, i32_w]
            rfl
           refine pure_ (i := 13) (N := some 35) (v := ?_) (a' := ?_) #[true, true, true, false, false, true, true, true, true, false, false, true, true, true, false, false, false, false, false, false, false] rfl rfl (any_of HT_.out (by kernel_rfl)) (fun _ _ _ h => h) (Or.inl ⟨by rfl, ?_⟩) ?_ ?_
           rotate_left
           ·intro w'
            go_simp
            with_reducible rfl
           rotate_left
           ·simp only [Act.put, List.setIfInBounds_toArray, List.set_cons_zero, List.set_cons_succ, i64_w, i32_w]
            rfl
           refine pure_ (i := 14) (N := some 36) (v := ?_) (a' := ?_) #[true, true, true, false, false, true, true, true, true, false, false, true, true, true, true, false, false, false, false, false, false] rfl rfl (any_of HT_.out (by kernel_rfl)) (fun _ _ _ h => h) (Or.inl ⟨by rfl, ?_⟩) ?_ ?_
           rotate_left
           ·intro w'
            go_simp
            with_reducible rfl
           rotate_left
           ·simp only [Act.put, List.setIfInBounds_toArray, List.set_cons_zero, List.set_cons_succ, i64_w, i32_w]
            rfl
           refine take_ (i := 3) (N := some 25) (v := ?_) (a' := ?_) #[true, true, true, true, false, true, true, true, true, false, false, true, true, true, true, false, false, false, false, false, false] rfl rfl (take_ofW HT_.out HW_.out (by kernel_rfl)) (fun _ _ _ h => h) (Or.inl ⟨by rfl, ?_⟩) hHeld ?_ ?_
           rotate_left
           ·rintro w' ⟨s0, s1, s2⟩
            go_simp
            with_reducible rfl
           rotate_left
           ·simp only [Act.put, List.setIfInBounds_toArray, List.set_cons_zero, List.set_cons_succ, i64_w, i32_w]
            rfl
           refine pure_ (i := 4) (N := some 26) (v := ?_) (a' := ?_) #[true, true, true, true, true, true, true, true, true, false, false, true, true, true, true, false, false, false, false, false, false] rfl rfl (any_of HT_.out (by kernel_rfl)) (fun _ _ _ h => h) (Or.inl ⟨by rfl, ?_⟩) ?_ ?_
           rotate_left
           ·intro w'
            go_simp
            with_reducible rfl
           rotate_left
           ·simp only [Act.put, List.setIfInBounds_toArray, List.set_cons_zero, List.set_cons_succ, i64_w, i32_w]
            rfl
           refine take_ (i := 9) (N := some 31) (v := ?_) (a' := ?_) #[true, true, true, true, true, true, true, true, true, true, false, true, true, true, true, false, false, false, false, false, false] rfl rfl (take_ofW HT_.out HW_.out (by kernel_rfl)) (fun _ _ _ h => h) (Or.inl ⟨by rfl, ?_⟩) hHeld ?_ ?_
           rotate_left
           ·rintro w' ⟨s0, s1, s2⟩
            go_simp
            with_reducible rfl
           rotate_left
           ·simp only [Act.put, List.setIfInBounds_toArray, List.set_cons_zero, List.set_cons_succ, i64_w, i32_w]
            rfl
           refine pure_ (i := 10) (N := some 32) (v := ?_) (a' := ?_) #[true, true, true, true, true, true, true, true, true, true, true, true, true, true, true, false, false, false, false, false, false] rfl rfl (any_of HT_.out (by kernel_rfl)) (fun _ _ _ h => h) (Or.inl ⟨by rfl, ?_⟩) ?_ ?_
           rotate_left
           ·intro w'
            go_simp
            with_reducible rfl
           rotate_left
           ·simp only [Act.put, List.setIfInBounds_toArray, List.set_cons_zero, List.set_cons_succ, i64_w, i32_w]
            rfl
           refine take_ (i := 15) (N := some 37) (v := ?_) (a' := ?_) #[true, true, true, true, true, true, true, true, true, true, true, true, true, true, true, true, false, false, false, false, false] rfl rfl (take_ofW HT_.out HW_.out (by kernel_rfl)) (fun _ _ _ h => h) (Or.inl ⟨by rfl, ?_⟩) hHeld ?_ ?_
           rotate_left
           ·rintro w' ⟨s0, s1, s2⟩
            go_simp
            with_reducible rfl
           rotate_left
           ·simp only [Act.put, List.setIfInBounds_toArray, List.set_cons_zero, List.set_cons_succ, i64_w, i32_w]
            rfl
           refine pure_ (i := 16) (N := some 38) (v := ?_) (a' := ?_) #[true, true, true, true, true, true, true, true, true, true, true, true, true, true, true, true, true, false, false, false, false] rfl rfl (any_of HT_.out (by kernel_rfl)) (fun _ _ _ h => h) (Or.inl ⟨by rfl, ?_⟩) ?_ ?_
           rotate_left
           ·intro w'
            go_simp
            with_reducible rfl
           rotate_left
           ·simp only [Act.put, List.setIfInBounds_toArray, List.set_cons_zero, List.set_cons_succ, i64_w, i32_w]
            rfl
           refine pure_ (i := 17) (N := some 39) (v := ?_) (a' := ?_) #[true, true, true, true, true, true, true, true, true, true, true, true, true, true, true, true, true, true, false, false, false] rfl rfl (any_of HT_.out (by kernel_rfl)) (fun _ _ _ h => h) (Or.inl ⟨by rfl, ?_⟩) ?_ ?_
           rotate_left
           ·intro w'
            go_simp
            with_reducible rfl
           rotate_left
           ·simp only [Act.put, List.setIfInBounds_toArray, List.set_cons_zero, List.set_cons_succ, i64_w, i32_w]
            rfl
           refine pure_ (i := 18) (N := some 40) (v := ?_) (a' := ?_) #[true, true, true, true, true, true, true, true, true, true, true, true, true, true, true, true, true, true, true, false, false] rfl rfl (any_of HT_.out (by kernel_rfl)) (fun _ _ _ h => h) (Or.inl ⟨by rfl, ?_⟩) ?_ ?_
           rotate_left
           ·intro w'
            go_simp
            with_reducible rfl
           rotate_left
           ·simp only [Act.put, List.setIfInBounds_toArray, List.set_cons_zero, List.set_cons_succ, i64_w, i32_w]
            rfl
           refine one_ (i := 19) (N := some 9) #[true, true, true, true, true, true, true, true, true, true, true, true, true, true, true, true, true, true, true, true, false] rfl rfl (one_of HT_.out (by kernel_rfl)) (by decide) (fun K hK => ?_)
           refine box_step ?hg (N := 9) ?hd (cs := #[.int .i64 0, .int .i64 0, .int .i64 0]) (t := 80) ?hr ?_; (case hd => rfl); (case hg => rfl); (case hr => first | (go_simp; done) | (go_simp; rfl))
           intro gb113 hg w25 hbox hb
           have n0_ := Aside0.mk (Kd.R_below (Kd.R_elderB (by (with_reducible repeat (first | apply Kd.R_alloc | apply Kd.R_drewN | apply Kd.R_drew)); exact HO_7.out) gb113 (Nat.le_of_eq hg.symm)) hb)
           have n1_ := Aside0.mk (below_step (by repeat (first | (with_reducible first | exact HB.out | apply bwA | apply bwN | apply bw1) | exact HB.out)) hb)
           have n2_ := Aside0.mk (hbox)
           have n3_ := Aside0.mk ((by rw [hg]; exact (below_size (by repeat (first | (with_reducible first | exact HB.out | apply bwA | apply bwN | apply bw1) | exact HB.out))) : w.heap.size ≤ gb113))
           have n4_ := Aside0.mk ((by rw [hg]; exact (below_size (by repeat (first | (with_reducible first | exact HB.out | apply bwA | apply bwN | apply bw1) | exact HB.out))) : w.heap.size ≤ gb113))
           clear HO_7
           clear HB
           have HO_7 := n0_
           have HB := n1_
           have BK113 := n2_
           have GW113 := n3_
           have GE113 := n4_
           clear n0_ n1_ n2_ n3_ n4_
           clear hb hbox hg
           refine hK.out _ _ ⟨((HB.out.cell (World.block_lt_of_cell? w _ hw110_0)).trans hw110_0), ((HB.out.cell (World.block_lt_of_cell? w _ hw111_0)).trans hw111_0), ((HB.out.cell (World.block_lt_of_cell? w _ hw112_0)).trans hw112_0)⟩ (fun hHeld => ?_)
           clear hK K
           refine norm_ (a' := ?_) ?_ ?_
           rotate_left
           ·show Act.put _ (some 9) _ = _
            simp only [Act.put, List.setIfInBounds_toArray, List.set_cons_zero, List.set_cons_succ, i64_w, i32_w]
            rfl
           refine one_ (i := 20) (N := none) #[true, true, true, true, true, true, true, true, true, true, true, true, true, true, true, true, true, true, true, true, true] rfl rfl (one_of HT_.out (by kernel_rfl)) (by decide) (fun K hK => ?_)
           have hs26 : w25.cell? ⟨gb113, 0, none⟩ = some (.int .i64 0) := (blk_cell BK113.out 0).trans rfl
           have hfs26 := blk_frozen BK113.out 0
           have hs27 : w25.cell? ⟨gb113, 1, none⟩ = some (.int .i64 0) := (blk_cell BK113.out 1).trans rfl
           have hfs27 := blk_frozen BK113.out 1
           have hs28 : w25.cell? ⟨gb113, 2, none⟩ = some (.int .i64 0) := (blk_cell BK113.out 2).trans rfl
           have hfs28 := blk_frozen BK113.out 2
           refine skip_ (w1 := ?_) (by rfl) rfl ?_ ?_
           rotate_left
           ·go_simp
            rfl
           refine hK.out _ _ ⟨((cell_far (p := ⟨gb113, _, none⟩) (by first | exact Nat.ne_of_lt (Nat.lt_of_lt_of_le (by have := World.block_lt_of_cell? _ _ hw110_0; first | rwa [add_block] at this | exact this) GW113.out) | (rw [add_block]; exact Nat.ne_of_lt (Nat.lt_of_lt_of_le (by have := World.block_lt_of_cell? _ _ hw110_0; first | rwa [add_block] at this | exact this) GW113.out)) | (show (Addr.add _ _).block ≠ _; rw [add_block]; exact Nat.ne_of_lt (Nat.lt_of_lt_of_le (by have := World.block_lt_of_cell? _ _ hw110_0; first | rwa [add_block] at this | exact this) GW113.out)) | (dsimp only; exact Nat.ne_of_lt (Nat.lt_of_lt_of_le (by have := World.block_lt_of_cell? _ _ hw110_0; first | rwa [add_block] at this | exact this) GW113.out))) _).trans (((cell_far (p := ⟨gb113, _, none⟩) (by first | exact Nat.ne_of_lt (Nat.lt_of_lt_of_le (by have := World.block_lt_of_cell? _ _ hw110_0; first | rwa [add_block] at this | exact this) GW113.out) | (rw [add_block]; exact Nat.ne_of_lt (Nat.lt_of_lt_of_le (by have := World.block_lt_of_cell? _ _ hw110_0; first | rwa [add_block] at this | exact this) GW113.out)) | (show (Addr.add _ _).block ≠ _; rw [add_block]; exact Nat.ne_of_lt (Nat.lt_of_lt_of_le (by have := World.block_lt_of_cell? _ _ hw110_0; first | rwa [add_block] at this | exact this) GW113.out)) | (dsimp only; exact Nat.ne_of_lt (Nat.lt_of_lt_of_le (by have := World.block_lt_of_cell? _ _ hw110_0; first | rwa [add_block] at this | exact this) GW113.out))) _).trans (((cell_far (p := ⟨gb113, _, none⟩) (by first | exact Nat.ne_of_lt (Nat.lt_of_lt_of_le (by have := World.block_lt_of_cell? _ _ hw110_0; first | rwa [add_block] at this | exact this) GW113.out) | (rw [add_block]; exact Nat.ne_of_lt (Nat.lt_of_lt_of_le (by have := World.block_lt_of_cell? _ _ hw110_0; first | rwa [add_block] at this | exact this) GW113.out)) | (show (Addr.add _ _).block ≠ _; rw [add_block]; exact Nat.ne_of_lt (Nat.lt_of_lt_of_le (by have := World.block_lt_of_cell? _ _ hw110_0; first | rwa [add_block] at this | exact this) GW113.out)) | (dsimp only; exact Nat.ne_of_lt (Nat.lt_of_lt_of_le (by have := World.block_lt_of_cell? _ _ hw110_0; first | rwa [add_block] at this | exact this) GW113.out))) _).trans (hHeld.1)))))), ((cell_far (p := ⟨gb113, _, none⟩) (by first | exact Nat.ne_of_lt (Nat.lt_of_lt_of_le (by have := World.block_lt_of_cell? _ _ hw111_0; first | rwa [add_block] at this | exact this) GW113.out) | (rw [add_block]; exact Nat.ne_of_lt (Nat.lt_of_lt_of_le (by have := World.block_lt_of_cell? _ _ hw111_0; first | rwa [add_block] at this | exact this) GW113.out)) | (show (Addr.add _ _).block ≠ _; rw [add_block]; exact Nat.ne_of_lt (Nat.lt_of_lt_of_le (by have := World.block_lt_of_cell? _ _ hw111_0; first | rwa [add_block] at this | exact this) GW113.out)) | (dsimp only; exact Nat.ne_of_lt (Nat.lt_of_lt_of_le (by have := World.block_lt_of_cell? _ _ hw111_0; first | rwa [add_block] at this | exact this) GW113.out))) _).trans (((cell_far (p := ⟨gb113, _, none⟩) (by first | exact Nat.ne_of_lt (Nat.lt_of_lt_of_le (by have := World.block_lt_of_cell? _ _ hw111_0; first | rwa [add_block] at this | exact this) GW113.out) | (rw [add_block]; exact Nat.ne_of_lt (Nat.lt_of_lt_of_le (by have := World.block_lt_of_cell? _ _ hw111_0; first | rwa [add_block] at this | exact this) GW113.out)) | (show (Addr.add _ _).block ≠ _; rw [add_block]; exact Nat.ne_of_lt (Nat.lt_of_lt_of_le (by have := World.block_lt_of_cell? _ _ hw111_0; first | rwa [add_block] at this | exact this) GW113.out)) | (dsimp only; exact Nat.ne_of_lt (Nat.lt_of_lt_of_le (by have := World.block_lt_of_cell? _ _ hw111_0; first | rwa [add_block] at this | exact this) GW113.out))) _).trans (((cell_far (p := ⟨gb113, _, none⟩) (by first | exact Nat.ne_of_lt (Nat.lt_of_lt_of_le (by have := World.block_lt_of_cell? _ _ hw111_0; first | rwa [add_block] at this | exact this) GW113.out) | (rw [add_block]; exact Nat.ne_of_lt (Nat.lt_of_lt_of_le (by have := World.block_lt_of_cell? _ _ hw111_0; first | rwa [add_block] at this | exact this) GW113.out)) | (show (Addr.add _ _).block ≠ _; rw [add_block]; exact Nat.ne_of_lt (Nat.lt_of_lt_of_le (by have := World.block_lt_of_cell? _ _ hw111_0; first | rwa [add_block] at this | exact this) GW113.out)) | (dsimp only; exact Nat.ne_of_lt (Nat.lt_of_lt_of_le (by have := World.block_lt_of_cell? _ _ hw111_0; first | rwa [add_block] at this | exact this) GW113.out))) _).trans (hHeld.2.1)))))), ((cell_far (p := ⟨gb113, _, none⟩) (by first | exact Nat.ne_of_lt (Nat.lt_of_lt_of_le (by have := World.block_lt_of_cell? _ _ hw112_0; first | rwa [add_block] at this | exact this) GW113.out) | (rw [add_block]; exact Nat.ne_of_lt (Nat.lt_of_lt_of_le (by have := World.block_lt_of_cell? _ _ hw112_0; first | rwa [add_block] at this | exact this) GW113.out)) | (show (Addr.add _ _).block ≠ _; rw [add_block]; exact Nat.ne_of_lt (Nat.lt_of_lt_of_le (by have := World.block_lt_of_cell? _ _ hw112_0; first | rwa [add_block] at this | exact this) GW113.out)) | (dsimp only; exact Nat.ne_of_lt (Nat.lt_of_lt_of_le (by have := World.block_lt_of_cell? _ _ hw112_0; first | rwa [add_block] at this | exact this) GW113.out))) _).trans (((cell_far (p := ⟨gb113, _, none⟩) (by first | exact Nat.ne_of_lt (Nat.lt_of_lt_of_le (by have := World.block_lt_of_cell? _ _ hw112_0; first | rwa [add_block] at this | exact this) GW113.out) | (rw [add_block]; exact Nat.ne_of_lt (Nat.lt_of_lt_of_le (by have := World.block_lt_of_cell? _ _ hw112_0; first | rwa [add_block] at this | exact this) GW113.out)) | (show (Addr.add _ _).block ≠ _; rw [add_block]; exact Nat.ne_of_lt (Nat.lt_of_lt_of_le (by have := World.block_lt_of_cell? _ _ hw112_0; first | rwa [add_block] at this | exact this) GW113.out)) | (dsimp only; exact Nat.ne_of_lt (Nat.lt_of_lt_of_le (by have := World.block_lt_of_cell? _ _ hw112_0; first | rwa [add_block] at this | exact this) GW113.out))) _).trans (((cell_far (p := ⟨gb113, _, none⟩) (by first | exact Nat.ne_of_lt (Nat.lt_of_lt_of_le (by have := World.block_lt_of_cell? _ _ hw112_0; first | rwa [add_block] at this | exact this) GW113.out) | (rw [add_block]; exact Nat.ne_of_lt (Nat.lt_of_lt_of_le (by have := World.block_lt_of_cell? _ _ hw112_0; first | rwa [add_block] at this | exact this) GW113.out)) | (show (Addr.add _ _).block ≠ _; rw [add_block]; exact Nat.ne_of_lt (Nat.lt_of_lt_of_le (by have := World.block_lt_of_cell? _ _ hw112_0; first | rwa [add_block] at this | exact this) GW113.out)) | (dsimp only; exact Nat.ne_of_lt (Nat.lt_of_lt_of_le (by have := World.block_lt_of_cell? _ _ hw112_0; first | rwa [add_block] at this | exact this) GW113.out))) _).trans (hHeld.2.2))))))⟩ (fun hHeld => ?_)
           clear hK K
           refine done_ (done_of HT_.out (by kernel_rfl)) ?_
           have hcz29_0 : w25.cell? ⟨gb113, 0, none⟩ = some (.int .i64 0) := (blk_cell BK113.out 0).trans rfl
           have hcz29_1 : w25.cell? ⟨gb113, 1, none⟩ = some (.int .i64 0) := (blk_cell BK113.out 1).trans rfl
           have hcz29_2 : w25.cell? ⟨gb113, 2, none⟩ = some (.int .i64 0) := (blk_cell BK113.out 2).trans rfl
           have hfz29_0 := blk_frozen BK113.out 0
           have hfz29_1 := blk_frozen BK113.out 1
           have hfz29_2 := blk_frozen BK113.out 2
           try go_wp2_with (first | ((with_reducible refine gate_callee (f := 61) rfl ?_); refine goesL_ (some 43) rfl rfl Try.func61 (by kernel_rfl) rfl #[.agg #[.int .i64 (wrap64 (rd l0 x8_1)), .int .i64 (wrap64 (rd l0 (ji6))), .int .i64 (wrap64 (IntKind.i8.wrap (rd l0 (ji9))))], .int .i64 a1] rfl (by (try simp only [List.map_toArray, List.map_cons, List.map_nil]); first | done | (simp only [hji6, hji9]; rfl) | rfl | (simp only [List.length_drop, List.length_take]; rfl)) ?_; (with_reducible refine (lang_Ok.calls (wrap64 (rd l0 x8_1)) (wrap64 (rd l0 (ji6))) (wrap64 (IntKind.i8.wrap (rd l0 (ji9)))) a1 false _ A12.out).mono ?_); rintro e w30 ⟨rfl, hb⟩; refine ⟨_, rfl, ?_⟩; have n0_ := Aside0.mk (Kd.R_below (by (with_reducible repeat (first | apply Kd.R_alloc | apply Kd.R_drewN | apply Kd.R_drew)); exact (Kd.R_mono (Kd.R_far (p := ⟨gb113, 2, none⟩) (Kd.R_far (p := ⟨gb113, 1, none⟩) (Kd.R_far (p := ⟨gb113, 0, none⟩) (Kd.R_mono HO_7.out (fun k_ hk => (⟨hk, hk.2⟩ : _ ∧ k_ ≠ gb113))) (fun _ hk => hk.2) (.int .i64 (wrap64 (rd l0 x8_1)))) (fun _ hk => hk.2) (.int .i64 (wrap64 (rd l0 (ji6))))) (fun _ hk => hk.2) (.int .i64 (wrap64 (IntKind.i8.wrap (rd l0 (ji9)))))) (fun _ h_ => h_.1))) hb); have n1_ := Aside0.mk (blk_below (g := gb113) (o := .cells #[.int .i64 (wrap64 (rd l0 x8_1)), .int .i64 (wrap64 (rd l0 (ji6))), .int .i64 (wrap64 (IntKind.i8.wrap (rd l0 (ji9))))] 80 (0, 0)) (by (with_reducible repeat (first | refine blk_drewN ?_ _ | refine blk_drew ?_ | refine blk_alloc ?_ _)); refine blk_put (cs := #[.int .i64 (wrap64 (rd l0 x8_1)), .int .i64 (wrap64 (rd l0 (ji6))), .int .i64 0]) ?_ 2 _ rfl; (with_reducible repeat (first | refine blk_drewN ?_ _ | refine blk_drew ?_ | refine blk_alloc ?_ _)); refine blk_put (cs := #[.int .i64 (wrap64 (rd l0 x8_1)), .int .i64 0, .int .i64 0]) ?_ 1 _ rfl; (with_reducible repeat (first | refine blk_drewN ?_ _ | refine blk_drew ?_ | refine blk_alloc ?_ _)); refine blk_put (cs := #[.int .i64 0, .int .i64 0, .int .i64 0]) ?_ 0 _ rfl; (with_reducible repeat (first | refine blk_drewN ?_ _ | refine blk_drew ?_ | refine blk_alloc ?_ _)); exact BK113.out) hb); have n2_ := Aside0.mk (below_step (by repeat (first | (with_reducible first | exact HB.out | apply bwA | apply bwN | apply bw1 | refine bwS ?_ GE113.out) | exact HB.out)) hb); clear HO_7; clear BK113; clear HB; have HO_7 := n0_; have BK113 := n1_; have HB := n2_; clear n0_ n1_ n2_; (try clear hb); (try clear hb2); (try clear hk); (try clear hi)))
           go_ret3
           exact ⟨_, by first | rfl | (simp [errW_none, errW_some] <;> rfl) | (simp only [← hji6, ← hji9]; first | rfl | (simp [errW_none, errW_some] <;> rfl)) | (simp [*, errW_none, errW_some] <;> rfl), by first | exact Kd.R_nil _ _ _ _ _ | exact Kd.N_nil _ _ _ _ _ | exact Kd.V_nil _ _ _ _ _ | exact Kd.Q_nil _ _ _ _ _ | exact Kd.S_nil _ _ _ _ _, by repeat (first | (with_reducible first | exact HB.out | apply bwA | apply bwN | apply bw1 | refine bwS ?_ GE113.out) | exact HB.out)⟩
         ·rw [if_neg c11] at H
          exact absurd H (by simp)
        ·rw [if_neg c10] at H
         exact absurd H (by simp)
       ·rw [if_neg c8] at H
        exact absurd H (by simp)
      ·rw [if_neg c7] at H
       exact absurd H (by simp)
     ·rw [if_neg c5] at H
      exact absurd H (by simp)
   ·rw [if_neg c3] at H
    have c3b0 : decide (x8_1 < (l0.length : Int)) = false := decide_eq_false c3
    clear c3
    simp only [Option.some.injEq, Prod.mk.injEq] at H
    obtain ⟨rfl, rfl, rfl⟩ := H
    go_wp2
    go_ret3
    exact ⟨_, by first | rfl | (simp [errW_none, errW_some] <;> rfl) | (simp [*, errW_none, errW_some] <;> rfl), by (with_reducible repeat (first | apply Kd.R_alloc | apply Kd.R_drewN | apply Kd.R_drew)); exact HO_7.out, by repeat (first | (with_reducible first | exact HB.out | apply bwA | apply bwN | apply bw1) | exact HB.out)⟩
end Go.Proofs.Ythfkgnkojhocbaa.S
end
section
namespace Go.Proofs.Ythfkgnkojhocbaa.S
open Go Go.RowKit Go.Proofs.YthfkgnkojhocbaaW.PrintWords Go.Proofs.YthfkgnkojhocbaaW.PrintLast Go.Proofs.YthfkgnkojhocbaaW.PrintMore
attribute [local go_sem] max2_int min2_int max_two min_two max_three min_three max_four min_four
set_option linter.unusedVariables false
set_option linter.unusedSimpArgs false
/-- What was read, and where. -/
structure Rd where
  at_ : Nat
  c : S25
  f : List Int
  d : List Int
  a : List (List (List S80))
  p : List Int
abbrev kA : Kd (List (List S80)) := Kd.slice 61 (Kd.slice 80 k80)
/-- A row that came in, whatever is done from base on. -/
def CB (base : Nat) (w : World) (A : Option Addr) (l : List Int) : Prop := ∀ W', Below base w W' → Kd.C (Kd.int .u8) W' A l.length l
theorem CB.step {base : Nat} {w w' : World} {A : Option Addr} {l : List Int} (h : CB base w A l) (hb : Below base w w') : CB base w' A l := fun W' h' => h W' (hb.trans h')
theorem CB.now {base : Nat} {w : World} {A : Option Addr} {l : List Int} (h : CB base w A l) : Kd.C (Kd.int .u8) w A l.length l := h w (Below.refl _ _)
/-- The reader's own: its rows. -/
structure Own (ok : Nat → Prop) (base : Nat) (w : World) (s : Rd) (vf vd va vp : Value) : Prop where
  f : Kd.R (Kd.int .i64) 2 w base ok vf s.f
  d : Kd.R (Kd.int .u8) 5 w base ok vd s.d
  a : Kd.R kA 60 w base ok va s.a
  p : Kd.R (Kd.int .i64) 3 w base ok vp s.p
theorem Own.below {ok : Nat → Prop} {base : Nat} {w w' : World} {s : Rd} {vf vd va vp : Value} (h : Own ok base w s vf vd va vp) (hb : Below w.heap.size w w') : Own ok base w' s vf vd va vp := ⟨Kd.R_below h.f hb, Kd.R_below h.d hb, Kd.R_below h.a hb, Kd.R_below h.p hb⟩
theorem Own.fr {ok : Nat → Prop} {base : Nat} {w w' : World} {s : Rd} {vf vd va vp : Value} (h : Own ok base w s vf vd va vp) (hf : Fr [53] w w') : Own ok base w' s vf vd va vp :=
  ⟨R_frN h.f hf (by decide), R_frN h.d hf (by decide), R_frN h.a hf (by decide), R_frN h.p hf (by decide)⟩
theorem Own.at_ {ok : Nat → Prop} {base : Nat} {w : World} {s : Rd} {vf vd va vp : Value} (h : Own ok base w s vf vd va vp) (n : Nat) : Own ok base w { s with at_ := n } vf vd va vp := ⟨h.f, h.d, h.a, h.p⟩
/-- The reader. -/
def IsGo (ok : Nat → Prop) (base : Nat) (w : World) (g : Nat) (A0 : Option Addr) (c0 : Nat) (l0 : List Int) (s : Rd) : Prop :=
  base ≤ g ∧ base ≤ w.heap.size ∧ l0.length ≤ c0 ∧ l0.length ≤ 1000000 ∧ s.at_ ≤ l0.length ∧ CB base w A0 l0 ∧
    ∃ vf vd va vp, w.heap[g]? = some (.cells #[.slice A0 l0.length c0, .int .i64 s.at_, .int .i64 s.c.f0, .int .i64 s.c.f1, .int .i64 s.c.f2, .int .i64 s.c.f3, .int .i64 s.c.f4, .int .i64 s.c.f5, vf, vd, va, vp] 53 (0, 0)) ∧ Own ok base w s vf vd va vp
theorem IsGo.below {ok : Nat → Prop} {base : Nat} {w w' : World} {g : Nat} {A0 : Option Addr} {c0 : Nat} {l0 : List Int} {s : Rd} (h : IsGo ok base w g A0 c0 l0 s) (hb : Below w.heap.size w w') : IsGo ok base w' g A0 c0 l0 s := by
  obtain ⟨h1, h2, h3, h4, h5, h6, vf, vd, va, vp, h7, h8⟩ := h
  exact ⟨h1, Nat.le_trans h2 hb.size, h3, h4, h5, h6.step (hb.mono h2), vf, vd, va, vp, blk_below h7 hb, h8.below hb⟩
theorem set_base {base g j : Nat} {w W : World} {v : Value} (h : Below base w W) (hg : base ≤ g) : Below base w (W.setCell ⟨g, j, none⟩ v) := h.setCell hg _
theorem CB.sub {base : Nat} {w : World} {A : Option Addr} {l : List Int} {c : Nat} (h : CB base w A l) (i n : Nat) (hi : i + n ≤ l.length) (hc : l.length ≤ c) : CB base w (if c = i then A else A.map (fun x => x.add i)) ((l.drop i).take n) := fun W' hb => by
  have h1 := Kd.C_drop (c := c) (h W' hb) (m := i) (by omega) hc
  have h2 := Kd.C_take h1 (m := n) (by rw [List.length_drop]; omega)
  have e : (fun x : Addr => x.add (i * (Kd.int .u8).sz)) = fun x => x.add i := by funext x; rw [show (Kd.int .u8).sz = 1 from rfl, Nat.mul_one]
  simpa only [e] using h2
theorem IsGo.setAt {ok : Nat → Prop} {base : Nat} {w : World} {g : Nat} {A0 : Option Addr} {c0 : Nat} {l0 : List Int} {s : Rd} (h : IsGo ok base w g A0 c0 l0 s) (m : Nat) (hm : m ≤ l0.length) :
    IsGo ok base (w.setCell ⟨g, 1, none⟩ (.int .i64 (m : Int))) g A0 c0 l0 { s with at_ := m } ∧ Below base w (w.setCell ⟨g, 1, none⟩ (.int .i64 (m : Int))) := by
  obtain ⟨h1, h2, h3, h4, h5, h6, vf, vd, va, vp, h7, h8⟩ := h
  have hx := set_base (j := 1) (v := .int .i64 (m : Int)) (Below.refl base w) h1
  have hs : Fr [53] w (w.setCell ⟨g, 1, none⟩ (.int .i64 (m : Int))) := (Fr.refl _ _).set h7 (by decide) _
  exact ⟨⟨h1, Nat.le_trans h2 hx.size, h3, h4, hm, h6.step hx, vf, vd, va, vp, blk_put h7 1 (.int .i64 (m : Int)) (cs' := #[.slice A0 l0.length c0, .int .i64 (m : Int), .int .i64 s.c.f0, .int .i64 s.c.f1, .int .i64 s.c.f2, .int .i64 s.c.f3, .int .i64 s.c.f4, .int .i64 s.c.f5, vf, vd, va, vp]) rfl, (h8.fr hs).at_ _⟩, hx⟩
theorem IsGo.setAt_fr {ok : Nat → Prop} {base : Nat} {w : World} {g : Nat} {A0 : Option Addr} {c0 : Nat} {l0 : List Int} {s : Rd} (h : IsGo ok base w g A0 c0 l0 s) (m : Nat) : Fr [53] w (w.setCell ⟨g, 1, none⟩ (.int .i64 (m : Int))) := by
  obtain ⟨h1, h2, h3, h4, h5, h6, vf, vd, va, vp, h7, h8⟩ := h
  exact (Fr.refl _ _).set h7 (by decide) _
theorem Fr.setB {ts : List Nat} {w a : World} (h : Fr ts w a) {g j : Nat} {cs : Array Value} {t : Nat} (hp : a.heap[g]? = some (.cells cs t (0, 0))) (ht : t ∈ ts) (u : Value) : Fr ts w (a.setCell ⟨g, j, none⟩ u) ∧ (a.setCell ⟨g, j, none⟩ u).heap[g]? = some (.cells (cs.setIfInBounds j u) t (0, 0)) :=
  ⟨h.set hp ht u, blk_set hp j u⟩
theorem IsGo.setC {ok : Nat → Prop} {base : Nat} {w : World} {g : Nat} {A0 : Option Addr} {c0 : Nat} {l0 : List Int} {s : Rd} (h : IsGo ok base w g A0 c0 l0 s) (c : S25) :
    IsGo ok base ((((((w.setCell ⟨g, 2, none⟩ (.int .i64 c.f0)).setCell ⟨g, 3, none⟩ (.int .i64 c.f1)).setCell ⟨g, 4, none⟩ (.int .i64 c.f2)).setCell ⟨g, 5, none⟩ (.int .i64 c.f3)).setCell ⟨g, 6, none⟩ (.int .i64 c.f4)).setCell ⟨g, 7, none⟩ (.int .i64 c.f5)) g A0 c0 l0 { s with c := c } ∧ Below base w ((((((w.setCell ⟨g, 2, none⟩ (.int .i64 c.f0)).setCell ⟨g, 3, none⟩ (.int .i64 c.f1)).setCell ⟨g, 4, none⟩ (.int .i64 c.f2)).setCell ⟨g, 5, none⟩ (.int .i64 c.f3)).setCell ⟨g, 6, none⟩ (.int .i64 c.f4)).setCell ⟨g, 7, none⟩ (.int .i64 c.f5)) ∧ Fr [53] w ((((((w.setCell ⟨g, 2, none⟩ (.int .i64 c.f0)).setCell ⟨g, 3, none⟩ (.int .i64 c.f1)).setCell ⟨g, 4, none⟩ (.int .i64 c.f2)).setCell ⟨g, 5, none⟩ (.int .i64 c.f3)).setCell ⟨g, 6, none⟩ (.int .i64 c.f4)).setCell ⟨g, 7, none⟩ (.int .i64 c.f5)) := by
  obtain ⟨h1, h2, h3, h4, h5, h6, vf, vd, va, vp, h7, h8⟩ := h
  have hx := (set_base (j := 7) (v := .int .i64 c.f5) (set_base (j := 6) (v := .int .i64 c.f4) (set_base (j := 5) (v := .int .i64 c.f3) (set_base (j := 4) (v := .int .i64 c.f2) (set_base (j := 3) (v := .int .i64 c.f1) (set_base (j := 2) (v := .int .i64 c.f0) (Below.refl base w) h1) h1) h1) h1) h1) h1)
  have f0 := (Fr.refl [53] w).setB (j := 2) h7 (by decide) (.int .i64 c.f0)
  have f1 := f0.1.setB (j := 3) f0.2 (by decide) (.int .i64 c.f1)
  have f2 := f1.1.setB (j := 4) f1.2 (by decide) (.int .i64 c.f2)
  have f3 := f2.1.setB (j := 5) f2.2 (by decide) (.int .i64 c.f3)
  have f4 := f3.1.setB (j := 6) f3.2 (by decide) (.int .i64 c.f4)
  have f5 := f4.1.setB (j := 7) f4.2 (by decide) (.int .i64 c.f5)
  have ho := h8.fr f5.1
  exact ⟨⟨h1, Nat.le_trans h2 hx.size, h3, h4, h5, h6.step hx, vf, vd, va, vp, f5.2, ho.f, ho.d, ho.a, ho.p⟩, hx, f5.1⟩
/-- What reading changes, by type. -/
abbrev FT : List Nat := [53, 2, 5, 60, 3]
abbrev IsG (base : Nat) (w : World) (g : Nat) (A0 : Option Addr) (c0 : Nat) (l0 : List Int) (s : Rd) : Prop := IsGo (fun _ => True) base w g A0 c0 l0 s
/-- What take answers where there are as many. -/
def TakeOk (ok : Nat → Prop) (base g n : Nat) (A0 : Option Addr) (c0 : Nat) (l0 : List Int) (s : Rd) (w : World) (e : Ending) (w' : World) : Prop :=
  ∃ A c, e = .returned (.tuple #[.slice A n c, .bool true]) ∧ n ≤ c ∧ CB base w' A ((l0.drop s.at_).take n) ∧ IsGo ok base w' g A0 c0 l0 { s with at_ := s.at_ + n } ∧ Below base w w' ∧ Fr [53] w w'
set_option maxHeartbeats 8000000 in
set_option maxRecDepth 100000 in
theorem take_ok {ok : Nat → Prop} (base g n : Nat) (A0 : Option Addr) (c0 : Nat) (l0 : List Int) (s : Rd) (w : World) (h : IsGo ok base w g A0 c0 l0 s) (hn : s.at_ + n ≤ l0.length) :
    Calls Try.prog 41 #[.pointer (some ⟨g, 0, none⟩), .int .i64 n] w fun e w' => TakeOk ok base g n A0 c0 l0 s w e w' := by
  obtain ⟨hge, hbs, hlc, hlm, hat, hcb, vf, vd, va, vp, hg0, hown⟩ := h
  have BS := Aside0.mk hg0
  have CBw := Aside0.mk hcb
  have OW := Aside0.mk hown
  have GE := Aside0.mk hge
  have BASE := Aside0.mk hbs
  have HB := Aside0.mk (Below.refl w.heap.size w)
  clear hge hbs hcb hg0 hown
  have q0 : World.cell? w ⟨g, 0, none⟩ = some (.slice A0 l0.length c0) := (blk_cell BS.out 0).trans rfl
  have q1 : World.cell? w ⟨g, 1, none⟩ = some (.int .i64 s.at_) := (blk_cell BS.out 1).trans rfl
  have q2 : World.cell? w ⟨g, 2, none⟩ = some (.int .i64 s.c.f0) := (blk_cell BS.out 2).trans rfl
  have q3 : World.cell? w ⟨g, 3, none⟩ = some (.int .i64 s.c.f1) := (blk_cell BS.out 3).trans rfl
  have q4 : World.cell? w ⟨g, 4, none⟩ = some (.int .i64 s.c.f2) := (blk_cell BS.out 4).trans rfl
  have q5 : World.cell? w ⟨g, 5, none⟩ = some (.int .i64 s.c.f3) := (blk_cell BS.out 5).trans rfl
  have q6 : World.cell? w ⟨g, 6, none⟩ = some (.int .i64 s.c.f4) := (blk_cell BS.out 6).trans rfl
  have q7 : World.cell? w ⟨g, 7, none⟩ = some (.int .i64 s.c.f5) := (blk_cell BS.out 7).trans rfl
  have q8 : World.cell? w ⟨g, 8, none⟩ = some (vf) := (blk_cell BS.out 8).trans rfl
  have q9 : World.cell? w ⟨g, 9, none⟩ = some (vd) := (blk_cell BS.out 9).trans rfl
  have q10 : World.cell? w ⟨g, 10, none⟩ = some (va) := (blk_cell BS.out 10).trans rfl
  have q11 : World.cell? w ⟨g, 11, none⟩ = some (vp) := (blk_cell BS.out 11).trans rfl
  have z1 : World.frozen? w ⟨g, 1, none⟩ = false := blk_frozen BS.out 1
  have hz : ¬ ((l0.length : Int) - (s.at_ : Int) < (n : Int)) := by omega
  have hat0 : (0 : Int) ≤ (s.at_ : Int) := by omega
  have hat1 : (s.at_ : Int) ≤ (l0.length : Int) := by omega
  have hlm1 : (l0.length : Int) ≤ 1000000 := by omega
  have hn0 : (0 : Int) ≤ (n : Int) := by omega
  have hn2 : (n : Int) ≤ 1000000 := by omega
  go_enter Try.func41, Try.ntmps41
  go_upto_region 1 with (fail)
  go_quiet (fail)
  have hb := pw_below_drewN (Below.refl w.heap.size w) nq
  have n_BS := Aside0.mk (blk_below BS.out hb); have n_HB := Aside0.mk (below_step HB.out hb); clear BS HB; have BS := n_BS; clear n_BS; have HB := n_HB; clear n_HB
  clear hb q0 q1 q2 q3 q4 q5 q6 q7 q8 q9 q10 q11 z1
  generalize World.drewN w nq = w2 at BS HB ⊢
  have q0 : World.cell? w2 ⟨g, 0, none⟩ = some (.slice A0 l0.length c0) := (blk_cell BS.out 0).trans rfl
  have q1 : World.cell? w2 ⟨g, 1, none⟩ = some (.int .i64 s.at_) := (blk_cell BS.out 1).trans rfl
  have q2 : World.cell? w2 ⟨g, 2, none⟩ = some (.int .i64 s.c.f0) := (blk_cell BS.out 2).trans rfl
  have q3 : World.cell? w2 ⟨g, 3, none⟩ = some (.int .i64 s.c.f1) := (blk_cell BS.out 3).trans rfl
  have q4 : World.cell? w2 ⟨g, 4, none⟩ = some (.int .i64 s.c.f2) := (blk_cell BS.out 4).trans rfl
  have q5 : World.cell? w2 ⟨g, 5, none⟩ = some (.int .i64 s.c.f3) := (blk_cell BS.out 5).trans rfl
  have q6 : World.cell? w2 ⟨g, 6, none⟩ = some (.int .i64 s.c.f4) := (blk_cell BS.out 6).trans rfl
  have q7 : World.cell? w2 ⟨g, 7, none⟩ = some (.int .i64 s.c.f5) := (blk_cell BS.out 7).trans rfl
  have q8 : World.cell? w2 ⟨g, 8, none⟩ = some (vf) := (blk_cell BS.out 8).trans rfl
  have q9 : World.cell? w2 ⟨g, 9, none⟩ = some (vd) := (blk_cell BS.out 9).trans rfl
  have q10 : World.cell? w2 ⟨g, 10, none⟩ = some (va) := (blk_cell BS.out 10).trans rfl
  have q11 : World.cell? w2 ⟨g, 11, none⟩ = some (vp) := (blk_cell BS.out 11).trans rfl
  have z1 : World.frozen? w2 ⟨g, 1, none⟩ = false := blk_frozen BS.out 1
  go_upto_region 5 with (fail)
  have bs := blk_put BS.out 1 (.int .i64 ((s.at_ : Int) + (n : Int))) (cs' := #[.slice A0 l0.length c0, .int .i64 ((s.at_ : Int) + (n : Int)), .int .i64 s.c.f0, .int .i64 s.c.f1, .int .i64 s.c.f2, .int .i64 s.c.f3, .int .i64 s.c.f4, .int .i64 s.c.f5, vf, vd, va, vp]) rfl
  have hs : Fr [53] w2 (w2.setCell ⟨g, 1, none⟩ (.int .i64 ((s.at_ : Int) + (n : Int)))) := (Fr.refl _ _).set BS.out (by decide) _
  have HBB := Aside0.mk (set_base (j := 1) (v := .int .i64 ((s.at_ : Int) + (n : Int))) (HB.out.mono BASE.out) GE.out)
  have FRS := Aside0.mk ((Fr.of_below HB.out : Fr [53] w w2).trans hs)
  have n1 := Aside0.mk ((OW.out.below HB.out).fr hs)
  have n2 := Aside0.mk bs
  clear OW BS HB hs bs q0 q1 q2 q3 q4 q5 q6 q7 q8 q9 q10 q11 z1
  have OW := n1
  have BS := n2
  clear n1 n2
  generalize World.setCell w2 ⟨g, 1, none⟩ (.int .i64 ((s.at_ : Int) + (n : Int))) = w3 at OW BS HBB FRS ⊢
  have q0 : World.cell? w3 ⟨g, 0, none⟩ = some (.slice A0 l0.length c0) := (blk_cell BS.out 0).trans rfl
  have q1 : World.cell? w3 ⟨g, 1, none⟩ = some (.int .i64 ((s.at_ : Int) + (n : Int))) := (blk_cell BS.out 1).trans rfl
  have q2 : World.cell? w3 ⟨g, 2, none⟩ = some (.int .i64 s.c.f0) := (blk_cell BS.out 2).trans rfl
  have q3 : World.cell? w3 ⟨g, 3, none⟩ = some (.int .i64 s.c.f1) := (blk_cell BS.out 3).trans rfl
  have q4 : World.cell? w3 ⟨g, 4, none⟩ = some (.int .i64 s.c.f2) := (blk_cell BS.out 4).trans rfl
  have q5 : World.cell? w3 ⟨g, 5, none⟩ = some (.int .i64 s.c.f3) := (blk_cell BS.out 5).trans rfl
  have q6 : World.cell? w3 ⟨g, 6, none⟩ = some (.int .i64 s.c.f4) := (blk_cell BS.out 6).trans rfl
  have q7 : World.cell? w3 ⟨g, 7, none⟩ = some (.int .i64 s.c.f5) := (blk_cell BS.out 7).trans rfl
  have q8 : World.cell? w3 ⟨g, 8, none⟩ = some (vf) := (blk_cell BS.out 8).trans rfl
  have q9 : World.cell? w3 ⟨g, 9, none⟩ = some (vd) := (blk_cell BS.out 9).trans rfl
  have q10 : World.cell? w3 ⟨g, 10, none⟩ = some (va) := (blk_cell BS.out 10).trans rfl
  have q11 : World.cell? w3 ⟨g, 11, none⟩ = some (vp) := (blk_cell BS.out 11).trans rfl
  have hc1 : (s.at_ : Int) + (n : Int) ≤ (c0 : Int) := by omega
  have hc2 : (0 : Int) ≤ (s.at_ : Int) + (n : Int) := by omega
  have HX3 := Aside0.mk (CBw.out.step HBB.out)
  by_cases hcs : c0 = s.at_
  · have HCS := Aside0.mk hcs
    subst hcs
    obtain rfl : n = 0 := by omega
    go_quiet (fail)
    have hb := pw_below_drewN (Below.refl w3.heap.size w3) nq
    go_wp2
    go_ret2
    have hx := HBB.out.trans (hb.mono (Nat.le_trans BASE.out HBB.out.size))
    skip
    have hsub := (CBw.out.step hx).sub s.at_ 0 hn hlc
    rw [if_pos rfl] at hsub
    refine ⟨_, _, rfl, by omega, hsub, ⟨GE.out, Nat.le_trans BASE.out hx.size, hlc, hlm, hn, CBw.out.step hx, vf, vd, va, vp, ?_, (OW.out.below hb).at_ _⟩, hx, FRS.out.below hb⟩
    exact blk_below BS.out hb
  · have HCS := Aside0.mk hcs
    skip
    skip
    go_quiet (fail)
    have hb := pw_below_drewN (Below.refl w3.heap.size w3) nq
    go_wp2
    go_ret2
    have hx := HBB.out.trans (hb.mono (Nat.le_trans BASE.out HBB.out.size))
    skip
    have hsub := (CBw.out.step hx).sub s.at_ n hn hlc
    rw [if_neg hcs] at hsub
    refine ⟨_, _, rfl, by omega, hsub, ⟨GE.out, Nat.le_trans BASE.out hx.size, hlc, hlm, hn, CBw.out.step hx, vf, vd, va, vp, ?_, (OW.out.below hb).at_ _⟩, hx, FRS.out.below hb⟩
    exact blk_below BS.out hb
set_option maxHeartbeats 8000000 in
set_option maxRecDepth 100000 in
theorem take_short {ok : Nat → Prop} (base g n : Nat) (A0 : Option Addr) (c0 : Nat) (l0 : List Int) (s : Rd) (w : World) (h : IsGo ok base w g A0 c0 l0 s) (hn : l0.length < s.at_ + n) (hn1 : n ≤ 1000000) :
    Calls Try.prog 41 #[.pointer (some ⟨g, 0, none⟩), .int .i64 n] w fun e w' => e = .returned (.tuple #[.slice none 0 0, .bool false]) ∧ IsGo ok base w' g A0 c0 l0 { s with at_ := l0.length } ∧ Below base w w' ∧ Fr [53] w w' := by
  obtain ⟨hge, hbs, hlc, hlm, hat, hcb, vf, vd, va, vp, hg0, hown⟩ := h
  have BS := Aside0.mk hg0
  have CBw := Aside0.mk hcb
  have OW := Aside0.mk hown
  have GE := Aside0.mk hge
  have BASE := Aside0.mk hbs
  have HB := Aside0.mk (Below.refl w.heap.size w)
  clear hge hbs hcb hg0 hown
  have q0 : World.cell? w ⟨g, 0, none⟩ = some (.slice A0 l0.length c0) := (blk_cell BS.out 0).trans rfl
  have q1 : World.cell? w ⟨g, 1, none⟩ = some (.int .i64 s.at_) := (blk_cell BS.out 1).trans rfl
  have q2 : World.cell? w ⟨g, 2, none⟩ = some (.int .i64 s.c.f0) := (blk_cell BS.out 2).trans rfl
  have q3 : World.cell? w ⟨g, 3, none⟩ = some (.int .i64 s.c.f1) := (blk_cell BS.out 3).trans rfl
  have q4 : World.cell? w ⟨g, 4, none⟩ = some (.int .i64 s.c.f2) := (blk_cell BS.out 4).trans rfl
  have q5 : World.cell? w ⟨g, 5, none⟩ = some (.int .i64 s.c.f3) := (blk_cell BS.out 5).trans rfl
  have q6 : World.cell? w ⟨g, 6, none⟩ = some (.int .i64 s.c.f4) := (blk_cell BS.out 6).trans rfl
  have q7 : World.cell? w ⟨g, 7, none⟩ = some (.int .i64 s.c.f5) := (blk_cell BS.out 7).trans rfl
  have q8 : World.cell? w ⟨g, 8, none⟩ = some (vf) := (blk_cell BS.out 8).trans rfl
  have q9 : World.cell? w ⟨g, 9, none⟩ = some (vd) := (blk_cell BS.out 9).trans rfl
  have q10 : World.cell? w ⟨g, 10, none⟩ = some (va) := (blk_cell BS.out 10).trans rfl
  have q11 : World.cell? w ⟨g, 11, none⟩ = some (vp) := (blk_cell BS.out 11).trans rfl
  have z1 : World.frozen? w ⟨g, 1, none⟩ = false := blk_frozen BS.out 1
  have hz : ((l0.length : Int) - (s.at_ : Int) < (n : Int)) := by omega
  have hat0 : (0 : Int) ≤ (s.at_ : Int) := by omega
  have hat1 : (s.at_ : Int) ≤ (l0.length : Int) := by omega
  have hlm1 : (l0.length : Int) ≤ 1000000 := by omega
  have hn0 : (0 : Int) ≤ (n : Int) := by omega
  have hn2 : (n : Int) ≤ 1000000 := by omega
  go_enter Try.func41, Try.ntmps41
  go_upto_region 1 with (fail)
  go_quiet (fail)
  have hb := pw_below_drewN (Below.refl w.heap.size w) nq
  have n_BS := Aside0.mk (blk_below BS.out hb); have n_HB := Aside0.mk (below_step HB.out hb); clear BS HB; have BS := n_BS; clear n_BS; have HB := n_HB; clear n_HB
  clear hb q0 q1 q2 q3 q4 q5 q6 q7 q8 q9 q10 q11 z1
  generalize World.drewN w nq = w2 at BS HB ⊢
  have q0 : World.cell? w2 ⟨g, 0, none⟩ = some (.slice A0 l0.length c0) := (blk_cell BS.out 0).trans rfl
  have q1 : World.cell? w2 ⟨g, 1, none⟩ = some (.int .i64 s.at_) := (blk_cell BS.out 1).trans rfl
  have q2 : World.cell? w2 ⟨g, 2, none⟩ = some (.int .i64 s.c.f0) := (blk_cell BS.out 2).trans rfl
  have q3 : World.cell? w2 ⟨g, 3, none⟩ = some (.int .i64 s.c.f1) := (blk_cell BS.out 3).trans rfl
  have q4 : World.cell? w2 ⟨g, 4, none⟩ = some (.int .i64 s.c.f2) := (blk_cell BS.out 4).trans rfl
  have q5 : World.cell? w2 ⟨g, 5, none⟩ = some (.int .i64 s.c.f3) := (blk_cell BS.out 5).trans rfl
  have q6 : World.cell? w2 ⟨g, 6, none⟩ = some (.int .i64 s.c.f4) := (blk_cell BS.out 6).trans rfl
  have q7 : World.cell? w2 ⟨g, 7, none⟩ = some (.int .i64 s.c.f5) := (blk_cell BS.out 7).trans rfl
  have q8 : World.cell? w2 ⟨g, 8, none⟩ = some (vf) := (blk_cell BS.out 8).trans rfl
  have q9 : World.cell? w2 ⟨g, 9, none⟩ = some (vd) := (blk_cell BS.out 9).trans rfl
  have q10 : World.cell? w2 ⟨g, 10, none⟩ = some (va) := (blk_cell BS.out 10).trans rfl
  have q11 : World.cell? w2 ⟨g, 11, none⟩ = some (vp) := (blk_cell BS.out 11).trans rfl
  have z1 : World.frozen? w2 ⟨g, 1, none⟩ = false := blk_frozen BS.out 1
  go_wp2
  go_ret2
  have bs := blk_put BS.out 1 (.int .i64 (l0.length : Int)) (cs' := #[.slice A0 l0.length c0, .int .i64 (l0.length : Int), .int .i64 s.c.f0, .int .i64 s.c.f1, .int .i64 s.c.f2, .int .i64 s.c.f3, .int .i64 s.c.f4, .int .i64 s.c.f5, vf, vd, va, vp]) rfl
  have hs : Fr [53] w2 (w2.setCell ⟨g, 1, none⟩ (.int .i64 (l0.length : Int))) := (Fr.refl _ _).set BS.out (by decide) _
  have hx := set_base (j := 1) (v := .int .i64 (l0.length : Int)) (HB.out.mono BASE.out) GE.out
  exact ⟨rfl, ⟨GE.out, Nat.le_trans BASE.out hx.size, hlc, hlm, Nat.le_refl _, CBw.out.step hx, vf, vd, va, vp, bs, ((OW.out.below HB.out).fr hs).at_ _⟩, hx, (Fr.of_below HB.out : Fr [53] w w2).trans hs⟩
end Go.Proofs.Ythfkgnkojhocbaa.S
end
section
namespace Go.Proofs.Ythfkgnkojhocbaa.S
open Go Go.RowKit Go.Proofs.YthfkgnkojhocbaaW.PrintWords Go.Proofs.YthfkgnkojhocbaaW.PrintLast Go.Proofs.YthfkgnkojhocbaaW.PrintMore
attribute [local go_sem] max2_int min2_int max_two min_two max_three min_three max_four min_four
set_option linter.unusedVariables false
set_option linter.unusedSimpArgs false
/-- Bytes. -/
def isB (l : List Int) : Prop := ∀ x ∈ l, 0 ≤ x ∧ x ≤ 255
/-- How many there are: the number, the error, the place behind. -/
def countF (l : List Int) (at_ : Nat) (least most : Int) : Int × Int × Nat :=
  if l.length < at_ + 1 then (0, 9, l.length) else if l.getD at_ 0 < least ∨ most < l.getD at_ 0 then (0, 3, at_) else (l.getD at_ 0, 0, at_ + 1)
def CountOk (ok : Nat → Prop) (base g : Nat) (least most : Int) (A0 : Option Addr) (c0 : Nat) (l0 : List Int) (s : Rd) (w : World) (e : Ending) (w' : World) : Prop :=
  e = .returned (.tuple #[.int .i64 (countF l0 s.at_ least most).1, .int .i64 (countF l0 s.at_ least most).2.1]) ∧ IsGo ok base w' g A0 c0 l0 { s with at_ := (countF l0 s.at_ least most).2.2 } ∧ Below base w w' ∧ Fr [53] w w'
set_option maxHeartbeats 8000000 in
set_option maxRecDepth 100000 in
theorem count_calls {ok : Nat → Prop} (base g : Nat) (least most : Int) (A0 : Option Addr) (c0 : Nat) (l0 : List Int) (s : Rd) (w : World) (h : IsGo ok base w g A0 c0 l0 s) (hby : isB l0) :
    Calls Try.prog 42 #[.pointer (some ⟨g, 0, none⟩), .int .i64 least, .int .i64 most] w fun e w' => CountOk ok base g least most A0 c0 l0 s w e w' := by
  have HG := Aside0.mk h
  have HBB := Aside0.mk (Below.refl base w)
  have HFR := Aside0.mk (Fr.refl [53] w)
  have hx0 := hby
  clear h hby
  have hlm : l0.length ≤ 1000000 := HG.out.2.2.2.1
  have hat : s.at_ ≤ l0.length := HG.out.2.2.2.2.1
  by_cases hs : l0.length < s.at_ + 1
  · have E := Aside0.mk (show countF l0 s.at_ least most = (0, 9, l0.length) by unfold countF; rw [if_pos hs])
    go_enter Try.func42, Try.ntmps42
    go_wp2_with (first | ((with_reducible refine gate_callee (f := 41) rfl ?_); refine goesL_ (some 13) rfl rfl Try.func41 (by kernel_rfl) rfl #[.pointer (some ⟨g, 0, none⟩), .int .i64 ((1 : Nat) : Int)] rfl (by (try simp only [List.map_toArray, List.map_cons, List.map_nil]); first | done | rfl | (simp only [List.length_drop, List.length_take]; rfl)) ?_; (refine (take_short base g 1 A0 c0 l0 s _ HG.out hs (by omega)).mono ?_); rintro e w2 ⟨rfl, hg, hb, hfr⟩; refine ⟨_, rfl, ?_⟩; skip; clear HG; have HG := Aside0.mk hg; have n2 := Aside0.mk (HBB.out.trans hb); clear HBB; have HBB := n2; clear n2 hg hb; have n3 := Aside0.mk (HFR.out.trans hfr); clear HFR hfr; have HFR := n3; clear n3))
    go_ret2
    exact ⟨by rw [E.out]; rfl, by rw [E.out]; exact HG.out, HBB.out, HFR.out⟩
  · have hsn : s.at_ + 1 ≤ l0.length := by omega
    obtain ⟨hb0, hb1⟩ := hx0 _ (List.getElem_mem (show s.at_ < l0.length by omega))
    have e1 : (l0.drop s.at_).take 1 = [l0[s.at_]'(by omega)] := by rw [List.drop_eq_getElem_cons (by omega)]; rfl
    have e2 : l0.getD s.at_ 0 = l0[s.at_]'(by omega) := by simp [show s.at_ < l0.length by omega]
    generalize l0[s.at_]'(by omega) = x at hb0 hb1 e1 e2
    have E1 := Aside0.mk e1
    have E2 := Aside0.mk e2
    clear e1 e2 hs hx0
    go_enter Try.func42, Try.ntmps42
    go_upto_region 4 with (first | ((with_reducible refine gate_callee (f := 41) rfl ?_); refine goesL_ (some 13) rfl rfl Try.func41 (by kernel_rfl) rfl #[.pointer (some ⟨g, 0, none⟩), .int .i64 ((1 : Nat) : Int)] rfl (by (try simp only [List.map_toArray, List.map_cons, List.map_nil]); first | done | rfl | (simp only [List.length_drop, List.length_take]; rfl)) ?_; (refine (take_ok base g 1 A0 c0 l0 s _ HG.out hsn).mono ?_); rintro e w2 hta; obtain ⟨A, c, he, hnc, hcb, hg, hb, hfr⟩ := hta; subst he; refine ⟨_, rfl, ?_⟩; skip; have CA := Aside0.mk hcb; have NC := Aside0.mk hnc; clear HG hcb hnc; have HG := Aside0.mk hg; have n2 := Aside0.mk (HBB.out.trans hb); clear HBB; have HBB := n2; clear n2 hg hb; have n3 := Aside0.mk (HFR.out.trans hfr); clear HFR hfr; have HFR := n3; clear n3))
    have hca := CA.out.now
    rw [E1.out] at hca
    obtain ⟨ad, ea, h0⟩ := Kd.at_int hca (0 : Int) (by omega) (by simp)
    subst ea
    simp [rd, Addr.add] at h0
    clear hca
    go_upto_region 5 with (fail)
    clear h0
    by_cases h1 : x < least
    · have E := Aside0.mk (show countF l0 s.at_ least most = (0, 3, s.at_) by unfold countF; rw [if_neg (by omega), E2.out, if_pos (Or.inl h1)])
      have hat2 := Aside0.mk hat
      obtain ⟨hge, hbs, hlc, hlm, hat, hcb, vf, vd, va, vp, hg0, hown⟩ := HG.out
      have BS := Aside0.mk hg0
      have CBw := Aside0.mk hcb
      have OW := Aside0.mk hown
      have GE := Aside0.mk hge
      have BASE := Aside0.mk hbs
      clear hbs hcb hg0 hown hge
      have q0 : World.cell? w2 ⟨g, 0, none⟩ = some (.slice A0 l0.length c0) := (blk_cell BS.out 0).trans rfl
      have q1 : World.cell? w2 ⟨g, 1, none⟩ = some (.int .i64 ((s.at_ + 1 : Nat) : Int)) := (blk_cell BS.out 1).trans rfl
      have q2 : World.cell? w2 ⟨g, 2, none⟩ = some (.int .i64 s.c.f0) := (blk_cell BS.out 2).trans rfl
      have q3 : World.cell? w2 ⟨g, 3, none⟩ = some (.int .i64 s.c.f1) := (blk_cell BS.out 3).trans rfl
      have q4 : World.cell? w2 ⟨g, 4, none⟩ = some (.int .i64 s.c.f2) := (blk_cell BS.out 4).trans rfl
      have q5 : World.cell? w2 ⟨g, 5, none⟩ = some (.int .i64 s.c.f3) := (blk_cell BS.out 5).trans rfl
      have q6 : World.cell? w2 ⟨g, 6, none⟩ = some (.int .i64 s.c.f4) := (blk_cell BS.out 6).trans rfl
      have q7 : World.cell? w2 ⟨g, 7, none⟩ = some (.int .i64 s.c.f5) := (blk_cell BS.out 7).trans rfl
      have q8 : World.cell? w2 ⟨g, 8, none⟩ = some (vf) := (blk_cell BS.out 8).trans rfl
      have q9 : World.cell? w2 ⟨g, 9, none⟩ = some (vd) := (blk_cell BS.out 9).trans rfl
      have q10 : World.cell? w2 ⟨g, 10, none⟩ = some (va) := (blk_cell BS.out 10).trans rfl
      have q11 : World.cell? w2 ⟨g, 11, none⟩ = some (vp) := (blk_cell BS.out 11).trans rfl
      have z1 : World.frozen? w2 ⟨g, 1, none⟩ = false := blk_frozen BS.out 1
      have hp1 : ((s.at_ + 1 : Nat) : Int) - 1 = (s.at_ : Int) := by omega
      have hlm2 : (s.at_ : Int) ≤ 1000000 := by omega
      go_wp2
      go_ret2
      have hs := HG.out.setAt s.at_ hat2.out
      exact ⟨by rw [E.out]; rfl, by rw [E.out]; exact hs.1, HBB.out.trans hs.2, HFR.out.trans (HG.out.setAt_fr s.at_)⟩
    · by_cases h2 : most < x
      · have E := Aside0.mk (show countF l0 s.at_ least most = (0, 3, s.at_) by unfold countF; rw [if_neg (by omega), E2.out, if_pos (Or.inr h2)])
        have hat2 := Aside0.mk hat
        obtain ⟨hge, hbs, hlc, hlm, hat, hcb, vf, vd, va, vp, hg0, hown⟩ := HG.out
        have BS := Aside0.mk hg0
        have CBw := Aside0.mk hcb
        have OW := Aside0.mk hown
        have GE := Aside0.mk hge
        have BASE := Aside0.mk hbs
        clear hbs hcb hg0 hown hge
        have q0 : World.cell? w2 ⟨g, 0, none⟩ = some (.slice A0 l0.length c0) := (blk_cell BS.out 0).trans rfl
        have q1 : World.cell? w2 ⟨g, 1, none⟩ = some (.int .i64 ((s.at_ + 1 : Nat) : Int)) := (blk_cell BS.out 1).trans rfl
        have q2 : World.cell? w2 ⟨g, 2, none⟩ = some (.int .i64 s.c.f0) := (blk_cell BS.out 2).trans rfl
        have q3 : World.cell? w2 ⟨g, 3, none⟩ = some (.int .i64 s.c.f1) := (blk_cell BS.out 3).trans rfl
        have q4 : World.cell? w2 ⟨g, 4, none⟩ = some (.int .i64 s.c.f2) := (blk_cell BS.out 4).trans rfl
        have q5 : World.cell? w2 ⟨g, 5, none⟩ = some (.int .i64 s.c.f3) := (blk_cell BS.out 5).trans rfl
        have q6 : World.cell? w2 ⟨g, 6, none⟩ = some (.int .i64 s.c.f4) := (blk_cell BS.out 6).trans rfl
        have q7 : World.cell? w2 ⟨g, 7, none⟩ = some (.int .i64 s.c.f5) := (blk_cell BS.out 7).trans rfl
        have q8 : World.cell? w2 ⟨g, 8, none⟩ = some (vf) := (blk_cell BS.out 8).trans rfl
        have q9 : World.cell? w2 ⟨g, 9, none⟩ = some (vd) := (blk_cell BS.out 9).trans rfl
        have q10 : World.cell? w2 ⟨g, 10, none⟩ = some (va) := (blk_cell BS.out 10).trans rfl
        have q11 : World.cell? w2 ⟨g, 11, none⟩ = some (vp) := (blk_cell BS.out 11).trans rfl
        have z1 : World.frozen? w2 ⟨g, 1, none⟩ = false := blk_frozen BS.out 1
        have hp1 : ((s.at_ + 1 : Nat) : Int) - 1 = (s.at_ : Int) := by omega
        have hlm2 : (s.at_ : Int) ≤ 1000000 := by omega
        go_wp2
        go_ret2
        have hs := HG.out.setAt s.at_ hat2.out
        exact ⟨by rw [E.out]; rfl, by rw [E.out]; exact hs.1, HBB.out.trans hs.2, HFR.out.trans (HG.out.setAt_fr s.at_)⟩
      · have E := Aside0.mk (show countF l0 s.at_ least most = (x, 0, s.at_ + 1) by unfold countF; rw [if_neg (by omega), E2.out, if_neg (by omega)])
        go_wp2
        go_ret2
        exact ⟨by rw [E.out]; rfl, by rw [E.out]; exact HG.out, HBB.out, HFR.out⟩
end Go.Proofs.Ythfkgnkojhocbaa.S
end
section
namespace Go.Proofs.Ythfkgnkojhocbaa.S
open Go Go.RowKit Go.Proofs.YthfkgnkojhocbaaW.PrintWords Go.Proofs.YthfkgnkojhocbaaW.PrintLast Go.Proofs.YthfkgnkojhocbaaW.PrintMore
attribute [local go_sem] max2_int min2_int max_two min_two max_three min_three max_four min_four
set_option linter.unusedVariables false
set_option linter.unusedSimpArgs false
theorem or_shift (x y : Int) (hx : 0 ≤ x ∧ x ≤ 255) (hy : 0 ≤ y ∧ y ≤ 255) : bits .or .i64 (x * 256) y = x * 256 + y := by
  obtain ⟨m, rfl⟩ := Int.eq_ofNat_of_zero_le hx.1
  obtain ⟨n, rfl⟩ := Int.eq_ofNat_of_zero_le hy.1
  have hm : m ≤ 255 := by omega
  have hn : n ≤ 255 := by omega
  have e : ((m : Int) * 256) = ((m * 256 : Nat) : Int) := by omega
  have h1 : (BitVec.ofNat 64 (m * 256) ||| BitVec.ofNat 64 n).toNat = m * 256 + n := by
    rw [BitVec.toNat_or, BitVec.toNat_ofNat, BitVec.toNat_ofNat, Nat.mod_eq_of_lt (by omega), Nat.mod_eq_of_lt (by omega)]
    have := Nat.two_pow_add_eq_or_of_lt (i := 8) (b := n) (by omega) m
    rw [show m * 256 = 2 ^ 8 * m by omega]
    exact this.symm
  unfold bits
  simp only [e]
  rw [BitVec.ofInt_natCast, BitVec.ofInt_natCast]
  show IntKind.i64.wrap (((BitVec.ofNat 64 (m * 256) ||| BitVec.ofNat 64 n).toNat : Nat) : Int) = _
  rw [h1, IntKind.wrap_i64]
  omega
/-- What may be. -/
def checkB (c : S25) : Bool := decide ((1 ≤ c.f0 ∧ c.f0 ≤ 8) ∧ (1 ≤ c.f1 ∧ c.f1 ≤ 6) ∧ (1 ≤ c.f2 ∧ c.f2 ≤ 4096) ∧ (0 ≤ c.f3 ∧ c.f3 ≤ 255) ∧ (1 ≤ c.f4 ∧ c.f4 ≤ 4) ∧ (1 ≤ c.f5 ∧ c.f5 ≤ 64))
theorem check_f (c : S25) : floor_Check.f c.f0 c.f1 c.f2 c.f3 c.f4 c.f5 = some (checkB c) := by
  have hw : ∀ a b d : Int, floor_within.f a b d = some (decide (b ≤ a ∧ a ≤ d)) := by
    intro a b d
    unfold floor_within.f
    by_cases h : b ≤ a
    · rw [if_pos h]; simp [h]
    · rw [if_neg h]; simp [h]
  unfold floor_Check.f checkB
  simp only [hw, Option.bind_some]
  by_cases h0 : (1 ≤ c.f0 ∧ c.f0 ≤ 8) <;> by_cases h1 : (1 ≤ c.f1 ∧ c.f1 ≤ 6) <;> by_cases h2 : (1 ≤ c.f2 ∧ c.f2 ≤ 4096) <;> by_cases h3 : (0 ≤ c.f3 ∧ c.f3 ≤ 255) <;> by_cases h4 : (1 ≤ c.f4 ∧ c.f4 ≤ 4) <;> by_cases h5 : (1 ≤ c.f5 ∧ c.f5 ≤ 64) <;> simp [h0, h1, h2, h3, h4, h5]
def cfgOf (l : List Int) (i : Nat) : S25 := ⟨l.getD i 0, l.getD (i + 1) 0, l.getD (i + 2) 0 * 256 + l.getD (i + 3) 0, l.getD (i + 4) 0, l.getD (i + 5) 0, l.getD (i + 6) 0⟩
def configF (l : List Int) (s : Rd) : Int × Rd :=
  if l.length < s.at_ + 7 then (9, { s with at_ := l.length })
  else if checkB (cfgOf l s.at_) = false then (2, { s with at_ := 0 })
  else if (cfgOf l s.at_).f2 < 2 * (cfgOf l s.at_).f0 then (4, { s with at_ := 2 })
  else (0, { s with at_ := s.at_ + 7, c := cfgOf l s.at_ })
def ConfigOk (base g : Nat) (A0 : Option Addr) (c0 : Nat) (l0 : List Int) (s : Rd) (w : World) (e : Ending) (w' : World) : Prop :=
  e = .returned (.int .i64 (configF l0 s).1) ∧ IsG base w' g A0 c0 l0 (configF l0 s).2 ∧ Below base w w' ∧ Fr FT w w'
theorem seven (l : List Int) (i : Nat) (h : i + 7 ≤ l.length) (hb : isB l) : ∃ b0 b1 b2 b3 b4 b5 b6 : Int, (l.drop i).take 7 = [b0, b1, b2, b3, b4, b5, b6] ∧ cfgOf l i = ⟨b0, b1, b2 * 256 + b3, b4, b5, b6⟩ ∧
    ((0 ≤ b0 ∧ b0 ≤ 255) ∧ (0 ≤ b1 ∧ b1 ≤ 255) ∧ (0 ≤ b2 ∧ b2 ≤ 255) ∧ (0 ≤ b3 ∧ b3 ≤ 255) ∧ (0 ≤ b4 ∧ b4 ≤ 255) ∧ (0 ≤ b5 ∧ b5 ≤ 255) ∧ (0 ≤ b6 ∧ b6 ≤ 255)) := by
  refine ⟨l[i], l[i + 1], l[i + 2], l[i + 3], l[i + 4], l[i + 5], l[i + 6], ?_, ?_, hb _ (List.getElem_mem _), hb _ (List.getElem_mem _), hb _ (List.getElem_mem _), hb _ (List.getElem_mem _), hb _ (List.getElem_mem _), hb _ (List.getElem_mem _), hb _ (List.getElem_mem _)⟩
  · rw [List.drop_eq_getElem_cons (by omega), List.drop_eq_getElem_cons (by omega), List.drop_eq_getElem_cons (by omega), List.drop_eq_getElem_cons (by omega), List.drop_eq_getElem_cons (by omega), List.drop_eq_getElem_cons (by omega), List.drop_eq_getElem_cons (by omega)]
    rfl
  · have e : ∀ j, j < l.length → l.getD j 0 = l[j]! := by intro j hj; simp [hj]
    unfold cfgOf
    simp [show i < l.length by omega, show i + 1 < l.length by omega, show i + 2 < l.length by omega, show i + 3 < l.length by omega, show i + 4 < l.length by omega, show i + 5 < l.length by omega, show i + 6 < l.length by omega]
set_option maxHeartbeats 8000000 in
set_option maxRecDepth 100000 in
theorem config_calls (base g : Nat) (A0 : Option Addr) (c0 : Nat) (l0 : List Int) (s : Rd) (w : World) (h : IsG base w g A0 c0 l0 s) (hby : isB l0) :
    Calls Try.prog 20 #[.pointer (some ⟨g, 0, none⟩)] w fun e w' => ConfigOk base g A0 c0 l0 s w e w' := by
  have HG := Aside0.mk h
  have HBB := Aside0.mk (Below.refl base w)
  have HFR := Aside0.mk (Fr.refl FT w)
  have hx0 := hby
  clear h hby
  have hlm : l0.length ≤ 1000000 := HG.out.2.2.2.1
  have hat : s.at_ ≤ l0.length := HG.out.2.2.2.2.1
  have hu25 := Try.underlying25
  by_cases hs : l0.length < s.at_ + 7
  · have E := Aside0.mk (show configF l0 s = (9, { s with at_ := l0.length }) by unfold configF; rw [if_pos hs])
    go_enter Try.func20, Try.ntmps20
    go_wp2_with (first | ((with_reducible refine gate_callee (f := 41) rfl ?_); refine goesL_ (some 8) rfl rfl Try.func41 (by kernel_rfl) rfl #[.pointer (some ⟨g, 0, none⟩), .int .i64 ((7 : Nat) : Int)] rfl (by (try simp only [List.map_toArray, List.map_cons, List.map_nil]); first | done | rfl | (simp only [List.length_drop, List.length_take]; rfl)) ?_; (refine (take_short base g 7 A0 c0 l0 s _ HG.out hs (by omega)).mono ?_); rintro e w2 ⟨rfl, hg, hb, hfr⟩; refine ⟨_, rfl, ?_⟩; skip; clear HG; have HG := Aside0.mk hg; have n2 := Aside0.mk (HBB.out.trans hb); clear HBB; have HBB := n2; clear n2 hg hb; have n3 := Aside0.mk (HFR.out.trans (hfr.mono (by simp))); clear HFR hfr; have HFR := n3; clear n3))
    go_ret
    exact ⟨by rw [E.out]; rfl, by rw [E.out]; exact HG.out, HBB.out, HFR.out⟩
  · have hsn : s.at_ + 7 ≤ l0.length := by omega
    obtain ⟨b0, b1, b2, b3, b4, b5, b6, e1, e2, hB⟩ := seven l0 s.at_ hsn hx0
    obtain ⟨k0, k1, k2, k3, k4, k5, k6⟩ := hB
    have E1 := Aside0.mk e1
    have E2 := Aside0.mk e2
    clear e1 e2 hs
    go_enter Try.func20, Try.ntmps20
    go_upto_region 4 with (first | ((with_reducible refine gate_callee (f := 41) rfl ?_); refine goesL_ (some 8) rfl rfl Try.func41 (by kernel_rfl) rfl #[.pointer (some ⟨g, 0, none⟩), .int .i64 ((7 : Nat) : Int)] rfl (by (try simp only [List.map_toArray, List.map_cons, List.map_nil]); first | done | rfl | (simp only [List.length_drop, List.length_take]; rfl)) ?_; (refine (take_ok base g 7 A0 c0 l0 s _ HG.out hsn).mono ?_); rintro e w2 hta; obtain ⟨A, c, he, hnc, hcb, hg, hb, hfr⟩ := hta; subst he; refine ⟨_, rfl, ?_⟩; skip; have CA := Aside0.mk hcb; have NC := Aside0.mk hnc; clear HG hcb hnc; have HG := Aside0.mk hg; have n2 := Aside0.mk (HBB.out.trans hb); clear HBB; have HBB := n2; clear n2 hg hb; have n3 := Aside0.mk (HFR.out.trans (hfr.mono (by simp))); clear HFR hfr; have HFR := n3; clear n3))
    have hca := CA.out.now
    rw [E1.out] at hca
    obtain ⟨ad0, ea0, h0⟩ := Kd.at_int hca (0 : Int) (by omega) (by simp)
    obtain ⟨ad1, ea1, h1⟩ := Kd.at_int hca (1 : Int) (by omega) (by simp)
    obtain ⟨ad2, ea2, h2⟩ := Kd.at_int hca (2 : Int) (by omega) (by simp)
    obtain ⟨ad3, ea3, h3⟩ := Kd.at_int hca (3 : Int) (by omega) (by simp)
    obtain ⟨ad4, ea4, h4⟩ := Kd.at_int hca (4 : Int) (by omega) (by simp)
    obtain ⟨ad5, ea5, h5⟩ := Kd.at_int hca (5 : Int) (by omega) (by simp)
    obtain ⟨ad6, ea6, h6⟩ := Kd.at_int hca (6 : Int) (by omega) (by simp)
    subst ea0
    obtain rfl : ad0 = ad1 := Option.some.inj ea1
    obtain rfl : ad0 = ad2 := Option.some.inj ea2
    obtain rfl : ad0 = ad3 := Option.some.inj ea3
    obtain rfl : ad0 = ad4 := Option.some.inj ea4
    obtain rfl : ad0 = ad5 := Option.some.inj ea5
    obtain rfl : ad0 = ad6 := Option.some.inj ea6
    simp [rd, Addr.add] at h0 h1 h2 h3 h4 h5 h6
    clear hca ea1 ea2 ea3 ea4 ea5 ea6
    have H0 := Aside0.mk h0
    have H1 := Aside0.mk h1
    have H2 := Aside0.mk h2
    have H3 := Aside0.mk h3
    have H4 := Aside0.mk h4
    have H5 := Aside0.mk h5
    have H6 := Aside0.mk h6
    clear h0 h1 h2 h3 h4 h5 h6
    have hw : ∀ x : Int, 0 ≤ x ∧ x ≤ 255 → RowKit.wrap64 x = x := fun x h => by unfold RowKit.wrap64; omega
    have n_HG := Aside0.mk (IsGo.below HG.out (below_drew (Below.refl _ _))); have n_HBB := Aside0.mk (HBB.out.trans (below_drew (Below.refl base _))); have n_HFR := Aside0.mk (Fr.drew HFR.out); have n_H0 := Aside0.mk (cell_drew H0.out); have n_H1 := Aside0.mk (cell_drew H1.out); have n_H2 := Aside0.mk (cell_drew H2.out); have n_H3 := Aside0.mk (cell_drew H3.out); have n_H4 := Aside0.mk (cell_drew H4.out); have n_H5 := Aside0.mk (cell_drew H5.out); have n_H6 := Aside0.mk (cell_drew H6.out); clear HG HBB HFR H0 H1 H2 H3 H4 H5 H6; have HG := n_HG; clear n_HG; have HBB := n_HBB; clear n_HBB; have HFR := n_HFR; clear n_HFR; have H0 := n_H0; clear n_H0; have H1 := n_H1; clear n_H1; have H2 := n_H2; clear n_H2; have H3 := n_H3; clear n_H3; have H4 := n_H4; clear n_H4; have H5 := n_H5; clear n_H5; have H6 := n_H6; clear n_H6
    refine start_ (n := 33) (S := fun w' => Below w2.drew.heap.size w2.drew w') (ds := []) #[false, false, false, false, false, false, false, false, false, false, false, false, false, false, false, false, false, false, false, false, false, false, false, false, false, false, false, false, false, false, false, false, false] (by kernel_rfl) rfl rfl (Below.refl _ _) (fun hHeld => ?_)
    generalize w2.drew = wS at HG HBB HFR H0 H1 H2 H3 H4 H5 H6 hHeld ⊢
    refine pure_ (i := 0) (N := (some 13)) (v := ?_) (a' := ?_) #[true, false, false, false, false, false, false, false, false, false, false, false, false, false, false, false, false, false, false, false, false, false, false, false, false, false, false, false, false, false, false, false, false] rfl rfl (by kernel_rfl) (fun _ _ _ h => h) (Or.inl ⟨by rfl, ?_⟩) ?_ ?_
    rotate_left
    · intro w'
      go_simp
      with_reducible rfl
    rotate_left
    · (try simp only [Act.put, List.setIfInBounds_toArray, List.set_cons_zero, List.set_cons_succ, i64_w, i32_w])
      rfl
    refine pure_ (i := 1) (N := (some 14)) (v := ?_) (a' := ?_) #[true, true, false, false, false, false, false, false, false, false, false, false, false, false, false, false, false, false, false, false, false, false, false, false, false, false, false, false, false, false, false, false, false] rfl rfl (by kernel_rfl) (fun _ _ _ h => h) (Or.inl ⟨by rfl, ?_⟩) ?_ ?_
    rotate_left
    · intro w'
      go_simp
      with_reducible rfl
    rotate_left
    · (try simp only [Act.put, List.setIfInBounds_toArray, List.set_cons_zero, List.set_cons_succ, i64_w, i32_w])
      rfl
    refine take_ (i := 2) (N := some 15) (v := ?_) (a' := ?_) #[true, true, true, false, false, false, false, false, false, false, false, false, false, false, false, false, false, false, false, false, false, false, false, false, false, false, false, false, false, false, false, false, false] rfl rfl (by kernel_rfl) (fun _ _ _ h => h) (Or.inl ⟨by rfl, ?_⟩) hHeld ?_ ?_
    rotate_left
    · intro w' s0
      have hq := (s0.cell (World.block_lt_of_cell? _ _ H0.out)).trans H0.out
      go_simp
      with_reducible rfl
    rotate_left
    · (try simp only [Act.put, List.setIfInBounds_toArray, List.set_cons_zero, List.set_cons_succ, i64_w, i32_w])
      rfl
    refine pure_ (i := 3) (N := (some 16)) (v := ?_) (a' := ?_) #[true, true, true, true, false, false, false, false, false, false, false, false, false, false, false, false, false, false, false, false, false, false, false, false, false, false, false, false, false, false, false, false, false] rfl rfl (by kernel_rfl) (fun _ _ _ h => h) (Or.inl ⟨by rfl, ?_⟩) ?_ ?_
    rotate_left
    · intro w'
      go_simp
      with_reducible rfl
    rotate_left
    · (try simp only [Act.put, List.setIfInBounds_toArray, List.set_cons_zero, List.set_cons_succ, i64_w, i32_w])
      rfl
    simp only [hw b0 k0]
    refine pure_ (i := 4) (N := (some 17)) (v := ?_) (a' := ?_) #[true, true, true, true, true, false, false, false, false, false, false, false, false, false, false, false, false, false, false, false, false, false, false, false, false, false, false, false, false, false, false, false, false] rfl rfl (by kernel_rfl) (fun _ _ _ h => h) (Or.inl ⟨by rfl, ?_⟩) ?_ ?_
    rotate_left
    · intro w'
      go_simp
      with_reducible rfl
    rotate_left
    · (try simp only [Act.put, List.setIfInBounds_toArray, List.set_cons_zero, List.set_cons_succ, i64_w, i32_w])
      rfl
    refine pure_ (i := 5) (N := (some 18)) (v := ?_) (a' := ?_) #[true, true, true, true, true, true, false, false, false, false, false, false, false, false, false, false, false, false, false, false, false, false, false, false, false, false, false, false, false, false, false, false, false] rfl rfl (by kernel_rfl) (fun _ _ _ h => h) (Or.inl ⟨by rfl, ?_⟩) ?_ ?_
    rotate_left
    · intro w'
      go_simp
      with_reducible rfl
    rotate_left
    · (try simp only [Act.put, List.setIfInBounds_toArray, List.set_cons_zero, List.set_cons_succ, i64_w, i32_w])
      rfl
    refine take_ (i := 6) (N := some 19) (v := ?_) (a' := ?_) #[true, true, true, true, true, true, true, false, false, false, false, false, false, false, false, false, false, false, false, false, false, false, false, false, false, false, false, false, false, false, false, false, false] rfl rfl (by kernel_rfl) (fun _ _ _ h => h) (Or.inl ⟨by rfl, ?_⟩) hHeld ?_ ?_
    rotate_left
    · intro w' s0
      have hq := (s0.cell (World.block_lt_of_cell? _ _ H1.out)).trans H1.out
      go_simp
      with_reducible rfl
    rotate_left
    · (try simp only [Act.put, List.setIfInBounds_toArray, List.set_cons_zero, List.set_cons_succ, i64_w, i32_w])
      rfl
    refine pure_ (i := 7) (N := (some 20)) (v := ?_) (a' := ?_) #[true, true, true, true, true, true, true, true, false, false, false, false, false, false, false, false, false, false, false, false, false, false, false, false, false, false, false, false, false, false, false, false, false] rfl rfl (by kernel_rfl) (fun _ _ _ h => h) (Or.inl ⟨by rfl, ?_⟩) ?_ ?_
    rotate_left
    · intro w'
      go_simp
      with_reducible rfl
    rotate_left
    · (try simp only [Act.put, List.setIfInBounds_toArray, List.set_cons_zero, List.set_cons_succ, i64_w, i32_w])
      rfl
    simp only [hw b1 k1]
    refine pure_ (i := 8) (N := (some 21)) (v := ?_) (a' := ?_) #[true, true, true, true, true, true, true, true, true, false, false, false, false, false, false, false, false, false, false, false, false, false, false, false, false, false, false, false, false, false, false, false, false] rfl rfl (by kernel_rfl) (fun _ _ _ h => h) (Or.inl ⟨by rfl, ?_⟩) ?_ ?_
    rotate_left
    · intro w'
      go_simp
      with_reducible rfl
    rotate_left
    · (try simp only [Act.put, List.setIfInBounds_toArray, List.set_cons_zero, List.set_cons_succ, i64_w, i32_w])
      rfl
    refine pure_ (i := 9) (N := (some 22)) (v := ?_) (a' := ?_) #[true, true, true, true, true, true, true, true, true, true, false, false, false, false, false, false, false, false, false, false, false, false, false, false, false, false, false, false, false, false, false, false, false] rfl rfl (by kernel_rfl) (fun _ _ _ h => h) (Or.inl ⟨by rfl, ?_⟩) ?_ ?_
    rotate_left
    · intro w'
      go_simp
      with_reducible rfl
    rotate_left
    · (try simp only [Act.put, List.setIfInBounds_toArray, List.set_cons_zero, List.set_cons_succ, i64_w, i32_w])
      rfl
    refine take_ (i := 10) (N := some 23) (v := ?_) (a' := ?_) #[true, true, true, true, true, true, true, true, true, true, true, false, false, false, false, false, false, false, false, false, false, false, false, false, false, false, false, false, false, false, false, false, false] rfl rfl (by kernel_rfl) (fun _ _ _ h => h) (Or.inl ⟨by rfl, ?_⟩) hHeld ?_ ?_
    rotate_left
    · intro w' s0
      have hq := (s0.cell (World.block_lt_of_cell? _ _ H2.out)).trans H2.out
      go_simp
      with_reducible rfl
    rotate_left
    · (try simp only [Act.put, List.setIfInBounds_toArray, List.set_cons_zero, List.set_cons_succ, i64_w, i32_w])
      rfl
    refine pure_ (i := 11) (N := (some 24)) (v := ?_) (a' := ?_) #[true, true, true, true, true, true, true, true, true, true, true, true, false, false, false, false, false, false, false, false, false, false, false, false, false, false, false, false, false, false, false, false, false] rfl rfl (by kernel_rfl) (fun _ _ _ h => h) (Or.inl ⟨by rfl, ?_⟩) ?_ ?_
    rotate_left
    · intro w'
      go_simp
      with_reducible rfl
    rotate_left
    · (try simp only [Act.put, List.setIfInBounds_toArray, List.set_cons_zero, List.set_cons_succ, i64_w, i32_w])
      rfl
    simp only [hw b2 k2]
    refine pure_ (i := 12) (N := (some 25)) (v := ?_) (a' := ?_) #[true, true, true, true, true, true, true, true, true, true, true, true, true, false, false, false, false, false, false, false, false, false, false, false, false, false, false, false, false, false, false, false, false] rfl rfl (by kernel_rfl) (fun _ _ _ h => h) (Or.inl ⟨by rfl, ?_⟩) ?_ ?_
    rotate_left
    · intro w'
      go_simp
      with_reducible rfl
    rotate_left
    · (try simp only [Act.put, List.setIfInBounds_toArray, List.set_cons_zero, List.set_cons_succ, i64_w, i32_w])
      rfl
    simp only [show RowKit.wrap64 (b2 * 256) = b2 * 256 by unfold RowKit.wrap64; omega]
    refine pure_ (i := 13) (N := (some 26)) (v := ?_) (a' := ?_) #[true, true, true, true, true, true, true, true, true, true, true, true, true, true, false, false, false, false, false, false, false, false, false, false, false, false, false, false, false, false, false, false, false] rfl rfl (by kernel_rfl) (fun _ _ _ h => h) (Or.inl ⟨by rfl, ?_⟩) ?_ ?_
    rotate_left
    · intro w'
      go_simp
      with_reducible rfl
    rotate_left
    · (try simp only [Act.put, List.setIfInBounds_toArray, List.set_cons_zero, List.set_cons_succ, i64_w, i32_w])
      rfl
    refine pure_ (i := 14) (N := (some 27)) (v := ?_) (a' := ?_) #[true, true, true, true, true, true, true, true, true, true, true, true, true, true, true, false, false, false, false, false, false, false, false, false, false, false, false, false, false, false, false, false, false] rfl rfl (by kernel_rfl) (fun _ _ _ h => h) (Or.inl ⟨by rfl, ?_⟩) ?_ ?_
    rotate_left
    · intro w'
      go_simp
      with_reducible rfl
    rotate_left
    · (try simp only [Act.put, List.setIfInBounds_toArray, List.set_cons_zero, List.set_cons_succ, i64_w, i32_w])
      rfl
    refine take_ (i := 15) (N := some 28) (v := ?_) (a' := ?_) #[true, true, true, true, true, true, true, true, true, true, true, true, true, true, true, true, false, false, false, false, false, false, false, false, false, false, false, false, false, false, false, false, false] rfl rfl (by kernel_rfl) (fun _ _ _ h => h) (Or.inl ⟨by rfl, ?_⟩) hHeld ?_ ?_
    rotate_left
    · intro w' s0
      have hq := (s0.cell (World.block_lt_of_cell? _ _ H3.out)).trans H3.out
      go_simp
      with_reducible rfl
    rotate_left
    · (try simp only [Act.put, List.setIfInBounds_toArray, List.set_cons_zero, List.set_cons_succ, i64_w, i32_w])
      rfl
    refine pure_ (i := 16) (N := (some 29)) (v := ?_) (a' := ?_) #[true, true, true, true, true, true, true, true, true, true, true, true, true, true, true, true, true, false, false, false, false, false, false, false, false, false, false, false, false, false, false, false, false] rfl rfl (by kernel_rfl) (fun _ _ _ h => h) (Or.inl ⟨by rfl, ?_⟩) ?_ ?_
    rotate_left
    · intro w'
      go_simp
      with_reducible rfl
    rotate_left
    · (try simp only [Act.put, List.setIfInBounds_toArray, List.set_cons_zero, List.set_cons_succ, i64_w, i32_w])
      rfl
    simp only [hw b3 k3]
    refine pure_ (i := 17) (N := (some 30)) (v := ?_) (a' := ?_) #[true, true, true, true, true, true, true, true, true, true, true, true, true, true, true, true, true, true, false, false, false, false, false, false, false, false, false, false, false, false, false, false, false] rfl rfl (by kernel_rfl) (fun _ _ _ h => h) (Or.inl ⟨by rfl, ?_⟩) ?_ ?_
    rotate_left
    · intro w'
      go_simp
      with_reducible rfl
    rotate_left
    · (try simp only [Act.put, List.setIfInBounds_toArray, List.set_cons_zero, List.set_cons_succ, i64_w, i32_w])
      rfl
    simp only [or_shift b2 b3 k2 k3]
    refine pure_ (i := 18) (N := (some 31)) (v := ?_) (a' := ?_) #[true, true, true, true, true, true, true, true, true, true, true, true, true, true, true, true, true, true, true, false, false, false, false, false, false, false, false, false, false, false, false, false, false] rfl rfl (by kernel_rfl) (fun _ _ _ h => h) (Or.inl ⟨by rfl, ?_⟩) ?_ ?_
    rotate_left
    · intro w'
      go_simp
      with_reducible rfl
    rotate_left
    · (try simp only [Act.put, List.setIfInBounds_toArray, List.set_cons_zero, List.set_cons_succ, i64_w, i32_w])
      rfl
    refine pure_ (i := 19) (N := (some 32)) (v := ?_) (a' := ?_) #[true, true, true, true, true, true, true, true, true, true, true, true, true, true, true, true, true, true, true, true, false, false, false, false, false, false, false, false, false, false, false, false, false] rfl rfl (by kernel_rfl) (fun _ _ _ h => h) (Or.inl ⟨by rfl, ?_⟩) ?_ ?_
    rotate_left
    · intro w'
      go_simp
      with_reducible rfl
    rotate_left
    · (try simp only [Act.put, List.setIfInBounds_toArray, List.set_cons_zero, List.set_cons_succ, i64_w, i32_w])
      rfl
    refine take_ (i := 20) (N := some 33) (v := ?_) (a' := ?_) #[true, true, true, true, true, true, true, true, true, true, true, true, true, true, true, true, true, true, true, true, true, false, false, false, false, false, false, false, false, false, false, false, false] rfl rfl (by kernel_rfl) (fun _ _ _ h => h) (Or.inl ⟨by rfl, ?_⟩) hHeld ?_ ?_
    rotate_left
    · intro w' s0
      have hq := (s0.cell (World.block_lt_of_cell? _ _ H4.out)).trans H4.out
      go_simp
      with_reducible rfl
    rotate_left
    · (try simp only [Act.put, List.setIfInBounds_toArray, List.set_cons_zero, List.set_cons_succ, i64_w, i32_w])
      rfl
    refine pure_ (i := 21) (N := (some 34)) (v := ?_) (a' := ?_) #[true, true, true, true, true, true, true, true, true, true, true, true, true, true, true, true, true, true, true, true, true, true, false, false, false, false, false, false, false, false, false, false, false] rfl rfl (by kernel_rfl) (fun _ _ _ h => h) (Or.inl ⟨by rfl, ?_⟩) ?_ ?_
    rotate_left
    · intro w'
      go_simp
      with_reducible rfl
    rotate_left
    · (try simp only [Act.put, List.setIfInBounds_toArray, List.set_cons_zero, List.set_cons_succ, i64_w, i32_w])
      rfl
    simp only [hw b4 k4]
    refine pure_ (i := 22) (N := (some 35)) (v := ?_) (a' := ?_) #[true, true, true, true, true, true, true, true, true, true, true, true, true, true, true, true, true, true, true, true, true, true, true, false, false, false, false, false, false, false, false, false, false] rfl rfl (by kernel_rfl) (fun _ _ _ h => h) (Or.inl ⟨by rfl, ?_⟩) ?_ ?_
    rotate_left
    · intro w'
      go_simp
      with_reducible rfl
    rotate_left
    · (try simp only [Act.put, List.setIfInBounds_toArray, List.set_cons_zero, List.set_cons_succ, i64_w, i32_w])
      rfl
    refine pure_ (i := 23) (N := (some 36)) (v := ?_) (a' := ?_) #[true, true, true, true, true, true, true, true, true, true, true, true, true, true, true, true, true, true, true, true, true, true, true, true, false, false, false, false, false, false, false, false, false] rfl rfl (by kernel_rfl) (fun _ _ _ h => h) (Or.inl ⟨by rfl, ?_⟩) ?_ ?_
    rotate_left
    · intro w'
      go_simp
      with_reducible rfl
    rotate_left
    · (try simp only [Act.put, List.setIfInBounds_toArray, List.set_cons_zero, List.set_cons_succ, i64_w, i32_w])
      rfl
    refine take_ (i := 24) (N := some 37) (v := ?_) (a' := ?_) #[true, true, true, true, true, true, true, true, true, true, true, true, true, true, true, true, true, true, true, true, true, true, true, true, true, false, false, false, false, false, false, false, false] rfl rfl (by kernel_rfl) (fun _ _ _ h => h) (Or.inl ⟨by rfl, ?_⟩) hHeld ?_ ?_
    rotate_left
    · intro w' s0
      have hq := (s0.cell (World.block_lt_of_cell? _ _ H5.out)).trans H5.out
      go_simp
      with_reducible rfl
    rotate_left
    · (try simp only [Act.put, List.setIfInBounds_toArray, List.set_cons_zero, List.set_cons_succ, i64_w, i32_w])
      rfl
    refine pure_ (i := 25) (N := (some 38)) (v := ?_) (a' := ?_) #[true, true, true, true, true, true, true, true, true, true, true, true, true, true, true, true, true, true, true, true, true, true, true, true, true, true, false, false, false, false, false, false, false] rfl rfl (by kernel_rfl) (fun _ _ _ h => h) (Or.inl ⟨by rfl, ?_⟩) ?_ ?_
    rotate_left
    · intro w'
      go_simp
      with_reducible rfl
    rotate_left
    · (try simp only [Act.put, List.setIfInBounds_toArray, List.set_cons_zero, List.set_cons_succ, i64_w, i32_w])
      rfl
    simp only [hw b5 k5]
    refine pure_ (i := 26) (N := (some 39)) (v := ?_) (a' := ?_) #[true, true, true, true, true, true, true, true, true, true, true, true, true, true, true, true, true, true, true, true, true, true, true, true, true, true, true, false, false, false, false, false, false] rfl rfl (by kernel_rfl) (fun _ _ _ h => h) (Or.inl ⟨by rfl, ?_⟩) ?_ ?_
    rotate_left
    · intro w'
      go_simp
      with_reducible rfl
    rotate_left
    · (try simp only [Act.put, List.setIfInBounds_toArray, List.set_cons_zero, List.set_cons_succ, i64_w, i32_w])
      rfl
    refine pure_ (i := 27) (N := (some 40)) (v := ?_) (a' := ?_) #[true, true, true, true, true, true, true, true, true, true, true, true, true, true, true, true, true, true, true, true, true, true, true, true, true, true, true, true, false, false, false, false, false] rfl rfl (by kernel_rfl) (fun _ _ _ h => h) (Or.inl ⟨by rfl, ?_⟩) ?_ ?_
    rotate_left
    · intro w'
      go_simp
      with_reducible rfl
    rotate_left
    · (try simp only [Act.put, List.setIfInBounds_toArray, List.set_cons_zero, List.set_cons_succ, i64_w, i32_w])
      rfl
    refine take_ (i := 28) (N := some 41) (v := ?_) (a' := ?_) #[true, true, true, true, true, true, true, true, true, true, true, true, true, true, true, true, true, true, true, true, true, true, true, true, true, true, true, true, true, false, false, false, false] rfl rfl (by kernel_rfl) (fun _ _ _ h => h) (Or.inl ⟨by rfl, ?_⟩) hHeld ?_ ?_
    rotate_left
    · intro w' s0
      have hq := (s0.cell (World.block_lt_of_cell? _ _ H6.out)).trans H6.out
      go_simp
      with_reducible rfl
    rotate_left
    · (try simp only [Act.put, List.setIfInBounds_toArray, List.set_cons_zero, List.set_cons_succ, i64_w, i32_w])
      rfl
    refine pure_ (i := 29) (N := (some 42)) (v := ?_) (a' := ?_) #[true, true, true, true, true, true, true, true, true, true, true, true, true, true, true, true, true, true, true, true, true, true, true, true, true, true, true, true, true, true, false, false, false] rfl rfl (by kernel_rfl) (fun _ _ _ h => h) (Or.inl ⟨by rfl, ?_⟩) ?_ ?_
    rotate_left
    · intro w'
      go_simp
      with_reducible rfl
    rotate_left
    · (try simp only [Act.put, List.setIfInBounds_toArray, List.set_cons_zero, List.set_cons_succ, i64_w, i32_w])
      rfl
    simp only [hw b6 k6]
    refine pure_ (i := 30) (N := (some 43)) (v := ?_) (a' := ?_) #[true, true, true, true, true, true, true, true, true, true, true, true, true, true, true, true, true, true, true, true, true, true, true, true, true, true, true, true, true, true, true, false, false] rfl rfl (by kernel_rfl) (fun _ _ _ h => h) (Or.inl ⟨by rfl, ?_⟩) ?_ ?_
    rotate_left
    · intro w'
      go_simp
      with_reducible rfl
    rotate_left
    · (try simp only [Act.put, List.setIfInBounds_toArray, List.set_cons_zero, List.set_cons_succ, i64_w, i32_w])
      rfl
    refine one_ (i := 31) (N := (some 5)) #[true, true, true, true, true, true, true, true, true, true, true, true, true, true, true, true, true, true, true, true, true, true, true, true, true, true, true, true, true, true, true, true, false] rfl rfl (by kernel_rfl) (by decide) (fun K hK => ?_)
    refine value_ (w1 := World.alloc wS (.cells #[.int .i64 0, .int .i64 0, .int .i64 0, .int .i64 0, .int .i64 0, .int .i64 0] 25)) (v := .pointer (some ⟨wS.heap.size, 0, none⟩)) (by rfl) rfl ?_ ?_
    · go_simp
    have hh := below_alloc hHeld (Obj.cells #[.int .i64 0, .int .i64 0, .int .i64 0, .int .i64 0, .int .i64 0, .int .i64 0] 25)
    clear hHeld
    have hHeld := hh
    clear hh
    refine hK.out _ _ hHeld (fun _ => ?_)
    clear hK K
    refine norm_ (a' := ?_) ?_ ?_
    rotate_left
    · show Act.put _ (some 5) _ = _
      (try simp only [Act.put, List.setIfInBounds_toArray, List.set_cons_zero, List.set_cons_succ, i64_w, i32_w])
      rfl
    have BK := Aside0.mk (blk_new wS (.cells #[.int .i64 0, .int .i64 0, .int .i64 0, .int .i64 0, .int .i64 0, .int .i64 0] 25 (0, 0)))
    generalize World.alloc wS (.cells #[.int .i64 0, .int .i64 0, .int .i64 0, .int .i64 0, .int .i64 0, .int .i64 0] 25) = wL at BK hHeld ⊢
    generalize hgc : wS.heap.size = gc at BK hHeld ⊢
    have GC := Aside0.mk hgc
    clear hgc
    refine one_ (i := 32) (N := none) #[true, true, true, true, true, true, true, true, true, true, true, true, true, true, true, true, true, true, true, true, true, true, true, true, true, true, true, true, true, true, true, true, true] rfl rfl (by kernel_rfl) (by decide) (fun K hK => ?_)
    refine skip_ (w1 := (World.setCell (World.setCell (World.setCell (World.setCell (World.setCell (World.setCell wL ⟨gc, 0, none⟩ (.int .i64 (b0))) ⟨gc, 1, none⟩ (.int .i64 (b1))) ⟨gc, 2, none⟩ (.int .i64 (b2 * 256 + b3))) ⟨gc, 3, none⟩ (.int .i64 (b4))) ⟨gc, 4, none⟩ (.int .i64 (b5))) ⟨gc, 5, none⟩ (.int .i64 (b6)))) (by rfl) rfl ?_ ?_
    · have q0 : World.cell? wL ⟨gc, 0, none⟩ = some (.int .i64 0) := (blk_cell BK.out 0).trans rfl; have z0 : World.frozen? wL ⟨gc, 0, none⟩ = false := blk_frozen BK.out 0; have q1 : World.cell? wL ⟨gc, 1, none⟩ = some (.int .i64 0) := (blk_cell BK.out 1).trans rfl; have z1 : World.frozen? wL ⟨gc, 1, none⟩ = false := blk_frozen BK.out 1; have q2 : World.cell? wL ⟨gc, 2, none⟩ = some (.int .i64 0) := (blk_cell BK.out 2).trans rfl; have z2 : World.frozen? wL ⟨gc, 2, none⟩ = false := blk_frozen BK.out 2; have q3 : World.cell? wL ⟨gc, 3, none⟩ = some (.int .i64 0) := (blk_cell BK.out 3).trans rfl; have z3 : World.frozen? wL ⟨gc, 3, none⟩ = false := blk_frozen BK.out 3; have q4 : World.cell? wL ⟨gc, 4, none⟩ = some (.int .i64 0) := (blk_cell BK.out 4).trans rfl; have z4 : World.frozen? wL ⟨gc, 4, none⟩ = false := blk_frozen BK.out 4; have q5 : World.cell? wL ⟨gc, 5, none⟩ = some (.int .i64 0) := (blk_cell BK.out 5).trans rfl; have z5 : World.frozen? wL ⟨gc, 5, none⟩ = false := blk_frozen BK.out 5; go_simp
    have hh := (set_base (j := 5) (v := .int .i64 (b6)) (set_base (j := 4) (v := .int .i64 (b5)) (set_base (j := 3) (v := .int .i64 (b4)) (set_base (j := 2) (v := .int .i64 (b2 * 256 + b3)) (set_base (j := 1) (v := .int .i64 (b1)) (set_base (j := 0) (v := .int .i64 (b0)) hHeld (Nat.le_refl gc)) (Nat.le_refl gc)) (Nat.le_refl gc)) (Nat.le_refl gc)) (Nat.le_refl gc)) (Nat.le_refl gc))
    clear hHeld
    have hHeld := hh
    clear hh
    refine hK.out _ _ hHeld (fun _ => ?_)
    clear hK K
    refine done_ (by kernel_rfl) ?_
    have BC : Aside0 (((World.setCell (World.setCell (World.setCell (World.setCell (World.setCell (World.setCell wL ⟨gc, 0, none⟩ (.int .i64 (b0))) ⟨gc, 1, none⟩ (.int .i64 (b1))) ⟨gc, 2, none⟩ (.int .i64 (b2 * 256 + b3))) ⟨gc, 3, none⟩ (.int .i64 (b4))) ⟨gc, 4, none⟩ (.int .i64 (b5))) ⟨gc, 5, none⟩ (.int .i64 (b6)))).heap[gc]? = some (.cells #[.int .i64 (b0), .int .i64 (b1), .int .i64 (b2 * 256 + b3), .int .i64 (b4), .int .i64 (b5), .int .i64 (b6)] 25 (0, 0))) := ⟨by refine blk_put (cs := #[.int .i64 (b0), .int .i64 (b1), .int .i64 (b2 * 256 + b3), .int .i64 (b4), .int .i64 (b5), .int .i64 0]) ?_ 5 _ rfl; refine blk_put (cs := #[.int .i64 (b0), .int .i64 (b1), .int .i64 (b2 * 256 + b3), .int .i64 (b4), .int .i64 0, .int .i64 0]) ?_ 4 _ rfl; refine blk_put (cs := #[.int .i64 (b0), .int .i64 (b1), .int .i64 (b2 * 256 + b3), .int .i64 0, .int .i64 0, .int .i64 0]) ?_ 3 _ rfl; refine blk_put (cs := #[.int .i64 (b0), .int .i64 (b1), .int .i64 0, .int .i64 0, .int .i64 0, .int .i64 0]) ?_ 2 _ rfl; refine blk_put (cs := #[.int .i64 (b0), .int .i64 0, .int .i64 0, .int .i64 0, .int .i64 0, .int .i64 0]) ?_ 1 _ rfl; refine blk_put (cs := #[.int .i64 0, .int .i64 0, .int .i64 0, .int .i64 0, .int .i64 0, .int .i64 0]) ?_ 0 _ rfl; exact BK.out⟩
    generalize (World.setCell (World.setCell (World.setCell (World.setCell (World.setCell (World.setCell wL ⟨gc, 0, none⟩ (.int .i64 (b0))) ⟨gc, 1, none⟩ (.int .i64 (b1))) ⟨gc, 2, none⟩ (.int .i64 (b2 * 256 + b3))) ⟨gc, 3, none⟩ (.int .i64 (b4))) ⟨gc, 4, none⟩ (.int .i64 (b5))) ⟨gc, 5, none⟩ (.int .i64 (b6))) = w5 at hHeld BC ⊢
    rw [← GC.out] at hHeld
    have hb := hHeld
    have n1 := Aside0.mk (HG.out.below hb)
    have n2 := Aside0.mk (HBB.out.trans (hb.mono HG.out.2.1))
    have n3 := Aside0.mk (HFR.out.below hb)
    clear HFR
    have HFR := n3
    clear n3
    clear HG HBB BK hHeld hb H0 H1 H2 H3 H4 H5 H6
    have HG := n1
    have HBB := n2
    clear n1 n2
    have q0 : World.cell? w5 ⟨gc, 0, none⟩ = some (.int .i64 (b0)) := (blk_cell BC.out 0).trans rfl
    have q1 : World.cell? w5 ⟨gc, 1, none⟩ = some (.int .i64 (b1)) := (blk_cell BC.out 1).trans rfl
    have q2 : World.cell? w5 ⟨gc, 2, none⟩ = some (.int .i64 (b2 * 256 + b3)) := (blk_cell BC.out 2).trans rfl
    have q3 : World.cell? w5 ⟨gc, 3, none⟩ = some (.int .i64 (b4)) := (blk_cell BC.out 3).trans rfl
    have q4 : World.cell? w5 ⟨gc, 4, none⟩ = some (.int .i64 (b5)) := (blk_cell BC.out 4).trans rfl
    have q5 : World.cell? w5 ⟨gc, 5, none⟩ = some (.int .i64 (b6)) := (blk_cell BC.out 5).trans rfl
    obtain ⟨r, hr⟩ : ∃ r, checkB ⟨b0, b1, b2 * 256 + b3, b4, b5, b6⟩ = r := ⟨_, rfl⟩
    have HF := Aside0.mk ((check_f ⟨b0, b1, b2 * 256 + b3, b4, b5, b6⟩).trans (congrArg some hr))
    have CR := Aside0.mk (show checkB (cfgOf l0 s.at_) = r by rw [E2.out]; exact hr)
    clear hr
    cases r with
    | false =>
      have E := Aside0.mk (show configF l0 s = (2, { s with at_ := 0 }) by unfold configF; rw [if_neg (by omega), if_pos CR.out])
      go_upto_region 6 with (first | (go_at_call 34; refine (floor_Check.calls b0 b1 (b2 * 256 + b3) b4 b5 b6 _ _ HF.out).mono ?_; rintro e w6 ⟨rfl, hb⟩; have n1 := Aside0.mk (HG.out.below hb); have n2 := Aside0.mk (HBB.out.trans (hb.mono HG.out.2.1)); have n3 := Aside0.mk (blk_below BC.out hb); have n4 := Aside0.mk (HFR.out.below hb); clear HFR; have HFR := n4; clear n4; clear HG HBB BC hb q0 q1 q2 q3 q4 q5; have HG := n1; have HBB := n2; have BC := n3; clear n1 n2 n3; have q0 : World.cell? _ ⟨gc, 0, none⟩ = some (.int .i64 (b0)) := (blk_cell BC.out 0).trans rfl; have q1 : World.cell? _ ⟨gc, 1, none⟩ = some (.int .i64 (b1)) := (blk_cell BC.out 1).trans rfl; have q2 : World.cell? _ ⟨gc, 2, none⟩ = some (.int .i64 (b2 * 256 + b3)) := (blk_cell BC.out 2).trans rfl; have q3 : World.cell? _ ⟨gc, 3, none⟩ = some (.int .i64 (b4)) := (blk_cell BC.out 3).trans rfl; have q4 : World.cell? _ ⟨gc, 4, none⟩ = some (.int .i64 (b5)) := (blk_cell BC.out 4).trans rfl; have q5 : World.cell? _ ⟨gc, 5, none⟩ = some (.int .i64 (b6)) := (blk_cell BC.out 5).trans rfl))
      obtain ⟨hge, hbs, hlc, hlm, hat, hcb, vf, vd, va, vp, hg0, hown⟩ := HG.out
      have BS := Aside0.mk hg0
      have CBw := Aside0.mk hcb
      have OW := Aside0.mk hown
      have GE := Aside0.mk hge
      have BASE := Aside0.mk hbs
      clear hbs hcb hg0 hown hge
      have p0 : World.cell? w6 ⟨g, 0, none⟩ = some (.slice A0 l0.length c0) := (blk_cell BS.out 0).trans rfl
      have p1 : World.cell? w6 ⟨g, 1, none⟩ = some (.int .i64 ((s.at_ + 7 : Nat) : Int)) := (blk_cell BS.out 1).trans rfl
      have p2 : World.cell? w6 ⟨g, 2, none⟩ = some (.int .i64 s.c.f0) := (blk_cell BS.out 2).trans rfl
      have p3 : World.cell? w6 ⟨g, 3, none⟩ = some (.int .i64 s.c.f1) := (blk_cell BS.out 3).trans rfl
      have p4 : World.cell? w6 ⟨g, 4, none⟩ = some (.int .i64 s.c.f2) := (blk_cell BS.out 4).trans rfl
      have p5 : World.cell? w6 ⟨g, 5, none⟩ = some (.int .i64 s.c.f3) := (blk_cell BS.out 5).trans rfl
      have p6 : World.cell? w6 ⟨g, 6, none⟩ = some (.int .i64 s.c.f4) := (blk_cell BS.out 6).trans rfl
      have p7 : World.cell? w6 ⟨g, 7, none⟩ = some (.int .i64 s.c.f5) := (blk_cell BS.out 7).trans rfl
      have p8 : World.cell? w6 ⟨g, 8, none⟩ = some (vf) := (blk_cell BS.out 8).trans rfl
      have p9 : World.cell? w6 ⟨g, 9, none⟩ = some (vd) := (blk_cell BS.out 9).trans rfl
      have p10 : World.cell? w6 ⟨g, 10, none⟩ = some (va) := (blk_cell BS.out 10).trans rfl
      have p11 : World.cell? w6 ⟨g, 11, none⟩ = some (vp) := (blk_cell BS.out 11).trans rfl
      have z0 : World.frozen? w6 ⟨g, 0, none⟩ = false := blk_frozen BS.out 0
      have z1 : World.frozen? w6 ⟨g, 1, none⟩ = false := blk_frozen BS.out 1
      have z2 : World.frozen? w6 ⟨g, 2, none⟩ = false := blk_frozen BS.out 2
      have z3 : World.frozen? w6 ⟨g, 3, none⟩ = false := blk_frozen BS.out 3
      have z4 : World.frozen? w6 ⟨g, 4, none⟩ = false := blk_frozen BS.out 4
      have z5 : World.frozen? w6 ⟨g, 5, none⟩ = false := blk_frozen BS.out 5
      have z6 : World.frozen? w6 ⟨g, 6, none⟩ = false := blk_frozen BS.out 6
      have z7 : World.frozen? w6 ⟨g, 7, none⟩ = false := blk_frozen BS.out 7
      have z8 : World.frozen? w6 ⟨g, 8, none⟩ = false := blk_frozen BS.out 8
      have z9 : World.frozen? w6 ⟨g, 9, none⟩ = false := blk_frozen BS.out 9
      have z10 : World.frozen? w6 ⟨g, 10, none⟩ = false := blk_frozen BS.out 10
      have z11 : World.frozen? w6 ⟨g, 11, none⟩ = false := blk_frozen BS.out 11
      go_wp2
      go_ret
      have hs := HG.out.setAt 0 (by omega)
      exact ⟨by rw [E.out]; rfl, by rw [E.out]; exact hs.1, HBB.out.trans hs.2, HFR.out.trans ((HG.out.setAt_fr 0).mono (by simp))⟩
    | true =>
      by_cases h2 : b2 * 256 + b3 < 2 * b0
      · have E := Aside0.mk (show configF l0 s = (4, { s with at_ := 2 }) by unfold configF; rw [if_neg (by omega), if_neg (by rw [CR.out]; simp), E2.out, if_pos h2])
        go_upto_region 9 with (first | (go_at_call 34; refine (floor_Check.calls b0 b1 (b2 * 256 + b3) b4 b5 b6 _ _ HF.out).mono ?_; rintro e w6 ⟨rfl, hb⟩; have n1 := Aside0.mk (HG.out.below hb); have n2 := Aside0.mk (HBB.out.trans (hb.mono HG.out.2.1)); have n3 := Aside0.mk (blk_below BC.out hb); have n4 := Aside0.mk (HFR.out.below hb); clear HFR; have HFR := n4; clear n4; clear HG HBB BC hb q0 q1 q2 q3 q4 q5; have HG := n1; have HBB := n2; have BC := n3; clear n1 n2 n3; have q0 : World.cell? _ ⟨gc, 0, none⟩ = some (.int .i64 (b0)) := (blk_cell BC.out 0).trans rfl; have q1 : World.cell? _ ⟨gc, 1, none⟩ = some (.int .i64 (b1)) := (blk_cell BC.out 1).trans rfl; have q2 : World.cell? _ ⟨gc, 2, none⟩ = some (.int .i64 (b2 * 256 + b3)) := (blk_cell BC.out 2).trans rfl; have q3 : World.cell? _ ⟨gc, 3, none⟩ = some (.int .i64 (b4)) := (blk_cell BC.out 3).trans rfl; have q4 : World.cell? _ ⟨gc, 4, none⟩ = some (.int .i64 (b5)) := (blk_cell BC.out 4).trans rfl; have q5 : World.cell? _ ⟨gc, 5, none⟩ = some (.int .i64 (b6)) := (blk_cell BC.out 5).trans rfl))
        obtain ⟨hge, hbs, hlc, hlm, hat, hcb, vf, vd, va, vp, hg0, hown⟩ := HG.out
        have BS := Aside0.mk hg0
        have CBw := Aside0.mk hcb
        have OW := Aside0.mk hown
        have GE := Aside0.mk hge
        have BASE := Aside0.mk hbs
        clear hbs hcb hg0 hown hge
        have p0 : World.cell? w6 ⟨g, 0, none⟩ = some (.slice A0 l0.length c0) := (blk_cell BS.out 0).trans rfl
        have p1 : World.cell? w6 ⟨g, 1, none⟩ = some (.int .i64 ((s.at_ + 7 : Nat) : Int)) := (blk_cell BS.out 1).trans rfl
        have p2 : World.cell? w6 ⟨g, 2, none⟩ = some (.int .i64 s.c.f0) := (blk_cell BS.out 2).trans rfl
        have p3 : World.cell? w6 ⟨g, 3, none⟩ = some (.int .i64 s.c.f1) := (blk_cell BS.out 3).trans rfl
        have p4 : World.cell? w6 ⟨g, 4, none⟩ = some (.int .i64 s.c.f2) := (blk_cell BS.out 4).trans rfl
        have p5 : World.cell? w6 ⟨g, 5, none⟩ = some (.int .i64 s.c.f3) := (blk_cell BS.out 5).trans rfl
        have p6 : World.cell? w6 ⟨g, 6, none⟩ = some (.int .i64 s.c.f4) := (blk_cell BS.out 6).trans rfl
        have p7 : World.cell? w6 ⟨g, 7, none⟩ = some (.int .i64 s.c.f5) := (blk_cell BS.out 7).trans rfl
        have p8 : World.cell? w6 ⟨g, 8, none⟩ = some (vf) := (blk_cell BS.out 8).trans rfl
        have p9 : World.cell? w6 ⟨g, 9, none⟩ = some (vd) := (blk_cell BS.out 9).trans rfl
        have p10 : World.cell? w6 ⟨g, 10, none⟩ = some (va) := (blk_cell BS.out 10).trans rfl
        have p11 : World.cell? w6 ⟨g, 11, none⟩ = some (vp) := (blk_cell BS.out 11).trans rfl
        have z0 : World.frozen? w6 ⟨g, 0, none⟩ = false := blk_frozen BS.out 0
        have z1 : World.frozen? w6 ⟨g, 1, none⟩ = false := blk_frozen BS.out 1
        have z2 : World.frozen? w6 ⟨g, 2, none⟩ = false := blk_frozen BS.out 2
        have z3 : World.frozen? w6 ⟨g, 3, none⟩ = false := blk_frozen BS.out 3
        have z4 : World.frozen? w6 ⟨g, 4, none⟩ = false := blk_frozen BS.out 4
        have z5 : World.frozen? w6 ⟨g, 5, none⟩ = false := blk_frozen BS.out 5
        have z6 : World.frozen? w6 ⟨g, 6, none⟩ = false := blk_frozen BS.out 6
        have z7 : World.frozen? w6 ⟨g, 7, none⟩ = false := blk_frozen BS.out 7
        have z8 : World.frozen? w6 ⟨g, 8, none⟩ = false := blk_frozen BS.out 8
        have z9 : World.frozen? w6 ⟨g, 9, none⟩ = false := blk_frozen BS.out 9
        have z10 : World.frozen? w6 ⟨g, 10, none⟩ = false := blk_frozen BS.out 10
        have z11 : World.frozen? w6 ⟨g, 11, none⟩ = false := blk_frozen BS.out 11
        go_wp2
        go_ret
        have hs := HG.out.setAt 2 (by omega)
        exact ⟨by rw [E.out]; rfl, by rw [E.out]; exact hs.1, HBB.out.trans hs.2, HFR.out.trans ((HG.out.setAt_fr 2).mono (by simp))⟩
      · have E := Aside0.mk (show configF l0 s = (0, { s with at_ := s.at_ + 7, c := ⟨b0, b1, b2 * 256 + b3, b4, b5, b6⟩ }) by unfold configF; rw [if_neg (by omega), if_neg (by rw [CR.out]; simp), E2.out, if_neg h2])
        go_upto_region 11 with (first | (go_at_call 34; refine (floor_Check.calls b0 b1 (b2 * 256 + b3) b4 b5 b6 _ _ HF.out).mono ?_; rintro e w6 ⟨rfl, hb⟩; have n1 := Aside0.mk (HG.out.below hb); have n2 := Aside0.mk (HBB.out.trans (hb.mono HG.out.2.1)); have n3 := Aside0.mk (blk_below BC.out hb); have n4 := Aside0.mk (HFR.out.below hb); clear HFR; have HFR := n4; clear n4; clear HG HBB BC hb q0 q1 q2 q3 q4 q5; have HG := n1; have HBB := n2; have BC := n3; clear n1 n2 n3; have q0 : World.cell? _ ⟨gc, 0, none⟩ = some (.int .i64 (b0)) := (blk_cell BC.out 0).trans rfl; have q1 : World.cell? _ ⟨gc, 1, none⟩ = some (.int .i64 (b1)) := (blk_cell BC.out 1).trans rfl; have q2 : World.cell? _ ⟨gc, 2, none⟩ = some (.int .i64 (b2 * 256 + b3)) := (blk_cell BC.out 2).trans rfl; have q3 : World.cell? _ ⟨gc, 3, none⟩ = some (.int .i64 (b4)) := (blk_cell BC.out 3).trans rfl; have q4 : World.cell? _ ⟨gc, 4, none⟩ = some (.int .i64 (b5)) := (blk_cell BC.out 4).trans rfl; have q5 : World.cell? _ ⟨gc, 5, none⟩ = some (.int .i64 (b6)) := (blk_cell BC.out 5).trans rfl))
        clear h2
        obtain ⟨hge, hbs, hlc, hlm, hat, hcb, vf, vd, va, vp, hg0, hown⟩ := HG.out
        have BS := Aside0.mk hg0
        have CBw := Aside0.mk hcb
        have OW := Aside0.mk hown
        have GE := Aside0.mk hge
        have BASE := Aside0.mk hbs
        clear hbs hcb hg0 hown hge
        have p0 : World.cell? w6 ⟨g, 0, none⟩ = some (.slice A0 l0.length c0) := (blk_cell BS.out 0).trans rfl
        have p1 : World.cell? w6 ⟨g, 1, none⟩ = some (.int .i64 ((s.at_ + 7 : Nat) : Int)) := (blk_cell BS.out 1).trans rfl
        have p2 : World.cell? w6 ⟨g, 2, none⟩ = some (.int .i64 s.c.f0) := (blk_cell BS.out 2).trans rfl
        have p3 : World.cell? w6 ⟨g, 3, none⟩ = some (.int .i64 s.c.f1) := (blk_cell BS.out 3).trans rfl
        have p4 : World.cell? w6 ⟨g, 4, none⟩ = some (.int .i64 s.c.f2) := (blk_cell BS.out 4).trans rfl
        have p5 : World.cell? w6 ⟨g, 5, none⟩ = some (.int .i64 s.c.f3) := (blk_cell BS.out 5).trans rfl
        have p6 : World.cell? w6 ⟨g, 6, none⟩ = some (.int .i64 s.c.f4) := (blk_cell BS.out 6).trans rfl
        have p7 : World.cell? w6 ⟨g, 7, none⟩ = some (.int .i64 s.c.f5) := (blk_cell BS.out 7).trans rfl
        have p8 : World.cell? w6 ⟨g, 8, none⟩ = some (vf) := (blk_cell BS.out 8).trans rfl
        have p9 : World.cell? w6 ⟨g, 9, none⟩ = some (vd) := (blk_cell BS.out 9).trans rfl
        have p10 : World.cell? w6 ⟨g, 10, none⟩ = some (va) := (blk_cell BS.out 10).trans rfl
        have p11 : World.cell? w6 ⟨g, 11, none⟩ = some (vp) := (blk_cell BS.out 11).trans rfl
        have z0 : World.frozen? w6 ⟨g, 0, none⟩ = false := blk_frozen BS.out 0
        have z1 : World.frozen? w6 ⟨g, 1, none⟩ = false := blk_frozen BS.out 1
        have z2 : World.frozen? w6 ⟨g, 2, none⟩ = false := blk_frozen BS.out 2
        have z3 : World.frozen? w6 ⟨g, 3, none⟩ = false := blk_frozen BS.out 3
        have z4 : World.frozen? w6 ⟨g, 4, none⟩ = false := blk_frozen BS.out 4
        have z5 : World.frozen? w6 ⟨g, 5, none⟩ = false := blk_frozen BS.out 5
        have z6 : World.frozen? w6 ⟨g, 6, none⟩ = false := blk_frozen BS.out 6
        have z7 : World.frozen? w6 ⟨g, 7, none⟩ = false := blk_frozen BS.out 7
        have z8 : World.frozen? w6 ⟨g, 8, none⟩ = false := blk_frozen BS.out 8
        have z9 : World.frozen? w6 ⟨g, 9, none⟩ = false := blk_frozen BS.out 9
        have z10 : World.frozen? w6 ⟨g, 10, none⟩ = false := blk_frozen BS.out 10
        have z11 : World.frozen? w6 ⟨g, 11, none⟩ = false := blk_frozen BS.out 11
        go_wp2
        go_ret
        have hs := HG.out.setC ⟨b0, b1, b2 * 256 + b3, b4, b5, b6⟩
        exact ⟨by rw [E.out]; rfl, by rw [E.out]; exact hs.1, HBB.out.trans hs.2.1, HFR.out.trans (hs.2.2.mono (by simp))⟩
end Go.Proofs.Ythfkgnkojhocbaa.S
end
section
namespace Go.Proofs.Ythfkgnkojhocbaa.S
open Go Go.RowKit Go.Proofs.YthfkgnkojhocbaaW.PrintWords Go.Proofs.YthfkgnkojhocbaaW.PrintLast Go.Proofs.YthfkgnkojhocbaaW.PrintMore
attribute [local go_sem] max2_int min2_int max_two min_two max_three min_three max_four min_four
set_option linter.unusedVariables false
set_option linter.unusedSimpArgs false
def sgn (c : Int) : Int := if c > 127 then c - 256 else c
theorem i8_sgn {c : Int} (h : 0 ≤ c ∧ c ≤ 255) : RowKit.wrap64 (IntKind.i8.wrap c) = sgn c := by
  have e : IntKind.i8.wrap c = sgn c := by
    unfold sgn
    by_cases h1 : c > 127
    · rw [if_pos h1]
      simp [IntKind.wrap, IntKind.signed, IntKind.bits]
      omega
    · rw [if_neg h1]
      simp [IntKind.wrap, IntKind.signed, IntKind.bits]
      omega
  rw [e]
  unfold sgn RowKit.wrap64
  split <;> omega
def RdOk (base g : Nat) (A0 : Option Addr) (c0 : Nat) (l0 : List Int) (r : Int × Rd) (w : World) (e : Ending) (w' : World) : Prop :=
  e = .returned (.int .i64 r.1) ∧ IsG base w' g A0 c0 l0 r.2 ∧ Below base w w' ∧ Fr FT w w'
def picksF (l : List Int) (s : Rd) : Int × Rd := (0, { s with p := s.p ++ l.drop s.at_ })
def firstF (l : List Int) (s : Rd) : Int × Rd :=
  if l.length < s.at_ + s.c.f0.toNat then (9, { s with at_ := l.length })
  else (0, { s with at_ := s.at_ + s.c.f0.toNat, f := s.f ++ ((l.drop s.at_).take s.c.f0.toNat).map sgn })
set_option maxHeartbeats 8000000 in
set_option maxRecDepth 100000 in
theorem first_calls (base g : Nat) (A0 : Option Addr) (c0 : Nat) (l0 : List Int) (s : Rd) (w : World) (h : IsG base w g A0 c0 l0 s) (hby : isB l0) (hc0 : 0 ≤ s.c.f0) (hc1 : s.c.f0 ≤ 8) (hfl : s.f.length ≤ 1000000) :
    Calls Try.prog 21 #[.pointer (some ⟨g, 0, none⟩)] w fun e w' => RdOk base g A0 c0 l0 (firstF l0 s) w e w' := by
  have HG := Aside0.mk h
  have HFR := Aside0.mk (Fr.refl FT w)
  have HBB := Aside0.mk (Below.refl base w)
  have hx0 := hby
  have BASE0 := Aside0.mk h.2.1
  have CB0 := Aside0.mk h.2.2.2.2.2.1
  clear h hby
  have hlm : l0.length ≤ 1000000 := HG.out.2.2.2.1
  have hat : s.at_ ≤ l0.length := HG.out.2.2.2.2.1
  obtain ⟨n, hn⟩ : ∃ n : Nat, s.c.f0 = n := ⟨s.c.f0.toNat, by omega⟩
  have hn8 : n ≤ 8 := by omega
  have HN := Aside0.mk hn
  by_cases hs : l0.length < s.at_ + n
  · have E := Aside0.mk (show firstF l0 s = (9, { s with at_ := l0.length }) by unfold firstF; rw [HN.out, Int.toNat_natCast, if_pos hs])
    obtain ⟨hge, hbs, hlc, hlm, hat, hcb, vf, vd, va, vp, hg0, hown⟩ := HG.out
    have BS := Aside0.mk hg0
    have CBw := Aside0.mk hcb
    have OW := Aside0.mk hown
    have GE := Aside0.mk hge
    have BASE := Aside0.mk hbs
    clear hbs hcb hg0 hown hge
    have p0 : World.cell? w ⟨g, 0, none⟩ = some (.slice A0 l0.length c0) := (blk_cell BS.out 0).trans rfl
    have p1 : World.cell? w ⟨g, 1, none⟩ = some (.int .i64 s.at_) := (blk_cell BS.out 1).trans rfl
    have p2 : World.cell? w ⟨g, 2, none⟩ = some (.int .i64 s.c.f0) := (blk_cell BS.out 2).trans rfl
    have p3 : World.cell? w ⟨g, 3, none⟩ = some (.int .i64 s.c.f1) := (blk_cell BS.out 3).trans rfl
    have p4 : World.cell? w ⟨g, 4, none⟩ = some (.int .i64 s.c.f2) := (blk_cell BS.out 4).trans rfl
    have p5 : World.cell? w ⟨g, 5, none⟩ = some (.int .i64 s.c.f3) := (blk_cell BS.out 5).trans rfl
    have p6 : World.cell? w ⟨g, 6, none⟩ = some (.int .i64 s.c.f4) := (blk_cell BS.out 6).trans rfl
    have p7 : World.cell? w ⟨g, 7, none⟩ = some (.int .i64 s.c.f5) := (blk_cell BS.out 7).trans rfl
    have p8 : World.cell? w ⟨g, 8, none⟩ = some (vf) := (blk_cell BS.out 8).trans rfl
    have p9 : World.cell? w ⟨g, 9, none⟩ = some (vd) := (blk_cell BS.out 9).trans rfl
    have p10 : World.cell? w ⟨g, 10, none⟩ = some (va) := (blk_cell BS.out 10).trans rfl
    have p11 : World.cell? w ⟨g, 11, none⟩ = some (vp) := (blk_cell BS.out 11).trans rfl
    have z0 : World.frozen? w ⟨g, 0, none⟩ = false := blk_frozen BS.out 0
    have z1 : World.frozen? w ⟨g, 1, none⟩ = false := blk_frozen BS.out 1
    have z2 : World.frozen? w ⟨g, 2, none⟩ = false := blk_frozen BS.out 2
    have z3 : World.frozen? w ⟨g, 3, none⟩ = false := blk_frozen BS.out 3
    have z4 : World.frozen? w ⟨g, 4, none⟩ = false := blk_frozen BS.out 4
    have z5 : World.frozen? w ⟨g, 5, none⟩ = false := blk_frozen BS.out 5
    have z6 : World.frozen? w ⟨g, 6, none⟩ = false := blk_frozen BS.out 6
    have z7 : World.frozen? w ⟨g, 7, none⟩ = false := blk_frozen BS.out 7
    have z8 : World.frozen? w ⟨g, 8, none⟩ = false := blk_frozen BS.out 8
    have z9 : World.frozen? w ⟨g, 9, none⟩ = false := blk_frozen BS.out 9
    have z10 : World.frozen? w ⟨g, 10, none⟩ = false := blk_frozen BS.out 10
    have z11 : World.frozen? w ⟨g, 11, none⟩ = false := blk_frozen BS.out 11
    rw [hn] at p2
    clear hn hc0 hc1
    go_enter Try.func21, Try.ntmps21
    go_wp2_with (first | ((with_reducible refine gate_callee (f := 41) rfl ?_); refine goesL_ (some 15) rfl rfl Try.func41 (by kernel_rfl) rfl #[.pointer (some ⟨g, 0, none⟩), .int .i64 ((n : Nat) : Int)] rfl (by (try simp only [List.map_toArray, List.map_cons, List.map_nil]); first | done | rfl | (simp only [List.length_drop, List.length_take]; rfl)) ?_; (refine (take_short base g n A0 c0 l0 s _ HG.out hs (by omega)).mono ?_); rintro e w2 ⟨rfl, hg, hb, hfr⟩; refine ⟨_, rfl, ?_⟩; skip; clear HG; have HG := Aside0.mk hg; have n2 := Aside0.mk (HBB.out.trans hb); clear HBB; have HBB := n2; clear n2 hg hb; have n3 := Aside0.mk (HFR.out.trans (hfr.mono (by simp))); clear HFR hfr; have HFR := n3; clear n3))
    go_ret
    exact ⟨by rw [E.out]; rfl, by rw [E.out]; exact HG.out, HBB.out, HFR.out⟩
  · have hsn : s.at_ + n ≤ l0.length := by omega
    obtain ⟨bs, hbs⟩ : ∃ bs, (l0.drop s.at_).take n = bs := ⟨_, rfl⟩
    have NB := Aside0.mk (show n ≤ 1000000 by omega)
    have hbl : bs.length = n := by rw [← hbs, List.length_take, List.length_drop]; omega
    have hbb : isB bs := by intro x hx; rw [← hbs] at hx; exact hx0 x (List.mem_of_mem_drop (List.mem_of_mem_take hx))
    have HBS := Aside0.mk hbs
    have HBB8 := Aside0.mk hbb
    have E := Aside0.mk (show firstF l0 s = (0, { s with at_ := s.at_ + n, f := s.f ++ bs.map sgn }) by unfold firstF; rw [HN.out, Int.toNat_natCast, if_neg (by omega), HBS.out])
    obtain ⟨hge, hbs, hlc, hlm, hat, hcb, vf, vd, va, vp, hg0, hown⟩ := HG.out
    have BS := Aside0.mk hg0
    have CBw := Aside0.mk hcb
    have OW := Aside0.mk hown
    have GE := Aside0.mk hge
    have BASE := Aside0.mk hbs
    clear hbs hcb hg0 hown hge
    have p0 : World.cell? w ⟨g, 0, none⟩ = some (.slice A0 l0.length c0) := (blk_cell BS.out 0).trans rfl
    have p1 : World.cell? w ⟨g, 1, none⟩ = some (.int .i64 s.at_) := (blk_cell BS.out 1).trans rfl
    have p2 : World.cell? w ⟨g, 2, none⟩ = some (.int .i64 s.c.f0) := (blk_cell BS.out 2).trans rfl
    have p3 : World.cell? w ⟨g, 3, none⟩ = some (.int .i64 s.c.f1) := (blk_cell BS.out 3).trans rfl
    have p4 : World.cell? w ⟨g, 4, none⟩ = some (.int .i64 s.c.f2) := (blk_cell BS.out 4).trans rfl
    have p5 : World.cell? w ⟨g, 5, none⟩ = some (.int .i64 s.c.f3) := (blk_cell BS.out 5).trans rfl
    have p6 : World.cell? w ⟨g, 6, none⟩ = some (.int .i64 s.c.f4) := (blk_cell BS.out 6).trans rfl
    have p7 : World.cell? w ⟨g, 7, none⟩ = some (.int .i64 s.c.f5) := (blk_cell BS.out 7).trans rfl
    have p8 : World.cell? w ⟨g, 8, none⟩ = some (vf) := (blk_cell BS.out 8).trans rfl
    have p9 : World.cell? w ⟨g, 9, none⟩ = some (vd) := (blk_cell BS.out 9).trans rfl
    have p10 : World.cell? w ⟨g, 10, none⟩ = some (va) := (blk_cell BS.out 10).trans rfl
    have p11 : World.cell? w ⟨g, 11, none⟩ = some (vp) := (blk_cell BS.out 11).trans rfl
    have z0 : World.frozen? w ⟨g, 0, none⟩ = false := blk_frozen BS.out 0
    have z1 : World.frozen? w ⟨g, 1, none⟩ = false := blk_frozen BS.out 1
    have z2 : World.frozen? w ⟨g, 2, none⟩ = false := blk_frozen BS.out 2
    have z3 : World.frozen? w ⟨g, 3, none⟩ = false := blk_frozen BS.out 3
    have z4 : World.frozen? w ⟨g, 4, none⟩ = false := blk_frozen BS.out 4
    have z5 : World.frozen? w ⟨g, 5, none⟩ = false := blk_frozen BS.out 5
    have z6 : World.frozen? w ⟨g, 6, none⟩ = false := blk_frozen BS.out 6
    have z7 : World.frozen? w ⟨g, 7, none⟩ = false := blk_frozen BS.out 7
    have z8 : World.frozen? w ⟨g, 8, none⟩ = false := blk_frozen BS.out 8
    have z9 : World.frozen? w ⟨g, 9, none⟩ = false := blk_frozen BS.out 9
    have z10 : World.frozen? w ⟨g, 10, none⟩ = false := blk_frozen BS.out 10
    have z11 : World.frozen? w ⟨g, 11, none⟩ = false := blk_frozen BS.out 11
    rw [hn] at p2
    clear hbs hbb hn hc0 hc1 hs hx0
    go_enter Try.func21, Try.ntmps21
    go_upto_region 4 with (first | ((with_reducible refine gate_callee (f := 41) rfl ?_); refine goesL_ (some 15) rfl rfl Try.func41 (by kernel_rfl) rfl #[.pointer (some ⟨g, 0, none⟩), .int .i64 ((n : Nat) : Int)] rfl (by (try simp only [List.map_toArray, List.map_cons, List.map_nil]); first | done | rfl | (simp only [List.length_drop, List.length_take]; rfl)) ?_; (refine (take_ok base g n A0 c0 l0 s _ HG.out hsn).mono ?_); rintro e w2 hta; obtain ⟨A, c, he, hnc, hcb, hg, hb, hfr⟩ := hta; subst he; refine ⟨_, rfl, ?_⟩; skip; have CA := Aside0.mk hcb; have NC := Aside0.mk hnc; clear HG hcb hnc; have HG := Aside0.mk hg; have n2 := Aside0.mk (HBB.out.trans hb); clear HBB; have HBB := n2; clear n2 hg hb; have n3 := Aside0.mk (HFR.out.trans (hfr.mono (by simp))); clear HFR hfr; have HFR := n3; clear n3))
    clear BS CBw OW GE BASE hat p0 z0 p1 z1 p2 z2 p3 z3 p4 z4 p5 z5 p6 z6 p7 z7 p8 z8 p9 z9 p10 z10 p11 z11
    have CAB := Aside0.mk (HBS.out ▸ CA.out)
    clear CA
    have n1 := Aside0.mk (CB0.out.step HBB.out)
    clear CB0
    have CB0 := n1
    have HB0 := HBB
    clear n1 HBB
    have HBB := Aside0.mk (Below.refl base w2)
    have n1 := Aside0.mk HG.out.2.1
    clear BASE0
    have BASE0 := n1
    clear n1
    go_wp2
    go_loopg [6, 22] n (fun gg s6 s22 wr => ∃ kk : Nat, kk ≤ n ∧ n - kk ≤ gg ∧ s22 = .int .i64 kk ∧ Aside0 (IsG base wr g A0 c0 l0 { s with at_ := s.at_ + n, f := s.f ++ ((bs.take kk).map sgn) }) ∧ Aside0 (Below base w2 wr) ∧ Aside0 (Fr FT w wr))
    case atStart => exact ⟨0, Nat.zero_le _, by omega, rfl, ⟨by simpa using HG.out⟩, HBB, HFR⟩
    case round =>
      clear HG HBB HFR
      obtain ⟨kk, hkk, hgg, rfl, HG, HBB, HFR⟩ := hrel
      by_cases hlt : kk < n
      rotate_left
      · have hltz : ¬ (kk : Int) < (n : Int) := by omega
        have hke : kk = n := by omega
        clear hlt hgg hkk
        go_wp2
        go_ret
        refine ⟨by rw [E.out]; rfl, ?_, HB0.out.trans HBB.out, HFR.out⟩
        rw [E.out]
        have hg := HG.out
        rw [hke, List.take_of_length_le (by omega)] at hg
        exact hg
      · have hltz : (kk : Int) < (n : Int) := by omega
        have h0k : (0 : Int) ≤ (kk : Int) := by omega
        have HLT := Aside0.mk hlt
        have HGG := Aside0.mk hgg
        obtain ⟨ad, ea, h0⟩ := Kd.at_int (CAB.out.step HBB.out).now (kk : Int) (by omega) (by omega)
        subst ea
        have hkb : kk < bs.length := by omega
        rw [show rd bs (kk : Int) = bs[kk] by simp [rd, hkb], Int.toNat_natCast] at h0
        obtain ⟨hx0, hx1⟩ := HBB8.out _ (List.getElem_mem hkb)
        have TK := Aside0.mk (show bs.take (kk + 1) = bs.take kk ++ [bs[kk]] from List.take_succ_eq_append_getElem hkb)
        generalize bs[kk] = x at h0 hx0 hx1 TK
        obtain ⟨hge, hbs, hlc, hlm, hat, hcb, vf, vd, va, vp, hg0, hown⟩ := HG.out
        have BS := Aside0.mk hg0
        have CBw := Aside0.mk hcb
        have OW := Aside0.mk hown
        have GE := Aside0.mk hge
        have BASE := Aside0.mk hbs
        clear hbs hcb hg0 hown hge
        have p0 : World.cell? wr ⟨g, 0, none⟩ = some (.slice A0 l0.length c0) := (blk_cell BS.out 0).trans rfl
        have p1 : World.cell? wr ⟨g, 1, none⟩ = some (.int .i64 (s.at_ + n : Nat)) := (blk_cell BS.out 1).trans rfl
        have p2 : World.cell? wr ⟨g, 2, none⟩ = some (.int .i64 s.c.f0) := (blk_cell BS.out 2).trans rfl
        have p3 : World.cell? wr ⟨g, 3, none⟩ = some (.int .i64 s.c.f1) := (blk_cell BS.out 3).trans rfl
        have p4 : World.cell? wr ⟨g, 4, none⟩ = some (.int .i64 s.c.f2) := (blk_cell BS.out 4).trans rfl
        have p5 : World.cell? wr ⟨g, 5, none⟩ = some (.int .i64 s.c.f3) := (blk_cell BS.out 5).trans rfl
        have p6 : World.cell? wr ⟨g, 6, none⟩ = some (.int .i64 s.c.f4) := (blk_cell BS.out 6).trans rfl
        have p7 : World.cell? wr ⟨g, 7, none⟩ = some (.int .i64 s.c.f5) := (blk_cell BS.out 7).trans rfl
        have p8 : World.cell? wr ⟨g, 8, none⟩ = some (vf) := (blk_cell BS.out 8).trans rfl
        have p9 : World.cell? wr ⟨g, 9, none⟩ = some (vd) := (blk_cell BS.out 9).trans rfl
        have p10 : World.cell? wr ⟨g, 10, none⟩ = some (va) := (blk_cell BS.out 10).trans rfl
        have p11 : World.cell? wr ⟨g, 11, none⟩ = some (vp) := (blk_cell BS.out 11).trans rfl
        have z0 : World.frozen? wr ⟨g, 0, none⟩ = false := blk_frozen BS.out 0
        have z1 : World.frozen? wr ⟨g, 1, none⟩ = false := blk_frozen BS.out 1
        have z2 : World.frozen? wr ⟨g, 2, none⟩ = false := blk_frozen BS.out 2
        have z3 : World.frozen? wr ⟨g, 3, none⟩ = false := blk_frozen BS.out 3
        have z4 : World.frozen? wr ⟨g, 4, none⟩ = false := blk_frozen BS.out 4
        have z5 : World.frozen? wr ⟨g, 5, none⟩ = false := blk_frozen BS.out 5
        have z6 : World.frozen? wr ⟨g, 6, none⟩ = false := blk_frozen BS.out 6
        have z7 : World.frozen? wr ⟨g, 7, none⟩ = false := blk_frozen BS.out 7
        have z8 : World.frozen? wr ⟨g, 8, none⟩ = false := blk_frozen BS.out 8
        have z9 : World.frozen? wr ⟨g, 9, none⟩ = false := blk_frozen BS.out 9
        have z10 : World.frozen? wr ⟨g, 10, none⟩ = false := blk_frozen BS.out 10
        have z11 : World.frozen? wr ⟨g, 11, none⟩ = false := blk_frozen BS.out 11
        clear hlt hgg hkk hkb
        obtain ⟨nl, hnl⟩ : ∃ l : List Int, l = s.f ++ (bs.take kk).map sgn ++ [RowKit.wrap64 (IntKind.i8.wrap x)] := ⟨_, rfl⟩
        have NL := Aside0.mk hnl
        clear hnl
        have LEN := Aside0.mk (show (s.f ++ (bs.take kk).map sgn).length ≤ 2000000 by simp only [List.length_append, List.length_map, List.length_take]; omega)
        have SG := Aside0.mk (i8_sgn ⟨hx0, hx1⟩)
        go_upto_region 8 with (first | ((with_reducible refine gate_builtin (b := .append) (xs := #[.tmp 31, .tmp 35]) rfl ?_); at_builtin; refine Kd.R_append (Kd.int .i64) (w0 := w2) base rfl (.tmp 31) (.tmp 35) 26 2 (.int .i64 0) 8 rfl Try.underlying26 (by kernel_rfl) rfl (by decide) (by omega) vf (s.f ++ (bs.take kk).map sgn) (RowKit.wrap64 (IntKind.i8.wrap x)) [.int .i64 (RowKit.wrap64 (IntKind.i8.wrap x))] (fun _ => True) (fun _ => False) rfl rfl ?aP (fun _ hk => hk.elim) ?aF ?aO ?aB ?aS ?aL ?_; (case aP => exact rfl); (case aB => exact HBB.out); (case aF => exact fun _ _ => trivial); (case aO => exact OW.out.f); (case aS => exact BASE.out); (case aL => have := LEN.out; omega); intro v1 w5 ho hb hg hat_; rw [← NL.out] at ho; (obtain ⟨A1, c1, ee⟩ := Kd.R_slice ho; subst ee); have hfr := (Fr.refl [2] _).grown hg (fun k hk => by obtain ⟨cs, hcs⟩ := Kd.R_typed OW.out.f k hk; exact ⟨cs, 2, _, hcs, by decide⟩); have n1 := Aside0.mk (blk_grown BS.out hg (Kd.R_ne OW.out.f BS.out (by decide))); have of := Aside0.mk ho; have od := Aside0.mk (R_frN OW.out.d hfr (by decide)); have oa := Aside0.mk (R_frN OW.out.a hfr (by decide)); have op := Aside0.mk (R_frN OW.out.p hfr (by decide)); have n3 := Aside0.mk hb; have n4 := Aside0.mk (HFR.out.trans (hfr.mono (by simp))); clear HFR; have HFR := n4; clear n4; clear BS HBB OW ho hb hg hat_ hfr p0 z0 p1 z1 p2 z2 p3 z3 p4 z4 p5 z5 p6 z6 p7 z7 p8 z8 p9 z9 p10 z10 p11 z11; have BS := n1; have HBB := n3; clear n1 n3; have p8 := (blk_cell BS.out 8).trans rfl; have z8 := blk_frozen BS.out 8))
        have bs := blk_put BS.out 8 (.slice A1 nl.length c1) (cs' := #[.slice A0 l0.length c0, .int .i64 (s.at_ + n : Nat), .int .i64 s.c.f0, .int .i64 s.c.f1, .int .i64 s.c.f2, .int .i64 s.c.f3, .int .i64 s.c.f4, .int .i64 s.c.f5, .slice A1 nl.length c1, vd, va, vp]) rfl
        have hs : Fr [53] w5 (w5.setCell ⟨g, 8, none⟩ (.slice A1 nl.length c1)) := (Fr.refl _ _).set BS.out (by decide) _
        have hx := set_base (j := 8) (v := .slice A1 nl.length c1) HBB.out GE.out
        have HG := Aside0.mk (show IsG base (w5.setCell ⟨g, 8, none⟩ (.slice A1 nl.length c1)) g A0 c0 l0 { s with at_ := s.at_ + n, f := nl } from ⟨GE.out, Nat.le_trans BASE0.out hx.size, hlc, hlm, hat, CB0.out.step hx, (.slice A1 nl.length c1), (vd), (va), (vp), bs, R_frN of.out hs (by decide), R_frN od.out hs (by decide), R_frN oa.out hs (by decide), R_frN op.out hs (by decide)⟩)
        have n4 := Aside0.mk (HFR.out.trans (hs.mono (by simp)))
        clear HFR
        have HFR := n4
        clear n4
        have n1 := Aside0.mk hx
        clear HBB bs hs hx BS of od oa op p8 z8
        have HBB := n1
        clear n1
        generalize World.setCell w5 ⟨g, 8, none⟩ (.slice A1 nl.length c1) = w6 at HG HBB HFR ⊢
        go_wp2
        go_roundg (n - (kk + 1))
        case measure => have := HLT.out; have := HGG.out; omega
        case rel => exact ⟨kk + 1, HLT.out, Nat.le_refl _, by have := HLT.out; have := NB.out; go_num, ⟨by have := HG.out; rw [TK.out, List.map_append, List.map_singleton, ← SG.out, ← List.append_assoc, ← NL.out]; exact this⟩, HBB, HFR⟩
set_option maxHeartbeats 8000000 in
set_option maxRecDepth 100000 in
theorem picks_calls (base g : Nat) (A0 : Option Addr) (c0 : Nat) (l0 : List Int) (s : Rd) (w : World) (h : IsG base w g A0 c0 l0 s) (hby : isB l0) (hfl : s.p.length ≤ 1000000) :
    Calls Try.prog 24 #[.pointer (some ⟨g, 0, none⟩)] w fun e w' => RdOk base g A0 c0 l0 (picksF l0 s) w e w' := by
  have HG := Aside0.mk h
  have HFR := Aside0.mk (Fr.refl FT w)
  have hx0 := hby
  have BASE0 := Aside0.mk h.2.1
  have CB0 := Aside0.mk h.2.2.2.2.2.1
  clear h hby
  have hlm : l0.length ≤ 1000000 := HG.out.2.2.2.1
  have hlc : l0.length ≤ c0 := HG.out.2.2.1
  have hat : s.at_ ≤ l0.length := HG.out.2.2.2.2.1
  have hat0 : (0 : Int) ≤ (s.at_ : Int) := by omega
  obtain ⟨bs, hbs⟩ : ∃ bs, l0.drop s.at_ = bs := ⟨_, rfl⟩
  have hbl0 : bs.length = l0.length - s.at_ := by rw [← hbs, List.length_drop]
  obtain ⟨n, hnn⟩ : ∃ n, n = bs.length := ⟨_, rfl⟩
  have hbl : bs.length = n := hnn.symm
  have hbb : isB bs := by intro x hx; rw [← hbs] at hx; exact hx0 x (List.mem_of_mem_drop hx)
  have HBB8 := Aside0.mk hbb
  have NB := Aside0.mk (show n ≤ 1000000 by omega)
  have hnb : (n : Int) ≤ 1000000 := by have := NB.out; omega
  have E := Aside0.mk (show picksF l0 s = (0, { s with p := s.p ++ bs }) by unfold picksF; rw [hbs])
  have SUB := Aside0.mk (CB0.out.sub (c := c0) s.at_ n (by omega) hlc)
  rw [hbs, List.take_of_length_le (by omega)] at SUB
  obtain ⟨hge, hbs, hlc, hlm, hat, hcb, vf, vd, va, vp, hg0, hown⟩ := HG.out
  have BS := Aside0.mk hg0
  have CBw := Aside0.mk hcb
  have OW := Aside0.mk hown
  have GE := Aside0.mk hge
  have BASE := Aside0.mk hbs
  clear hbs hcb hg0 hown hge
  have p0 : World.cell? w ⟨g, 0, none⟩ = some (.slice A0 l0.length c0) := (blk_cell BS.out 0).trans rfl
  have p1 : World.cell? w ⟨g, 1, none⟩ = some (.int .i64 s.at_) := (blk_cell BS.out 1).trans rfl
  have p2 : World.cell? w ⟨g, 2, none⟩ = some (.int .i64 s.c.f0) := (blk_cell BS.out 2).trans rfl
  have p3 : World.cell? w ⟨g, 3, none⟩ = some (.int .i64 s.c.f1) := (blk_cell BS.out 3).trans rfl
  have p4 : World.cell? w ⟨g, 4, none⟩ = some (.int .i64 s.c.f2) := (blk_cell BS.out 4).trans rfl
  have p5 : World.cell? w ⟨g, 5, none⟩ = some (.int .i64 s.c.f3) := (blk_cell BS.out 5).trans rfl
  have p6 : World.cell? w ⟨g, 6, none⟩ = some (.int .i64 s.c.f4) := (blk_cell BS.out 6).trans rfl
  have p7 : World.cell? w ⟨g, 7, none⟩ = some (.int .i64 s.c.f5) := (blk_cell BS.out 7).trans rfl
  have p8 : World.cell? w ⟨g, 8, none⟩ = some (vf) := (blk_cell BS.out 8).trans rfl
  have p9 : World.cell? w ⟨g, 9, none⟩ = some (vd) := (blk_cell BS.out 9).trans rfl
  have p10 : World.cell? w ⟨g, 10, none⟩ = some (va) := (blk_cell BS.out 10).trans rfl
  have p11 : World.cell? w ⟨g, 11, none⟩ = some (vp) := (blk_cell BS.out 11).trans rfl
  have z0 : World.frozen? w ⟨g, 0, none⟩ = false := blk_frozen BS.out 0
  have z1 : World.frozen? w ⟨g, 1, none⟩ = false := blk_frozen BS.out 1
  have z2 : World.frozen? w ⟨g, 2, none⟩ = false := blk_frozen BS.out 2
  have z3 : World.frozen? w ⟨g, 3, none⟩ = false := blk_frozen BS.out 3
  have z4 : World.frozen? w ⟨g, 4, none⟩ = false := blk_frozen BS.out 4
  have z5 : World.frozen? w ⟨g, 5, none⟩ = false := blk_frozen BS.out 5
  have z6 : World.frozen? w ⟨g, 6, none⟩ = false := blk_frozen BS.out 6
  have z7 : World.frozen? w ⟨g, 7, none⟩ = false := blk_frozen BS.out 7
  have z8 : World.frozen? w ⟨g, 8, none⟩ = false := blk_frozen BS.out 8
  have z9 : World.frozen? w ⟨g, 9, none⟩ = false := blk_frozen BS.out 9
  have z10 : World.frozen? w ⟨g, 10, none⟩ = false := blk_frozen BS.out 10
  have z11 : World.frozen? w ⟨g, 11, none⟩ = false := blk_frozen BS.out 11
  have hnz : (l0.length : Int) - (s.at_ : Int) = (n : Int) := by omega
  have HN2 := Aside0.mk (show l0.length - s.at_ = n by omega)
  clear hbs hbb hx0 hnn
  by_cases hcs : c0 = s.at_
  · subst hcs
    rw [if_pos rfl] at SUB
    skip
    skip
    go_enter Try.func24, Try.ntmps24
    go_upto_region 1 with (fail)
    go_quiet (fail)
    try rw [HN2.out]
    skip
    have hb := pw_below_drewN (Below.refl w.heap.size w) nq
    have HB0 := Aside0.mk (hb.mono BASE0.out)
    have n1 := Aside0.mk (HG.out.below hb)
    have n2 := Aside0.mk (CB0.out.step HB0.out)
    have CAB := Aside0.mk (SUB.out.step HB0.out)
    have n3 := Aside0.mk (n1.out.2.1)
    have n4 := Aside0.mk (HFR.out.below hb)
    clear HFR
    have HFR := n4
    clear n4
    clear BS CBw OW GE BASE hat p0 z0 p1 z1 p2 z2 p3 z3 p4 z4 p5 z5 p6 z6 p7 z7 p8 z8 p9 z9 p10 z10 p11 z11 HG CB0 BASE0 SUB hb
    have HG := n1
    have CB0 := n2
    have BASE0 := n3
    clear n1 n2 n3 hnz
    generalize w.drewN nq = w2 at HG CB0 BASE0 CAB HB0 HFR ⊢
    have HBB := Aside0.mk (Below.refl base w2)
    go_wp2
    go_loopg [4, 15] n (fun gg s6 s22 wr => ∃ kk : Nat, kk ≤ n ∧ n - kk ≤ gg ∧ s22 = .int .i64 kk ∧ Aside0 (IsG base wr g A0 s.at_ l0 { s with p := s.p ++ bs.take kk }) ∧ Aside0 (Below base w2 wr) ∧ Aside0 (Fr FT w wr))
    case atStart => exact ⟨0, Nat.zero_le _, by omega, rfl, ⟨by simpa using HG.out⟩, HBB, HFR⟩
    case round =>
      clear HG HBB HFR
      obtain ⟨kk, hkk, hgg, rfl, HG, HBB, HFR⟩ := hrel
      by_cases hlt : kk < n
      rotate_left
      · have hltz : ¬ (kk : Int) < (n : Int) := by omega
        have hke : kk = n := by omega
        clear hlt hgg hkk
        go_wp2
        go_ret
        refine ⟨by rw [E.out]; rfl, ?_, HB0.out.trans HBB.out, HFR.out⟩
        rw [E.out]
        have hg := HG.out
        rw [hke, List.take_of_length_le (by omega)] at hg
        exact hg
      · have hltz : (kk : Int) < (n : Int) := by omega
        omega
  · skip
    rw [if_neg hcs] at SUB
    obtain ⟨A, hA⟩ : ∃ A, A = Option.map (fun x => x.add s.at_) A0 := ⟨_, rfl⟩
    rw [← hA] at SUB
    go_enter Try.func24, Try.ntmps24
    go_upto_region 1 with (fail)
    go_quiet (fail)
    try rw [HN2.out]
    rw [← hA]
    have hb := pw_below_drewN (Below.refl w.heap.size w) nq
    have HB0 := Aside0.mk (hb.mono BASE0.out)
    have n1 := Aside0.mk (HG.out.below hb)
    have n2 := Aside0.mk (CB0.out.step HB0.out)
    have CAB := Aside0.mk (SUB.out.step HB0.out)
    have n3 := Aside0.mk (n1.out.2.1)
    have n4 := Aside0.mk (HFR.out.below hb)
    clear HFR
    have HFR := n4
    clear n4
    clear BS CBw OW GE BASE hat p0 z0 p1 z1 p2 z2 p3 z3 p4 z4 p5 z5 p6 z6 p7 z7 p8 z8 p9 z9 p10 z10 p11 z11 HG CB0 BASE0 SUB hb
    have HG := n1
    have CB0 := n2
    have BASE0 := n3
    clear n1 n2 n3 hcs hnz hA
    generalize w.drewN nq = w2 at HG CB0 BASE0 CAB HB0 HFR ⊢
    have HBB := Aside0.mk (Below.refl base w2)
    go_wp2
    go_loopg [4, 15] n (fun gg s6 s22 wr => ∃ kk : Nat, kk ≤ n ∧ n - kk ≤ gg ∧ s22 = .int .i64 kk ∧ Aside0 (IsG base wr g A0 c0 l0 { s with p := s.p ++ bs.take kk }) ∧ Aside0 (Below base w2 wr) ∧ Aside0 (Fr FT w wr))
    case atStart => exact ⟨0, Nat.zero_le _, by omega, rfl, ⟨by simpa using HG.out⟩, HBB, HFR⟩
    case round =>
      clear HG HBB HFR
      obtain ⟨kk, hkk, hgg, rfl, HG, HBB, HFR⟩ := hrel
      by_cases hlt : kk < n
      rotate_left
      · have hltz : ¬ (kk : Int) < (n : Int) := by omega
        have hke : kk = n := by omega
        clear hlt hgg hkk
        go_wp2
        go_ret
        refine ⟨by rw [E.out]; rfl, ?_, HB0.out.trans HBB.out, HFR.out⟩
        rw [E.out]
        have hg := HG.out
        rw [hke, List.take_of_length_le (by omega)] at hg
        exact hg
      · have hltz : (kk : Int) < (n : Int) := by omega
        have h0k : (0 : Int) ≤ (kk : Int) := by omega
        have HLT := Aside0.mk hlt
        have HGG := Aside0.mk hgg
        obtain ⟨ad, ea, h0⟩ := Kd.at_int (CAB.out.step HBB.out).now (kk : Int) (by omega) (by omega)
        subst ea
        have hkb : kk < bs.length := by omega
        rw [show rd bs (kk : Int) = bs[kk] by simp [rd, hkb], Int.toNat_natCast] at h0
        obtain ⟨hx0, hx1⟩ := HBB8.out _ (List.getElem_mem hkb)
        have TK := Aside0.mk (show bs.take (kk + 1) = bs.take kk ++ [bs[kk]] from List.take_succ_eq_append_getElem hkb)
        generalize bs[kk] = x at h0 hx0 hx1 TK
        obtain ⟨hge, hbs, hlc, hlm, hat, hcb, vf, vd, va, vp, hg0, hown⟩ := HG.out
        have BS := Aside0.mk hg0
        have CBw := Aside0.mk hcb
        have OW := Aside0.mk hown
        have GE := Aside0.mk hge
        have BASE := Aside0.mk hbs
        clear hbs hcb hg0 hown hge
        have p0 : World.cell? wr ⟨g, 0, none⟩ = some (.slice A0 l0.length c0) := (blk_cell BS.out 0).trans rfl
        have p1 : World.cell? wr ⟨g, 1, none⟩ = some (.int .i64 (s.at_ : Nat)) := (blk_cell BS.out 1).trans rfl
        have p2 : World.cell? wr ⟨g, 2, none⟩ = some (.int .i64 s.c.f0) := (blk_cell BS.out 2).trans rfl
        have p3 : World.cell? wr ⟨g, 3, none⟩ = some (.int .i64 s.c.f1) := (blk_cell BS.out 3).trans rfl
        have p4 : World.cell? wr ⟨g, 4, none⟩ = some (.int .i64 s.c.f2) := (blk_cell BS.out 4).trans rfl
        have p5 : World.cell? wr ⟨g, 5, none⟩ = some (.int .i64 s.c.f3) := (blk_cell BS.out 5).trans rfl
        have p6 : World.cell? wr ⟨g, 6, none⟩ = some (.int .i64 s.c.f4) := (blk_cell BS.out 6).trans rfl
        have p7 : World.cell? wr ⟨g, 7, none⟩ = some (.int .i64 s.c.f5) := (blk_cell BS.out 7).trans rfl
        have p8 : World.cell? wr ⟨g, 8, none⟩ = some (vf) := (blk_cell BS.out 8).trans rfl
        have p9 : World.cell? wr ⟨g, 9, none⟩ = some (vd) := (blk_cell BS.out 9).trans rfl
        have p10 : World.cell? wr ⟨g, 10, none⟩ = some (va) := (blk_cell BS.out 10).trans rfl
        have p11 : World.cell? wr ⟨g, 11, none⟩ = some (vp) := (blk_cell BS.out 11).trans rfl
        have z0 : World.frozen? wr ⟨g, 0, none⟩ = false := blk_frozen BS.out 0
        have z1 : World.frozen? wr ⟨g, 1, none⟩ = false := blk_frozen BS.out 1
        have z2 : World.frozen? wr ⟨g, 2, none⟩ = false := blk_frozen BS.out 2
        have z3 : World.frozen? wr ⟨g, 3, none⟩ = false := blk_frozen BS.out 3
        have z4 : World.frozen? wr ⟨g, 4, none⟩ = false := blk_frozen BS.out 4
        have z5 : World.frozen? wr ⟨g, 5, none⟩ = false := blk_frozen BS.out 5
        have z6 : World.frozen? wr ⟨g, 6, none⟩ = false := blk_frozen BS.out 6
        have z7 : World.frozen? wr ⟨g, 7, none⟩ = false := blk_frozen BS.out 7
        have z8 : World.frozen? wr ⟨g, 8, none⟩ = false := blk_frozen BS.out 8
        have z9 : World.frozen? wr ⟨g, 9, none⟩ = false := blk_frozen BS.out 9
        have z10 : World.frozen? wr ⟨g, 10, none⟩ = false := blk_frozen BS.out 10
        have z11 : World.frozen? wr ⟨g, 11, none⟩ = false := blk_frozen BS.out 11
        clear hlt hgg hkk hkb
        obtain ⟨nl, hnl⟩ : ∃ l : List Int, l = s.p ++ bs.take kk ++ [x] := ⟨_, rfl⟩
        have NL := Aside0.mk hnl
        clear hnl
        have LEN := Aside0.mk (show (s.p ++ bs.take kk).length ≤ 2000000 by simp only [List.length_append, List.length_map, List.length_take]; omega)
        have SG := Aside0.mk (i8_sgn ⟨hx0, hx1⟩)
        go_upto_region 5 with (first | ((with_reducible refine gate_builtin (b := .append) (xs := #[.tmp 24, .tmp 27]) rfl ?_); at_builtin; refine Kd.R_append (Kd.int .i64) (w0 := w2) base rfl (.tmp 24) (.tmp 27) 28 3 (.int .i64 0) 8 rfl Try.underlying28 (by kernel_rfl) rfl (by decide) (by omega) vp (s.p ++ bs.take kk) (x) [.int .i64 (x)] (fun _ => True) (fun _ => False) rfl rfl ?aP (fun _ hk => hk.elim) ?aF ?aO ?aB ?aS ?aL ?_; (case aP => exact rfl); (case aB => exact HBB.out); (case aF => exact fun _ _ => trivial); (case aO => exact OW.out.p); (case aS => exact BASE.out); (case aL => have := LEN.out; omega); intro v1 w5 ho hb hg hat_; rw [← NL.out] at ho; (obtain ⟨A1, c1, ee⟩ := Kd.R_slice ho; subst ee); have hfr := (Fr.refl [3] _).grown hg (fun k hk => by obtain ⟨cs, hcs⟩ := Kd.R_typed OW.out.p k hk; exact ⟨cs, 3, _, hcs, by decide⟩); have n1 := Aside0.mk (blk_grown BS.out hg (Kd.R_ne OW.out.p BS.out (by decide))); have op := Aside0.mk ho; have of := Aside0.mk (R_frN OW.out.f hfr (by decide)); have od := Aside0.mk (R_frN OW.out.d hfr (by decide)); have oa := Aside0.mk (R_frN OW.out.a hfr (by decide)); have n3 := Aside0.mk hb; have n4 := Aside0.mk (HFR.out.trans (hfr.mono (by simp))); clear HFR; have HFR := n4; clear n4; clear BS HBB OW ho hb hg hat_ hfr p0 z0 p1 z1 p2 z2 p3 z3 p4 z4 p5 z5 p6 z6 p7 z7 p8 z8 p9 z9 p10 z10 p11 z11; have BS := n1; have HBB := n3; clear n1 n3; have p11 := (blk_cell BS.out 11).trans rfl; have z11 := blk_frozen BS.out 11))
        have bs := blk_put BS.out 11 (.slice A1 nl.length c1) (cs' := #[.slice A0 l0.length c0, .int .i64 (s.at_ : Nat), .int .i64 s.c.f0, .int .i64 s.c.f1, .int .i64 s.c.f2, .int .i64 s.c.f3, .int .i64 s.c.f4, .int .i64 s.c.f5, vf, vd, va, .slice A1 nl.length c1]) rfl
        have hs : Fr [53] w5 (w5.setCell ⟨g, 11, none⟩ (.slice A1 nl.length c1)) := (Fr.refl _ _).set BS.out (by decide) _
        have hx := set_base (j := 11) (v := .slice A1 nl.length c1) HBB.out GE.out
        have HG := Aside0.mk (show IsG base (w5.setCell ⟨g, 11, none⟩ (.slice A1 nl.length c1)) g A0 c0 l0 { s with p := nl } from ⟨GE.out, Nat.le_trans BASE0.out hx.size, hlc, hlm, hat, CB0.out.step hx, (vf), (vd), (va), (.slice A1 nl.length c1), bs, R_frN of.out hs (by decide), R_frN od.out hs (by decide), R_frN oa.out hs (by decide), R_frN op.out hs (by decide)⟩)
        have n4 := Aside0.mk (HFR.out.trans (hs.mono (by simp)))
        clear HFR
        have HFR := n4
        clear n4
        have n1 := Aside0.mk hx
        clear HBB bs hs hx BS of od oa op p11 z11
        have HBB := n1
        clear n1
        generalize World.setCell w5 ⟨g, 11, none⟩ (.slice A1 nl.length c1) = w6 at HG HBB HFR ⊢
        go_wp2
        go_roundg (n - (kk + 1))
        case measure => have := HLT.out; have := HGG.out; omega
        case rel => exact ⟨kk + 1, HLT.out, Nat.le_refl _, by have := HLT.out; have := NB.out; go_num, ⟨by have := HG.out; rw [TK.out, ← List.append_assoc, ← NL.out]; exact this⟩, HBB, HFR⟩
end Go.Proofs.Ythfkgnkojhocbaa.S
end
section
namespace Go.Proofs.Ythfkgnkojhocbaa.S
open Go Go.RowKit Go.Proofs.YthfkgnkojhocbaaW.PrintWords Go.Proofs.YthfkgnkojhocbaaW.PrintLast Go.Proofs.YthfkgnkojhocbaaW.PrintMore
attribute [local go_sem] max2_int min2_int max_two min_two max_three min_three max_four min_four
set_option linter.unusedVariables false
set_option linter.unusedSimpArgs false
theorem countF_ok {l : List Int} {i : Nat} {least most n : Int} {a : Nat} (hb : isB l) (h : countF l i least most = (n, 0, a)) : 0 ≤ n ∧ n ≤ 255 ∧ a = i + 1 ∧ (least ≤ n ∧ n ≤ most) := by
  unfold countF at h
  split at h
  · injection h with h1 h2; injection h2 with h2 h3; omega
  · split at h
    · injection h with h1 h2; injection h2 with h2 h3; omega
    · injection h with h1 h2
      injection h2 with h2 h3
      rename_i ha hc
      have hi : i < l.length := by omega
      have e : l.getD i 0 = l[i] := by simp [hi]
      have := hb _ (List.getElem_mem hi)
      rw [e] at h1 hc
      omega
def drawsF (l : List Int) (s : Rd) : Int × Rd :=
  if (countF l s.at_ 0 255).2.1 ≠ 0 then ((countF l s.at_ 0 255).2.1, { s with at_ := (countF l s.at_ 0 255).2.2 })
  else if l.length < (countF l s.at_ 0 255).2.2 + (countF l s.at_ 0 255).1.toNat then (9, { s with at_ := l.length })
  else (0, { s with at_ := (countF l s.at_ 0 255).2.2 + (countF l s.at_ 0 255).1.toNat, d := (l.drop (countF l s.at_ 0 255).2.2).take (countF l s.at_ 0 255).1.toNat })
set_option maxHeartbeats 8000000 in
set_option maxRecDepth 100000 in
theorem clone8 (A0 : Option Addr) (c0 : Nat) (l0 : List Int) (w : World) (hr0 : Kd.C (Kd.int .u8) w A0 l0.length l0) (hlim : l0.length ≤ 1000000) :
    Calls Try.prog 44 #[.slice A0 l0.length c0] w fun e w' => ∃ v0_ : Value, e = .returned v0_ ∧ Kd.R (Kd.int .u8) 5 w' w.heap.size (fun _ => True) v0_ l0 ∧ Below w.heap.size w w' := by
  have heq := fun (W : World) => Lib.run_eql_slice_nil (P := Try.prog) W 22 5 A0 l0.length c0 0 0 Try.underlying22
  cases A0 with
  | none =>
    have hn : l0 = [] := by
      rcases Nat.eq_zero_or_pos l0.length with h | h
      · exact List.eq_nil_of_length_eq_zero h
      · obtain ⟨ad, h', _⟩ := hr0.2.2 h
        cases h'
    subst hn
    clear hr0 hlim
    simp only [Option.isNone_none, List.length_nil] at heq
    go_enter Try.func44, Try.ntmps44
    go_wp2
    go_ret
    exact ⟨_, rfl, Kd.R_nil _ _ _ _ _, Below.refl _ _⟩
  | some ad =>
    simp only [Option.isNone_some] at heq
    have HR1 := Aside0.mk hr0
    have HL := Aside0.mk hlim
    have HB := Aside0.mk (Below.refl w.heap.size w)
    clear hr0 hlim
    go_enter Try.func44, Try.ntmps44
    go_wp2_with (first | ((with_reducible refine gate_dst (N := 5) rfl ?_); refine Kd.R_lit (Kd.int .u8) _ 5 ?hg (N := 5) ?hd (xs := ([] : List Int)) (inner := []) (ok := fun _ => True) (okp := fun _ => True) ?hr ?hp (fun _ hk => hk) trivial (Below.refl _ _) (Nat.le_refl _) (by simp) ?_; (case hd => rfl); (case hg => rfl); (case hr => first | (go_simp; done) | (go_simp; rfl)); (case hp => exact (Reps.none _ _)); intro v5 w4 ho5 hb hg_ hnew_; clear hg_ hnew_; have n_HB := Aside0.mk (below_step HB.out hb); have n_HR1 := Aside0.mk (Kd.C_below HR1.out hb); have n_HO5 := Aside0.mk (Kd.R_lower ho5 (below_size HB.out)); clear HB HR1; have HB := n_HB; clear n_HB; have HR1 := n_HR1; clear n_HR1; have HO5 := n_HO5; clear n_HO5; clear hb ho5) | ((with_reducible refine gate_builtin (b := .append) (xs := #[.tmp 5, .tmp 6]) rfl ?_); at_builtin; refine Kd.R_append_rows (Kd.int .u8) (w0 := w) w.heap.size rfl (.tmp 5) (.tmp 6) 22 5 (.int .u8 0) 1 rfl Try.underlying22 (by kernel_rfl) rfl (by decide) (by omega) v5 ([] : List Int) l0 _ _ _ (fun _ => True) (fun _ => False) rfl rfl ?aO ?aR (fun _ _ h => h) (fun _ h => h.elim) ?aF ?aB ?aS ?aL ?_; (case aR => exact HR1.out); (case aB => exact HB.out); (case aF => exact (fun _ _ => trivial)); (case aO => exact HO5.out); (case aS => exact below_size HB.out); (case aL => have := HL.out; simp only [List.length_nil]; omega); intro v7 w5 ho hb hg hat; have n0_ := Aside0.mk hb; have n1_ := Aside0.mk ho; clear HB; have HB := n0_; have HO7 := n1_; clear n0_ n1_ ho hb hg hat))
    go_ret
    exact ⟨_, rfl, by simpa using HO7.out, HB.out⟩
set_option maxHeartbeats 8000000 in
set_option maxRecDepth 100000 in
theorem draws_calls (base g : Nat) (A0 : Option Addr) (c0 : Nat) (l0 : List Int) (s : Rd) (w : World) (h : IsG base w g A0 c0 l0 s) (hby : isB l0) :
    Calls Try.prog 23 #[.pointer (some ⟨g, 0, none⟩)] w fun e w' => RdOk base g A0 c0 l0 (drawsF l0 s) w e w' := by
  have HG := Aside0.mk h
  have HFR := Aside0.mk (Fr.refl FT w)
  have HBB := Aside0.mk (Below.refl base w)
  have HX := Aside0.mk hby
  have BASE0 := Aside0.mk h.2.1
  have CB0 := Aside0.mk h.2.2.2.2.2.1
  have hlm : l0.length ≤ 1000000 := h.2.2.2.1
  have hlc : l0.length ≤ c0 := h.2.2.1
  clear h hby
  obtain ⟨⟨cn, ce, ca⟩, hcf⟩ : ∃ p, countF l0 s.at_ 0 255 = p := ⟨_, rfl⟩
  have CF := Aside0.mk hcf
  by_cases hce : ce = 0
  rotate_left
  · have E := Aside0.mk (show drawsF l0 s = (ce, { s with at_ := ca }) by unfold drawsF; rw [CF.out]; exact if_pos hce)
    have hcb : (ce != 0) = true := by simp [hce]
    clear hcf
    go_enter Try.func23, Try.ntmps23
    go_wp2_with (first | ((with_reducible refine gate_callee (f := 42) rfl ?_); refine goesL_ (some 9) rfl rfl Try.func42 (by kernel_rfl) rfl #[.pointer (some ⟨g, 0, none⟩), .int .i64 0, .int .i64 255] rfl (by (try simp only [List.map_toArray, List.map_cons, List.map_nil]); first | done | rfl | (simp only [List.length_drop, List.length_take]; rfl)) ?_; (refine (count_calls base g 0 255 A0 c0 l0 s _ HG.out HX.out).mono ?_); rintro e w2 hco; obtain ⟨he, hg, hb, hfr⟩ := hco; rw [CF.out] at he hg; subst he; refine ⟨_, rfl, ?_⟩; clear HG; have HG := Aside0.mk hg; have n2 := Aside0.mk (HBB.out.trans hb); clear HBB; have HBB := n2; clear n2 hg hb; have n3 := Aside0.mk (HFR.out.trans (hfr.mono (by simp))); clear HFR hfr; have HFR := n3; clear n3))
    go_ret
    exact ⟨by rw [E.out]; rfl, by rw [E.out]; exact HG.out, HBB.out, HFR.out⟩
  · subst hce
    obtain ⟨hc0, hc1, hc2, hc3⟩ := countF_ok HX.out hcf
    obtain ⟨n, rfl⟩ := Int.eq_ofNat_of_zero_le hc0
    have hn : n ≤ 1000000 := by omega
    clear hcf
    by_cases hs : l0.length < ca + n
    · have E := Aside0.mk (show drawsF l0 s = (9, { s with at_ := l0.length }) by unfold drawsF; rw [CF.out]; simp only [ne_eq, not_true_eq_false, if_false]; exact if_pos (by simpa using hs))
      go_enter Try.func23, Try.ntmps23
      go_wp2_with (first | ((with_reducible refine gate_callee (f := 42) rfl ?_); refine goesL_ (some 9) rfl rfl Try.func42 (by kernel_rfl) rfl #[.pointer (some ⟨g, 0, none⟩), .int .i64 0, .int .i64 255] rfl (by (try simp only [List.map_toArray, List.map_cons, List.map_nil]); first | done | rfl | (simp only [List.length_drop, List.length_take]; rfl)) ?_; (refine (count_calls base g 0 255 A0 c0 l0 s _ HG.out HX.out).mono ?_); rintro e w2 hco; obtain ⟨he, hg, hb, hfr⟩ := hco; rw [CF.out] at he hg; subst he; refine ⟨_, rfl, ?_⟩; clear HG; have HG := Aside0.mk hg; have n2 := Aside0.mk (HBB.out.trans hb); clear HBB; have HBB := n2; clear n2 hg hb; have n3 := Aside0.mk (HFR.out.trans (hfr.mono (by simp))); clear HFR hfr; have HFR := n3; clear n3) | ((with_reducible refine gate_callee (f := 41) rfl ?_); refine goesL_ (some 18) rfl rfl Try.func41 (by kernel_rfl) rfl #[.pointer (some ⟨g, 0, none⟩), .int .i64 ((n : Nat) : Int)] rfl (by (try simp only [List.map_toArray, List.map_cons, List.map_nil]); first | done | rfl | (simp only [List.length_drop, List.length_take]; rfl)) ?_; (refine (take_short base g n A0 c0 l0 { s with at_ := ca } _ HG.out hs (by omega)).mono ?_); rintro e w3 ⟨rfl, hg, hb, hfr⟩; refine ⟨_, rfl, ?_⟩; skip; clear HG; have HG := Aside0.mk hg; have n2 := Aside0.mk (HBB.out.trans hb); clear HBB; have HBB := n2; clear n2 hg hb; have n3 := Aside0.mk (HFR.out.trans (hfr.mono (by simp))); clear HFR hfr; have HFR := n3; clear n3))
      go_ret
      exact ⟨by rw [E.out]; rfl, by rw [E.out]; exact HG.out, HBB.out, HFR.out⟩
    · have hsn : ca + n ≤ l0.length := by omega
      obtain ⟨bs, hbs⟩ : ∃ bs, (l0.drop ca).take n = bs := ⟨_, rfl⟩
      have hbl : bs.length = n := by rw [← hbs, List.length_take, List.length_drop]; omega
      have HBS := Aside0.mk hbs
      have HBL := Aside0.mk hbl
      have E := Aside0.mk (show drawsF l0 s = (0, { s with at_ := ca + n, d := bs }) by unfold drawsF; rw [CF.out]; simp only [ne_eq, not_true_eq_false, if_false]; rw [if_neg (by simpa using hs), ← HBS.out]; rfl)
      clear hbs hbl hs
      go_enter Try.func23, Try.ntmps23
      go_upto_region 7 with (first | ((with_reducible refine gate_callee (f := 42) rfl ?_); refine goesL_ (some 9) rfl rfl Try.func42 (by kernel_rfl) rfl #[.pointer (some ⟨g, 0, none⟩), .int .i64 0, .int .i64 255] rfl (by (try simp only [List.map_toArray, List.map_cons, List.map_nil]); first | done | rfl | (simp only [List.length_drop, List.length_take]; rfl)) ?_; (refine (count_calls base g 0 255 A0 c0 l0 s _ HG.out HX.out).mono ?_); rintro e w2 hco; obtain ⟨he, hg, hb, hfr⟩ := hco; rw [CF.out] at he hg; subst he; refine ⟨_, rfl, ?_⟩; clear HG; have HG := Aside0.mk hg; have n2 := Aside0.mk (HBB.out.trans hb); clear HBB; have HBB := n2; clear n2 hg hb; have n3 := Aside0.mk (HFR.out.trans (hfr.mono (by simp))); clear HFR hfr; have HFR := n3; clear n3) | ((with_reducible refine gate_callee (f := 41) rfl ?_); refine goesL_ (some 18) rfl rfl Try.func41 (by kernel_rfl) rfl #[.pointer (some ⟨g, 0, none⟩), .int .i64 ((n : Nat) : Int)] rfl (by (try simp only [List.map_toArray, List.map_cons, List.map_nil]); first | done | rfl | (simp only [List.length_drop, List.length_take]; rfl)) ?_; (refine (take_ok base g n A0 c0 l0 { s with at_ := ca } _ HG.out hsn).mono ?_); rintro e w3 hta; obtain ⟨A, c, he, hnc, hcb, hg, hb, hfr⟩ := hta; subst he; refine ⟨_, rfl, ?_⟩; skip; have CA := Aside0.mk hcb; have NC := Aside0.mk hnc; clear HG hcb hnc; have HG := Aside0.mk hg; have n2 := Aside0.mk (HBB.out.trans hb); clear HBB; have HBB := n2; clear n2 hg hb; have n3 := Aside0.mk (HFR.out.trans (hfr.mono (by simp))); clear HFR hfr; have HFR := n3; clear n3))
      have hca := CA.out.now
      rw [HBS.out] at hca
      have HCA := Aside0.mk hca
      clear hca CA
      obtain ⟨hge, hbs, hlc, hlm, hat, hcb, vf, vd, va, vp, hg0, hown⟩ := HG.out
      have BS := Aside0.mk hg0
      have CBw := Aside0.mk hcb
      have OW := Aside0.mk hown
      have GE := Aside0.mk hge
      have BASE := Aside0.mk hbs
      clear hbs hcb hg0 hown hge
      go_wp2_with (first | ((with_reducible refine gate_callee (f := 44) rfl ?_); refine goesL_ (some 25) rfl rfl Try.func44 (by kernel_rfl) rfl #[.slice A n c] rfl (by (try simp only [List.map_toArray, List.map_cons, List.map_nil]); first | done | rfl | (simp only [List.length_drop, List.length_take]; rfl)) ?_; (have hcl := clone8 A c bs _ HCA.out (by have := HBL.out; omega)); rw [HBL.out] at hcl; refine hcl.mono ?_; rintro e w4 ⟨v8, rfl, ho, hb⟩; refine ⟨_, rfl, ?_⟩; (obtain ⟨A1, c1, ee⟩ := Kd.R_slice ho; subst ee); have od := Aside0.mk (Kd.R_lower ho BASE.out); have n1 := Aside0.mk (OW.out.below hb); have n2 := Aside0.mk (blk_below BS.out hb); have n3 := Aside0.mk (HBB.out.trans (hb.mono BASE.out)); have n4 := Aside0.mk (HFR.out.below hb); clear HFR; have HFR := n4; clear n4; clear OW BS HBB ho hb hcl; have OW := n1; have BS := n2; have HBB := n3; clear n1 n2 n3; have p9 := (blk_cell BS.out 9).trans rfl; have z9 := blk_frozen BS.out 9))
      go_ret
      have bs9 := blk_put BS.out 9 (.slice A1 bs.length c1) (cs' := #[.slice A0 l0.length c0, .int .i64 (ca + n : Nat), .int .i64 s.c.f0, .int .i64 s.c.f1, .int .i64 s.c.f2, .int .i64 s.c.f3, .int .i64 s.c.f4, .int .i64 s.c.f5, vf, .slice A1 bs.length c1, va, vp]) rfl
      have hs : Fr [53] w4 (w4.setCell ⟨g, 9, none⟩ (.slice A1 bs.length c1)) := (Fr.refl _ _).set BS.out (by decide) _
      have hx := set_base (j := 9) (v := .slice A1 bs.length c1) HBB.out GE.out
      refine ⟨by rw [E.out]; rfl, ?_, hx, HFR.out.trans (hs.mono (by simp))⟩
      rw [E.out]
      exact ⟨GE.out, Nat.le_trans BASE0.out hx.size, hlc, hlm, hat, CB0.out.step hx, vf, .slice A1 bs.length c1, va, vp, bs9, R_frN OW.out.f hs (by decide), R_frN od.out hs (by decide), R_frN OW.out.a hs (by decide), R_frN OW.out.p hs (by decide)⟩
end Go.Proofs.Ythfkgnkojhocbaa.S
end
section
namespace Go.Proofs.Ythfkgnkojhocbaa.S
open Go.RowKit Go.Proofs.YthfkgnkojhocbaaW.PrintWords Go.Proofs.YthfkgnkojhocbaaW.PrintLast Go.Proofs.YthfkgnkojhocbaaW.PrintMore
attribute [local go_sem] max2_int min2_int max_two min_two max_three min_three max_four min_four
set_option linter.unusedVariables false
set_option linter.unusedSimpArgs false
/-- May an operation be (the program's way). -/
def okB (o : S80) (n : Int) : Bool :=
  if o.f0 = 1 ∨ o.f0 = 2 ∨ o.f0 = 5 then decide (0 ≤ o.f1) && decide (o.f1 < n) && decide (o.f2 = 0)
  else if o.f0 = 3 ∨ o.f0 = 4 then decide (o.f1 = 0) && decide (-128 ≤ o.f2) && decide (o.f2 ≤ 127) else false
theorem lang_Ok_f (o : S80) (n : Int) : lang_Ok.f o.f0 o.f1 o.f2 n = some (okB o n) := by
  obtain ⟨a, b, c⟩ := o
  simp only [lang_Ok.f, lang_object.f, okB]
  by_cases h1 : a = 1
  · subst h1; simp; by_cases h : 0 ≤ b <;> by_cases h' : b < n <;> simp [h, h'] <;> rfl
  by_cases h2 : a = 2
  · subst h2; simp; by_cases h : 0 ≤ b <;> by_cases h' : b < n <;> simp [h, h'] <;> rfl
  by_cases h5 : a = 5
  · subst h5; simp; by_cases h : 0 ≤ b <;> by_cases h' : b < n <;> simp [h, h'] <;> rfl
  have h5' : (a == 5) = false := by simp [h5]
  by_cases h3 : a = 3
  · subst h3; simp; by_cases h : b = 0 <;> by_cases h' : -128 ≤ c <;> simp [h, h']
  by_cases h4 : a = 4
  · subst h4; simp; by_cases h : b = 0 <;> by_cases h' : -128 ≤ c <;> simp [h, h']
  simp [h1, h2, h3, h4, h5, h5']
def lang_Right.f (l0 : List (S80)) (a1 : Int) : Option (Bool) := some (decide (1 ≤ l0.length) && decide (l0.length ≤ 8) && l0.all (okB · a1))
set_option maxHeartbeats 8000000 in
theorem lang_Right.clo (a1 : Int) (o : S80) (B : Nat) (w : World) (hc : w.cell? ⟨B, 0, none⟩ = some (.int .i64 a1)) :
    Calls Try.prog 60 #[.agg #[.int .i64 o.f0, .int .i64 o.f1, .int .i64 o.f2], .pointer (some ⟨B, 0, none⟩)] w fun e w' => e = .returned (.bool (!(okB o a1))) ∧ Below w.heap.size w w' := by
  have hu80 := Try.underlying80
  have hB := World.block_lt_of_cell? w _ hc
  have hne : B ≠ w.heap.size := by simp at hB; omega
  have H := lang_Ok.calls o.f0 o.f1 o.f2 a1 _ (w.alloc (.cells #[.int .i64 o.f0, .int .i64 o.f1, .int .i64 o.f2] 80)) (lang_Ok_f o a1)
  generalize okB o a1 = b at H ⊢
  go_enter Try.func60, Try.ntmps60
  go_wp2_with (go_at_call 61; refine H.mono ?_; rintro e w' ⟨rfl, hb'⟩)
  go_ret
  exact ⟨rfl, ((Below.refl _ w).alloc (Nat.le_refl _) _).trans (hb'.mono (by simp))⟩
/-- The place of the first that may not be, or -1. -/
def idxBad (a1 : Int) (l : List S80) : Int := match l.findIdx? (fun o => !(okB o a1)) with | some i => (i : Int) | none => -1
theorem idxBad_hit (a1 : Int) (l : List S80) (k : Nat) (hk : k < l.length) (h : okB l[k] a1 = false) (hb : ∀ j (hj : j < k), okB (l[j]'(by omega)) a1 = true) : idxBad a1 l = k := by
  have : l.findIdx? (fun o => !(okB o a1)) = some k := by
    rw [List.findIdx?_eq_some_iff_getElem]
    exact ⟨hk, by simp [h], fun j hj => by simp [hb j hj]⟩
  simp [idxBad, this]
theorem idxBad_miss (a1 : Int) (l : List S80) (hb : ∀ j (hj : j < l.length), okB (l[j]'(by omega)) a1 = true) : idxBad a1 l = -1 := by
  have : l.findIdx? (fun o => !(okB o a1)) = none := by
    rw [List.findIdx?_eq_none_iff]
    intro x hx
    obtain ⟨i, hi, rfl⟩ := List.getElem_of_mem hx
    simp [hb i hi]
  simp [idxBad, this]
theorem idxBad_all (a1 : Int) (l : List S80) : decide (0 ≤ idxBad a1 l) = !(l.all (okB · a1)) := by
  unfold idxBad
  split
  · rename_i i h
    rw [List.findIdx?_eq_some_iff_getElem] at h
    obtain ⟨hi, h1, _⟩ := h
    have : l.all (okB · a1) = false := by
      rw [List.all_eq_false]
      exact ⟨l[i], List.getElem_mem hi, by simpa using h1⟩
    simp [this]
  · rename_i h
    rw [List.findIdx?_eq_none_iff] at h
    have : l.all (okB · a1) = true := by
      rw [List.all_eq_true]
      intro x hx
      simpa using h x hx
    simp [this]
set_option maxHeartbeats 8000000 in
theorem lang_Right.idx (A0 : Option Addr) (c0 : Nat) (l0 : List S80) (a1 : Int) (B : Nat) (w : World) (hr0 : Kd.C k80 w A0 l0.length l0) (hc : w.cell? ⟨B, 0, none⟩ = some (.int .i64 a1)) :
    Calls Try.prog 62 #[.slice A0 l0.length c0, .func (.func 60) #[] #[.pointer (some ⟨B, 0, none⟩)]] w fun e w' => e = .returned (.int .i64 (idxBad a1 l0)) ∧ Below w.heap.size w w' := by
  have hu80 := Try.underlying80
  have hmax : l0.length ≤ 9223372036854775807 := Kd.C_max hr0
  have HR := Aside0.mk hr0
  have HC := Aside0.mk hc
  clear hr0 hc
  go_enter Try.func62, Try.ntmps62
  go_wp2
  go_loopg [5, 8] l0.length (fun gg _ s8 wr => ∃ kk : Nat, kk ≤ l0.length ∧ l0.length - kk ≤ gg ∧ s8 = .int .i64 kk ∧ Aside0 (Below w.heap.size w wr) ∧ Aside0 (∀ j (hj : j < kk) (hl : j < l0.length), okB l0[j] a1 = true))
  case atStart => exact ⟨0, Nat.zero_le _, by omega, rfl, ⟨Below.refl _ w⟩, ⟨fun j hj => absurd hj (Nat.not_lt_zero _)⟩⟩
  case round =>
    obtain ⟨kk, hkk, hg, rfl, HB, A⟩ := hrel
    by_cases hlt : kk < l0.length
    · have hltz : (kk : Int) < (l0.length : Int) := by omega
      obtain ⟨ad, ea, h0, h1, h2⟩ := at_T80 HR.out (kk : Int) (by omega) (by omega)
      subst ea
      replace h0 := (HB.out.cell (World.block_lt_of_cell? w _ h0)).trans h0
      replace h1 := (HB.out.cell (World.block_lt_of_cell? w _ h1)).trans h1
      replace h2 := (HB.out.cell (World.block_lt_of_cell? w _ h2)).trans h2
      have hcell := (HB.out.cell (World.block_lt_of_cell? w _ HC.out)).trans HC.out
      have hrd : rd_T80 l0 (kk : Int) = l0[kk] := by simp [rd_T80, hlt]
      rw [hrd] at h0 h1 h2
      simp only [Int.toNat_natCast] at h0 h1 h2
      have hcall := lang_Right.clo a1 l0[kk] B wr hcell
      clear hrd
      have HO : Aside0 (okB l0[kk] a1 = okB l0[kk] a1) := ⟨rfl⟩
      generalize hx : l0[kk] = x at h0 h1 h2 hcall
      have X := Aside0.mk hx
      clear hx
      cases hq : okB x a1 with
      | true =>
        rw [hq] at hcall
        go_wp2_with (go_at_call 60; refine hcall.mono ?_; rintro e w' ⟨rfl, hb'⟩)
        go_roundg (l0.length - (kk + 1))
        case measure => omega
        case rel =>
          refine ⟨kk + 1, by omega, by omega, by go_num, ⟨below_step HB.out hb'⟩, ⟨fun j hj hl => ?_⟩⟩
          by_cases e : j = kk
          · subst e
            rw [X.out]; exact hq
          · exact A.out j (by omega) hl
      | false =>
        rw [hq] at hcall
        go_wp2_with (go_at_call 60; refine hcall.mono ?_; rintro e w' ⟨rfl, hb'⟩)
        go_ret
        refine ⟨?_, below_step HB.out hb'⟩
        rw [idxBad_hit a1 l0 kk hlt (by rw [X.out]; exact hq) (fun j hj => A.out j hj (by omega))]; rfl
    · have hltz : ¬ (kk : Int) < (l0.length : Int) := by omega
      have : kk = l0.length := by omega
      subst this
      go_wp2
      go_ret
      refine ⟨?_, HB.out⟩
      rw [idxBad_miss a1 l0 (fun j hj => A.out j hj hj)]; rfl
set_option maxHeartbeats 8000000 in
theorem lang_Right.cont (A0 : Option Addr) (c0 : Nat) (l0 : List S80) (a1 : Int) (B : Nat) (w : World) (hr0 : Kd.C k80 w A0 l0.length l0) (hc : w.cell? ⟨B, 0, none⟩ = some (.int .i64 a1)) :
    Calls Try.prog 59 #[.slice A0 l0.length c0, .func (.func 60) #[] #[.pointer (some ⟨B, 0, none⟩)]] w fun e w' => e = .returned (.bool (!(l0.all (okB · a1)))) ∧ Below w.heap.size w w' := by
  have H := lang_Right.idx A0 c0 l0 a1 B w hr0 hc
  have E := Aside0.mk (idxBad_all a1 l0)
  clear hr0 hc
  generalize idxBad a1 l0 = r at H E
  go_enter Try.func59, Try.ntmps59
  go_wp2_with (go_at_call 62; refine H.mono ?_; rintro e w' ⟨rfl, hb'⟩)
  go_ret
  exact ⟨by rw [← E.out]; rfl, hb'⟩
set_option maxHeartbeats 8000000 in
set_option maxRecDepth 100000 in
theorem lang_Right.calls (A0 : Option Addr) (c0 : Nat) (l0 : List (S80)) (a1 : Int) (r : Bool) (w : World) (hr0 : Kd.C k80 w A0 l0.length l0) (_hc0 : l0.length ≤ c0) (h : lang_Right.f l0 a1 = some r) :
    Calls Try.prog 54 #[.slice A0 l0.length c0, .int .i64 a1] w fun e w' => e = .returned (.bool r) ∧ Below w.heap.size w w' := by
  obtain rfl := Option.some.inj h
  clear h
  have H := lang_Right.cont A0 c0 l0 a1 w.heap.size (w.alloc (.cells #[.int .i64 a1] 3)) (Kd.C_alloc hr0 _) (by simp)
  have HB : Below w.heap.size w (w.alloc (.cells #[.int .i64 a1] 3)) := (Below.refl _ w).alloc (Nat.le_refl _) _
  clear hr0
  by_cases h1 : 1 ≤ l0.length
  · by_cases h8 : l0.length ≤ 8
    · have e1 : decide ((1 : Int) ≤ (l0.length : Int)) = true := decide_eq_true (by omega)
      have e8 : decide ((l0.length : Int) ≤ 8) = true := decide_eq_true (by omega)
      have e1' : decide (1 ≤ l0.length) = true := decide_eq_true (by omega)
      have e8' : decide (l0.length ≤ 8) = true := decide_eq_true (by omega)
      have E := Aside0.mk (show (decide (1 ≤ l0.length) && decide (l0.length ≤ 8) && l0.all (okB · a1)) = l0.all (okB · a1) by rw [e1', e8']; rfl)
      rw [E.out]
      clear h1 h8
      generalize l0.all (okB · a1) = b at H
      go_enter Try.func54, Try.ntmps54
      go_wp2_with (go_at_call 59; refine H.mono ?_; rintro e w' ⟨rfl, hb'⟩)
      go_ret
      exact ⟨by simp, HB.trans (hb'.mono (by simp))⟩
    · have e1 : decide ((1 : Int) ≤ (l0.length : Int)) = true := decide_eq_true (by omega)
      have e8 : decide ((l0.length : Int) ≤ 8) = false := decide_eq_false (by omega)
      have e1' : decide (1 ≤ l0.length) = true := decide_eq_true (by omega)
      have e8' : decide (l0.length ≤ 8) = false := decide_eq_false (by omega)
      have E := Aside0.mk (show (decide (1 ≤ l0.length) && decide (l0.length ≤ 8) && l0.all (okB · a1)) = false by rw [e1', e8']; rfl)
      rw [E.out]
      clear H h1 h8
      go_enter Try.func54, Try.ntmps54
      go_wp2
      go_ret
      exact ⟨by simp, HB⟩
  · have e1 : decide ((1 : Int) ≤ (l0.length : Int)) = false := decide_eq_false (by omega)
    have e1' : decide (1 ≤ l0.length) = false := decide_eq_false (by omega)
    have E := Aside0.mk (show (decide (1 ≤ l0.length) && decide (l0.length ≤ 8) && l0.all (okB · a1)) = false by rw [e1']; rfl)
    rw [E.out]
    clear H h1
    go_enter Try.func54, Try.ntmps54
    go_wp2
    go_ret
    exact ⟨by simp, HB⟩
end Go.Proofs.Ythfkgnkojhocbaa.S
end
