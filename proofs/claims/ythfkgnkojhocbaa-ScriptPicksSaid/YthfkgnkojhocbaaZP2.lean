/- Part 2 of the proof of scriptPicks_holds. Conditions stand in each theorem; nothing is assumed. Gathered by a program of this session out of its texts and the kit's words. -/
import Derived.Test.YthfkgnkojhocbaaZP1
import Derived.Laws.EntriesVeiled
section
namespace Go.Proofs.Ythfkgnkojhocbaa.S
open Go Go.RowKit Go.Proofs.YthfkgnkojhocbaaW.PrintWords Go.Proofs.YthfkgnkojhocbaaW.PrintLast Go.Proofs.YthfkgnkojhocbaaW.PrintMore
attribute [local go_sem] max2_int min2_int max_two min_two max_three min_three max_four min_four
set_option linter.unusedVariables false
set_option linter.unusedSimpArgs false
theorem Own.mono {ok ok' : Nat → Prop} {base : Nat} {w : World} {s : Rd} {vf vd va vp : Value} (h : Own ok base w s vf vd va vp) (ho : ∀ k, ok k → ok' k) : Own ok' base w s vf vd va vp :=
  ⟨Kd.R_mono h.f ho, Kd.R_mono h.d ho, Kd.R_mono h.a ho, Kd.R_mono h.p ho⟩
theorem Own.small {ok : Nat → Prop} {base : Nat} {w : World} {s : Rd} {vf vd va vp : Value} (h : Own ok base w s vf vd va vp) : Own (fun k => ok k ∧ k < w.heap.size) base w s vf vd va vp :=
  ⟨Kd.R_mono (Kd.R_bound h.f) (fun k hk => ⟨hk.1, hk.2.2.1⟩), Kd.R_mono (Kd.R_bound h.d) (fun k hk => ⟨hk.1, hk.2.2.1⟩), Kd.R_mono (Kd.R_bound h.a) (fun k hk => ⟨hk.1, hk.2.2.1⟩), Kd.R_mono (Kd.R_bound h.p) (fun k hk => ⟨hk.1, hk.2.2.1⟩)⟩
theorem IsGo.small {ok : Nat → Prop} {base : Nat} {w : World} {g : Nat} {A0 : Option Addr} {c0 : Nat} {l0 : List Int} {s : Rd} (h : IsGo ok base w g A0 c0 l0 s) : IsGo (fun k => ok k ∧ k < w.heap.size) base w g A0 c0 l0 s := by
  obtain ⟨h1, h2, h3, h4, h5, h6, vf, vd, va, vp, h7, h8⟩ := h
  exact ⟨h1, h2, h3, h4, h5, h6, vf, vd, va, vp, h7, h8.small⟩
theorem IsGo.mono {ok ok' : Nat → Prop} {base : Nat} {w : World} {g : Nat} {A0 : Option Addr} {c0 : Nat} {l0 : List Int} {s : Rd} (h : IsGo ok base w g A0 c0 l0 s) (ho : ∀ k, ok k → ok' k) : IsGo ok' base w g A0 c0 l0 s := by
  obtain ⟨h1, h2, h3, h4, h5, h6, vf, vd, va, vp, h7, h8⟩ := h
  exact ⟨h1, h2, h3, h4, h5, h6, vf, vd, va, vp, h7, h8.mono ho⟩
theorem IsGo.back {ok : Nat → Prop} {N base : Nat} {w : World} {g : Nat} {A0 : Option Addr} {c0 : Nat} {l0 : List Int} {s : Rd} (h : IsGo (fun k => ok k ∧ k < N) base w g A0 c0 l0 s) : IsGo ok base w g A0 c0 l0 s := h.mono (fun k hk => hk.1)
theorem IsGo.all {ok : Nat → Prop} {base : Nat} {w : World} {g : Nat} {A0 : Option Addr} {c0 : Nat} {l0 : List Int} {s : Rd} (h : IsGo ok base w g A0 c0 l0 s) : IsG base w g A0 c0 l0 s := h.mono (fun _ _ => trivial)
/-- A row of another's, at blocks that are new since N, is longer: the reader stands. -/
theorem IsGo.grown {ok : Nat → Prop} {N base : Nat} {w w' : World} {g : Nat} {A0 : Option Addr} {c0 : Nat} {l0 : List Int} {s : Rd} (h : IsGo (fun k => ok k ∧ k < N) base w g A0 c0 l0 s) (hb : Below base w w') {row : Option Nat} (hg : w.grownBy w' row) (hrow : ∀ k, row = some k → N ≤ k) (hne : some g ≠ row) : IsGo (fun k => ok k ∧ k < N) base w' g A0 c0 l0 s := by
  obtain ⟨h1, h2, h3, h4, h5, h6, vf, vd, va, vp, h7, h8⟩ := h
  have mv : ∀ k, k < N → (base ≤ k ∧ k < w.heap.size) → w'.heap[k]? = w.heap[k]? := fun k hk hw => hg.block k hw.2 (fun e => by have := hrow k e.symm; omega)
  refine ⟨h1, Nat.le_trans h2 hg.size, h3, h4, h5, h6.step hb, vf, vd, va, vp, blk_grown h7 hg hne, ?_⟩
  exact ⟨Kd.R_mono (Kd.R_move (Kd.R_bound h8.f) (fun k hk => mv k hk.1.2 ⟨hk.2.1, hk.2.2.1⟩)) (fun k hk => hk.1), Kd.R_mono (Kd.R_move (Kd.R_bound h8.d) (fun k hk => mv k hk.1.2 ⟨hk.2.1, hk.2.2.1⟩)) (fun k hk => hk.1), Kd.R_mono (Kd.R_move (Kd.R_bound h8.a) (fun k hk => mv k hk.1.2 ⟨hk.2.1, hk.2.2.1⟩)) (fun k hk => hk.1), Kd.R_mono (Kd.R_move (Kd.R_bound h8.p) (fun k hk => mv k hk.1.2 ⟨hk.2.1, hk.2.2.1⟩)) (fun k hk => hk.1)⟩
/-- The operation at a place. -/
def opOf (l : List Int) (i : Nat) : S80 := ⟨l.getD i 0, l.getD (i + 1) 0, sgn (l.getD (i + 2) 0)⟩
theorem Fr.over {ts : List Nat} {w a b : World} (h : Fr ts w a) (k : Below w.heap.size a b) : Fr ts w b :=
  ⟨k.os.trans h.os, k.tape.trans h.tape, k.output.trans h.output, Nat.le_trans h.size k.size, fun i hi hn => (k.block i hi).trans (h.block i hi hn)⟩
theorem three (l : List Int) (i : Nat) (h : i + 3 ≤ l.length) (hb : isB l) : ∃ b0 b1 b2 : Int, (l.drop i).take 3 = [b0, b1, b2] ∧ opOf l i = ⟨b0, b1, sgn b2⟩ ∧ ((0 ≤ b0 ∧ b0 ≤ 255) ∧ (0 ≤ b1 ∧ b1 ≤ 255) ∧ (0 ≤ b2 ∧ b2 ≤ 255)) := by
  refine ⟨l[i], l[i + 1], l[i + 2], ?_, ?_, hb _ (List.getElem_mem _), hb _ (List.getElem_mem _), hb _ (List.getElem_mem _)⟩
  · rw [List.drop_eq_getElem_cons (by omega), List.drop_eq_getElem_cons (by omega), List.drop_eq_getElem_cons (by omega)]
    rfl
  · unfold opOf
    simp [show i < l.length by omega, show i + 1 < l.length by omega, show i + 2 < l.length by omega]
def opsF (l : List Int) (obj : Int) : Nat → Nat → List S80 → List S80 × Int × Nat
  | 0, a, acc => (acc, 0, a)
  | n + 1, a, acc => if l.length < a + 3 then ([], 9, l.length) else if okB (opOf l a) obj = false then ([], 3, a) else opsF l obj n (a + 3) (acc ++ [opOf l a])
def txnF (l : List Int) (obj : Int) (a : Nat) : List S80 × Int × Nat :=
  if (countF l a 1 8).2.1 ≠ 0 then ([], (countF l a 1 8).2.1, (countF l a 1 8).2.2) else opsF l obj (countF l a 1 8).1.toNat (countF l a 1 8).2.2 []
def TxnOk (ok : Nat → Prop) (base g : Nat) (A0 : Option Addr) (c0 : Nat) (l0 : List Int) (s : Rd) (w : World) (e : Ending) (w' : World) : Prop :=
  ∃ v, e = .returned (.tuple #[v, .int .i64 (txnF l0 s.c.f0 s.at_).2.1]) ∧ Kd.R k80 80 w' w.heap.size (fun _ => True) v (txnF l0 s.c.f0 s.at_).1 ∧ IsGo ok base w' g A0 c0 l0 { s with at_ := (txnF l0 s.c.f0 s.at_).2.2 } ∧ Below base w w' ∧ Fr [53] w w'
/-- lang.Get of one operation's bytes. -/
theorem get3 (b0 b1 b2 obj : Int) (h0 : 0 ≤ b0 ∧ b0 ≤ 255) (h1 : 0 ≤ b1 ∧ b1 ≤ 255) (h2 : 0 ≤ b2 ∧ b2 ≤ 255) :
    lang_Get.f 5 [b0, b1, b2] obj = some (if okB ⟨b0, b1, sgn b2⟩ obj = true then ([⟨b0, b1, sgn b2⟩], -1, 0) else ([], 0, 3)) := by
  have e0 : wrap64 b0 = b0 := by unfold wrap64; omega
  have e1 : wrap64 b1 = b1 := by unfold wrap64; omega
  have e2 : wrap64 (IntKind.i8.wrap b2) = sgn b2 := i8_sgn h2
  have r0 : rd [b0, b1, b2] 0 = b0 := rfl
  have r1 : rd [b0, b1, b2] 1 = b1 := rfl
  have r2 : rd [b0, b1, b2] 2 = b2 := rfl
  have w1 : wrap64 ((0 : Int) + 1) = 1 := by unfold wrap64; omega
  have w2 : wrap64 ((0 : Int) + 2) = 2 := by unfold wrap64; omega
  have w3 : wrap64 ((0 : Int) + 3) = 3 := by unfold wrap64; omega
  have hok := lang_Ok_f ⟨b0, b1, sgn b2⟩ obj
  unfold lang_Get.f lang_Get.l0
  simp only [List.length_cons, List.length_nil, w1, w2, w3, r0, r1, r2, e0, e1, e2]
  rw [if_pos (by decide), if_neg (by unfold wrap64; decide), if_pos (by decide), if_pos (by decide), if_pos (by decide), if_pos (by decide), if_pos (by decide)]
  simp only at hok
  rw [hok]
  simp only [Option.bind_some]
  by_cases hb : okB ⟨b0, b1, sgn b2⟩ obj = true
  · rw [if_pos hb, if_pos (by simp), if_pos hb]
    unfold lang_Get.l0
    rw [if_neg (by simp)]
    rfl
  · rw [if_neg hb, if_neg hb]
set_option maxHeartbeats 8000000 in
set_option maxRecDepth 100000 in
theorem txn_calls {ok : Nat → Prop} (base g : Nat) (A0 : Option Addr) (c0 : Nat) (l0 : List Int) (s : Rd) (w : World) (h : IsGo ok base w g A0 c0 l0 s) (hby : isB l0) :
    Calls Try.prog 43 #[.pointer (some ⟨g, 0, none⟩)] w fun e w' => TxnOk ok base g A0 c0 l0 s w e w' := by
  have HG := Aside0.mk (h.small)
  have HBB := Aside0.mk (Below.refl base w)
  have HFR := Aside0.mk (Fr.refl [53] w)
  have HX := Aside0.mk hby
  have hlm : l0.length ≤ 1000000 := h.2.2.2.1
  have BASE0 := Aside0.mk h.2.1
  clear h hby
  obtain ⟨⟨cn, ce, ca⟩, hcf⟩ : ∃ p, countF l0 s.at_ 1 8 = p := ⟨_, rfl⟩
  have CF := Aside0.mk hcf
  obtain ⟨⟨ro, re, ra⟩, hres⟩ : ∃ p, txnF l0 s.c.f0 s.at_ = p := ⟨_, rfl⟩
  have RES := Aside0.mk hres
  by_cases hce : ce = 0
  rotate_left
  · have hcb : (ce == 0) = false := by simp [hce]
    have E := Aside0.mk (show ((ro, re, ra) : List S80 × Int × Nat) = ([], ce, ca) by rw [← hres]; unfold txnF; rw [hcf]; exact if_pos hce)
    clear hcf hres
    go_enter Try.func43, Try.ntmps43
    go_wp2_with (first | ((with_reducible refine gate_callee (f := 42) rfl ?_); refine goesL_ (some 14) rfl rfl Try.func42 (by kernel_rfl) rfl #[.pointer (some ⟨g, 0, none⟩), .int .i64 1, .int .i64 8] rfl (by (try simp only [List.map_toArray, List.map_cons, List.map_nil]); first | done | rfl | (simp only [List.length_drop, List.length_take]; rfl)) ?_; (refine (count_calls base g 1 8 A0 c0 l0 s _ HG.out HX.out).mono ?_); rintro e w2 hco; obtain ⟨he, hg, hb, hfr⟩ := hco; rw [CF.out] at he hg; subst he; refine ⟨_, rfl, ?_⟩; clear HG; have HG := Aside0.mk hg; have n2 := Aside0.mk (HBB.out.trans hb); clear HBB; have HBB := n2; clear n2 hg hb; have n3 := Aside0.mk (HFR.out.trans hfr); clear HFR hfr; have HFR := n3; clear n3))
    go_loopg [4, 6, 7, 8, 9, 10, 11] 0 (fun gg s4 s6 _ _ _ _ _ wr => s4 = .int .i64 cn ∧ s6 = .slice none 0 0 ∧ wr = w2)
    case atStart => exact ⟨rfl, rfl, rfl⟩
    case round =>
      obtain ⟨rfl, rfl, rfl⟩ := hrel
      go_wp2
      go_ret2
      unfold TxnOk
      rw [RES.out, E.out]
      exact ⟨_, rfl, Kd.R_nil _ _ _ _ _, HG.out.back, HBB.out, HFR.out⟩
  · subst hce
    obtain ⟨hc0, hc1, hc2, hc3⟩ := countF_ok HX.out hcf
    obtain ⟨n, rfl⟩ := Int.eq_ofNat_of_zero_le hc0
    have hn8 : n ≤ 8 := by omega
    have E := Aside0.mk (show opsF l0 s.c.f0 n ca [] = (ro, re, ra) by rw [← hres]; unfold txnF; rw [hcf]; simp)
    clear hcf hres
    go_enter Try.func43, Try.ntmps43
    go_wp2_with (first | ((with_reducible refine gate_callee (f := 42) rfl ?_); refine goesL_ (some 14) rfl rfl Try.func42 (by kernel_rfl) rfl #[.pointer (some ⟨g, 0, none⟩), .int .i64 1, .int .i64 8] rfl (by (try simp only [List.map_toArray, List.map_cons, List.map_nil]); first | done | rfl | (simp only [List.length_drop, List.length_take]; rfl)) ?_; (refine (count_calls base g 1 8 A0 c0 l0 s _ HG.out HX.out).mono ?_); rintro e w2 hco; obtain ⟨he, hg, hb, hfr⟩ := hco; rw [CF.out] at he hg; subst he; refine ⟨_, rfl, ?_⟩; clear HG; have HG := Aside0.mk hg; have n2 := Aside0.mk (HBB.out.trans hb); clear HBB; have HBB := n2; clear n2 hg hb; have n3 := Aside0.mk (HFR.out.trans hfr); clear HFR hfr; have HFR := n3; clear n3))
    have HCA := Aside0.mk (show ca ≤ l0.length from HG.out.2.2.2.2.1)
    go_loopg [4, 6, 7, 8, 9, 10, 11] n (fun gg s4 s6 _ _ _ _ _ wr => ∃ (m a : Nat) (out : List S80) (A1 : Option Addr) (c1 : Nat), m ≤ gg ∧ s4 = .int .i64 m ∧ s6 = .slice A1 out.length c1 ∧ Aside0 (opsF l0 s.c.f0 m a out = (ro, re, ra)) ∧ Aside0 (out.length + m ≤ 8) ∧ Aside0 (Kd.R k80 80 wr w.heap.size (fun _ => True) (.slice A1 out.length c1) out) ∧ Aside0 (IsGo (fun k => ok k ∧ k < w.heap.size) base wr g A0 c0 l0 { s with at_ := a }) ∧ Aside0 (Below base w wr) ∧ Aside0 (Fr [53] w wr))
    case atStart => exact ⟨n, ca, [], none, 0, Nat.le_refl _, rfl, rfl, E, ⟨by simpa using hn8⟩, ⟨Kd.R_nil _ _ _ _ _⟩, HG, HBB, HFR⟩
    case round =>
      clear HG HBB HFR E
      obtain ⟨m, a, out, A1, c1, hgg, rfl, rfl, E, OL, HO, HG, HBB, HFR⟩ := hrel
      cases m with
      | zero =>
        have hmz : decide ((0 : Int) < ((0 : Nat) : Int)) = false := by decide
        go_wp2
        go_ret2
        have e := E.out
        unfold opsF at e
        unfold TxnOk
        rw [RES.out, ← e]
        exact ⟨_, rfl, HO.out, HG.out.back, HBB.out, HFR.out⟩
      | succ m =>
        have hmz : (0 : Int) < ((m + 1 : Nat) : Int) := by omega
        have hmp : ((m + 1 : Nat) : Int) - 1 = (m : Int) := by omega
        have hm8 : (m : Int) ≤ 8 := by have := OL.out; omega
        have HGG := Aside0.mk hgg
        clear hgg
        by_cases hs : l0.length < a + 3
        · have e := E.out
          unfold opsF at e
          rw [if_pos hs] at e
          go_wp2_with (first | ((with_reducible refine gate_callee (f := 41) rfl ?_); refine goesL_ (some 27) rfl rfl Try.func41 (by kernel_rfl) rfl #[.pointer (some ⟨g, 0, none⟩), .int .i64 ((3 : Nat) : Int)] rfl (by (try simp only [List.map_toArray, List.map_cons, List.map_nil]); first | done | rfl | (simp only [List.length_drop, List.length_take]; rfl)) ?_; (refine (take_short base g 3 A0 c0 l0 { s with at_ := a } _ HG.out hs (by omega)).mono ?_); rintro e w3 ⟨rfl, hg, hb, hfr⟩; refine ⟨_, rfl, ?_⟩; skip; clear HG; have HG := Aside0.mk hg; have n2 := Aside0.mk (HBB.out.trans hb); clear HBB; have HBB := n2; clear n2 hg hb; have n3 := Aside0.mk (HFR.out.trans hfr); clear HFR hfr; have HFR := n3; clear n3))
          go_ret2
          unfold TxnOk
          rw [RES.out, ← e]
          exact ⟨_, rfl, Kd.R_nil _ _ _ _ _, HG.out.back, HBB.out, HFR.out⟩
        · have hsn : a + 3 ≤ l0.length := by omega
          obtain ⟨b0, b1, b2, e1, e2, k0, k1, k2⟩ := three l0 a hsn HX.out
          have E1 := Aside0.mk e1
          have E2 := Aside0.mk e2
          clear e1 e2
          go_upto_region 8 with (first | ((with_reducible refine gate_callee (f := 41) rfl ?_); refine goesL_ (some 27) rfl rfl Try.func41 (by kernel_rfl) rfl #[.pointer (some ⟨g, 0, none⟩), .int .i64 ((3 : Nat) : Int)] rfl (by (try simp only [List.map_toArray, List.map_cons, List.map_nil]); first | done | rfl | (simp only [List.length_drop, List.length_take]; rfl)) ?_; (refine (take_ok base g 3 A0 c0 l0 { s with at_ := a } _ HG.out hsn).mono ?_); rintro e w3 hta; obtain ⟨A, c, he, hnc, hcb, hg, hb, hfr⟩ := hta; subst he; refine ⟨_, rfl, ?_⟩; have HO3 := Aside0.mk (R_frN HO.out hfr (by decide)); have CA := Aside0.mk hcb; have NC := Aside0.mk hnc; clear HG hcb hnc; have HG := Aside0.mk hg; have n2 := Aside0.mk (HBB.out.trans hb); clear HBB; have HBB := n2; clear n2 hg hb; have n3 := Aside0.mk (HFR.out.trans hfr); clear HFR hfr; have HFR := n3; clear n3))
          clear HO
          have HO := HO3
          clear HO3
          have hca := CA.out.now
          rw [E1.out] at hca
          have GC := Aside0.mk (⟨hca, NC.out⟩ : Kd.C (Kd.int .u8) w3 A [b0, b1, b2].length [b0, b1, b2] ∧ 3 ≤ c)
          clear hca CA NC
          obtain ⟨obj, hobj⟩ : ∃ o, s.c.f0 = o := ⟨_, rfl⟩
          have e := E.out
          unfold opsF at e
          rw [if_neg hs, E2.out, hobj] at e
          obtain ⟨hge, hbs, hlc, hlm, hat, hcb, vf, vd, va, vp, hg0, hown⟩ := HG.out
          have BS := Aside0.mk hg0
          have CBw := Aside0.mk hcb
          have OW := Aside0.mk hown
          have GE := Aside0.mk hge
          have BASE := Aside0.mk hbs
          clear hbs hcb hg0 hown hge
          have p0 : World.cell? w3 ⟨g, 0, none⟩ = some (.slice A0 l0.length c0) := (blk_cell BS.out 0).trans rfl
          have p1 : World.cell? w3 ⟨g, 1, none⟩ = some (.int .i64 ((a + 3 : Nat) : Int)) := (blk_cell BS.out 1).trans rfl
          have p2 : World.cell? w3 ⟨g, 2, none⟩ = some (.int .i64 s.c.f0) := (blk_cell BS.out 2).trans rfl
          have p3 : World.cell? w3 ⟨g, 3, none⟩ = some (.int .i64 s.c.f1) := (blk_cell BS.out 3).trans rfl
          have p4 : World.cell? w3 ⟨g, 4, none⟩ = some (.int .i64 s.c.f2) := (blk_cell BS.out 4).trans rfl
          have p5 : World.cell? w3 ⟨g, 5, none⟩ = some (.int .i64 s.c.f3) := (blk_cell BS.out 5).trans rfl
          have p6 : World.cell? w3 ⟨g, 6, none⟩ = some (.int .i64 s.c.f4) := (blk_cell BS.out 6).trans rfl
          have p7 : World.cell? w3 ⟨g, 7, none⟩ = some (.int .i64 s.c.f5) := (blk_cell BS.out 7).trans rfl
          have p8 : World.cell? w3 ⟨g, 8, none⟩ = some (vf) := (blk_cell BS.out 8).trans rfl
          have p9 : World.cell? w3 ⟨g, 9, none⟩ = some (vd) := (blk_cell BS.out 9).trans rfl
          have p10 : World.cell? w3 ⟨g, 10, none⟩ = some (va) := (blk_cell BS.out 10).trans rfl
          have p11 : World.cell? w3 ⟨g, 11, none⟩ = some (vp) := (blk_cell BS.out 11).trans rfl
          have z0 : World.frozen? w3 ⟨g, 0, none⟩ = false := blk_frozen BS.out 0
          have z1 : World.frozen? w3 ⟨g, 1, none⟩ = false := blk_frozen BS.out 1
          have z2 : World.frozen? w3 ⟨g, 2, none⟩ = false := blk_frozen BS.out 2
          have z3 : World.frozen? w3 ⟨g, 3, none⟩ = false := blk_frozen BS.out 3
          have z4 : World.frozen? w3 ⟨g, 4, none⟩ = false := blk_frozen BS.out 4
          have z5 : World.frozen? w3 ⟨g, 5, none⟩ = false := blk_frozen BS.out 5
          have z6 : World.frozen? w3 ⟨g, 6, none⟩ = false := blk_frozen BS.out 6
          have z7 : World.frozen? w3 ⟨g, 7, none⟩ = false := blk_frozen BS.out 7
          have z8 : World.frozen? w3 ⟨g, 8, none⟩ = false := blk_frozen BS.out 8
          have z9 : World.frozen? w3 ⟨g, 9, none⟩ = false := blk_frozen BS.out 9
          have z10 : World.frozen? w3 ⟨g, 10, none⟩ = false := blk_frozen BS.out 10
          have z11 : World.frozen? w3 ⟨g, 11, none⟩ = false := blk_frozen BS.out 11
          have p2o : World.cell? w3 ⟨g, 2, none⟩ = some (.int .i64 obj) := by rw [← hobj]; exact p2
          have HOBJ := Aside0.mk hobj
          clear p2 hobj hs
          cases hok : okB ⟨b0, b1, sgn b2⟩ obj with
          | false =>
            have LG := Aside0.mk ((get3 b0 b1 b2 obj k0 k1 k2).trans (by rw [hok, if_neg (by simp)]) : lang_Get.f 5 [b0, b1, b2] obj = some ([], 0, 3))
            rw [hok, if_pos rfl] at e
            have E3 := Aside0.mk e
            clear e
            go_upto_region 10 with (first | ((with_reducible refine gate_callee (f := 55) rfl ?_); refine goesL_ (some 40) rfl rfl Try.func55 (by kernel_rfl) rfl #[.slice A 3 c, .int .i64 obj] rfl (by (try simp only [List.map_toArray, List.map_cons, List.map_nil]); first | done | rfl | (simp only [List.length_drop, List.length_take]; rfl)) ?_; (refine (lang_Get.calls 5 A c [b0, b1, b2] obj [] (0) 3 _ GC.out.1 GC.out.2 LG.out).mono ?_); rintro e w4 ⟨v0_, rfl, hr, hb⟩; refine ⟨_, rfl, ?_⟩; (obtain ⟨A4, c4, ee⟩ := Kd.R_slice hr; subst ee); have HL4 := Aside0.mk hr; have n5 := Aside0.mk (blk_below BS.out hb); have n6 := Aside0.mk (OW.out.below hb); have n1 := Aside0.mk (HG.out.below hb); have n2 := Aside0.mk (HBB.out.trans (hb.mono HG.out.2.1)); have n3 := Aside0.mk (HFR.out.below hb); have n4 := Aside0.mk (Kd.R_below HO.out hb); clear HG HBB HFR HO; have HG := n1; have HBB := n2; have HFR := n3; have HO := n4; clear n1 n2 n3 n4; clear hr hb BS OW p0 z0 p1 z1 p3 z3 p4 z4 p5 z5 p6 z6 p7 z7 p8 z8 p9 z9 p10 z10 p11 z11 p2o z2; have BS := n5; have OW := n6; clear n5 n6))
            have p0 : World.cell? w4 ⟨g, 0, none⟩ = some (.slice A0 l0.length c0) := (blk_cell BS.out 0).trans rfl
            have p1 : World.cell? w4 ⟨g, 1, none⟩ = some (.int .i64 ((a + 3 : Nat) : Int)) := (blk_cell BS.out 1).trans rfl
            have p2 : World.cell? w4 ⟨g, 2, none⟩ = some (.int .i64 s.c.f0) := (blk_cell BS.out 2).trans rfl
            have p3 : World.cell? w4 ⟨g, 3, none⟩ = some (.int .i64 s.c.f1) := (blk_cell BS.out 3).trans rfl
            have p4 : World.cell? w4 ⟨g, 4, none⟩ = some (.int .i64 s.c.f2) := (blk_cell BS.out 4).trans rfl
            have p5 : World.cell? w4 ⟨g, 5, none⟩ = some (.int .i64 s.c.f3) := (blk_cell BS.out 5).trans rfl
            have p6 : World.cell? w4 ⟨g, 6, none⟩ = some (.int .i64 s.c.f4) := (blk_cell BS.out 6).trans rfl
            have p7 : World.cell? w4 ⟨g, 7, none⟩ = some (.int .i64 s.c.f5) := (blk_cell BS.out 7).trans rfl
            have p8 : World.cell? w4 ⟨g, 8, none⟩ = some (vf) := (blk_cell BS.out 8).trans rfl
            have p9 : World.cell? w4 ⟨g, 9, none⟩ = some (vd) := (blk_cell BS.out 9).trans rfl
            have p10 : World.cell? w4 ⟨g, 10, none⟩ = some (va) := (blk_cell BS.out 10).trans rfl
            have p11 : World.cell? w4 ⟨g, 11, none⟩ = some (vp) := (blk_cell BS.out 11).trans rfl
            have z0 : World.frozen? w4 ⟨g, 0, none⟩ = false := blk_frozen BS.out 0
            have z1 : World.frozen? w4 ⟨g, 1, none⟩ = false := blk_frozen BS.out 1
            have z2 : World.frozen? w4 ⟨g, 2, none⟩ = false := blk_frozen BS.out 2
            have z3 : World.frozen? w4 ⟨g, 3, none⟩ = false := blk_frozen BS.out 3
            have z4 : World.frozen? w4 ⟨g, 4, none⟩ = false := blk_frozen BS.out 4
            have z5 : World.frozen? w4 ⟨g, 5, none⟩ = false := blk_frozen BS.out 5
            have z6 : World.frozen? w4 ⟨g, 6, none⟩ = false := blk_frozen BS.out 6
            have z7 : World.frozen? w4 ⟨g, 7, none⟩ = false := blk_frozen BS.out 7
            have z8 : World.frozen? w4 ⟨g, 8, none⟩ = false := blk_frozen BS.out 8
            have z9 : World.frozen? w4 ⟨g, 9, none⟩ = false := blk_frozen BS.out 9
            have z10 : World.frozen? w4 ⟨g, 10, none⟩ = false := blk_frozen BS.out 10
            have z11 : World.frozen? w4 ⟨g, 11, none⟩ = false := blk_frozen BS.out 11
            have hp3 : ((a + 3 : Nat) : Int) - 3 = (a : Int) := by omega
            have ha9 : (a : Int) ≤ 1000000 := by omega
            go_wp2
            go_ret2
            have hs := HG.out.setAt a (by omega)
            unfold TxnOk
            rw [RES.out, ← E3.out]
            exact ⟨_, rfl, Kd.R_nil _ _ _ _ _, hs.1.back, HBB.out.trans hs.2, HFR.out.trans (HG.out.setAt_fr a)⟩
          | true =>
            have LG := Aside0.mk ((get3 b0 b1 b2 obj k0 k1 k2).trans (by rw [hok, if_pos rfl]) : lang_Get.f 5 [b0, b1, b2] obj = some ([⟨b0, b1, sgn b2⟩], -1, 0))
            rw [hok, if_neg (by simp)] at e
            obtain ⟨out2, ho2⟩ : ∃ l : List S80, l = out ++ [⟨b0, b1, sgn b2⟩] := ⟨_, rfl⟩
            rw [← ho2, ← HOBJ.out] at e
            have E3 := Aside0.mk e
            have O2 := Aside0.mk ho2
            clear e ho2
            go_upto_region 4 with (first | ((with_reducible refine gate_callee (f := 55) rfl ?_); refine goesL_ (some 40) rfl rfl Try.func55 (by kernel_rfl) rfl #[.slice A 3 c, .int .i64 obj] rfl (by (try simp only [List.map_toArray, List.map_cons, List.map_nil]); first | done | rfl | (simp only [List.length_drop, List.length_take]; rfl)) ?_; (refine (lang_Get.calls 5 A c [b0, b1, b2] obj [⟨b0, b1, sgn b2⟩] (-1) 0 _ GC.out.1 GC.out.2 LG.out).mono ?_); rintro e w4 ⟨v0_, rfl, hr, hb⟩; refine ⟨_, rfl, ?_⟩; (obtain ⟨A4, c4, ee⟩ := Kd.R_slice hr; subst ee); have HL4 := Aside0.mk hr; have n5 := Aside0.mk (blk_below BS.out hb); have n6 := Aside0.mk (OW.out.below hb); have n1 := Aside0.mk (HG.out.below hb); have n2 := Aside0.mk (HBB.out.trans (hb.mono HG.out.2.1)); have n3 := Aside0.mk (HFR.out.below hb); have n4 := Aside0.mk (Kd.R_below HO.out hb); clear HG HBB HFR HO; have HG := n1; have HBB := n2; have HFR := n3; have HO := n4; clear n1 n2 n3 n4; clear hr hb BS OW p0 z0 p1 z1 p3 z3 p4 z4 p5 z5 p6 z6 p7 z7 p8 z8 p9 z9 p10 z10 p11 z11 p2o z2; have BS := n5; have OW := n6; clear n5 n6) | ((with_reducible refine gate_builtin (b := .append) (xs := #[.tmp 54, .tmp 55]) rfl ?_); at_builtin; refine Kd.R_append_rows k80 (w0 := w4) w.heap.size rfl (.tmp 54) (.tmp 55) 61 80 (.agg #[.int .i64 0, .int .i64 0, .int .i64 0]) 24 rfl Try.underlying61 (by kernel_rfl) rfl (by decide) (by omega) (.slice A1 out.length c1) out [⟨b0, b1, sgn b2⟩] _ _ _ (fun _ => True) (fun _ => False) rfl rfl ?aO ?aR (fun _ _ h => h) (fun _ h => h.elim) ?aF ?aB ?aS ?aL ?_; (case aR => exact (show Kd.C k80 w4 A4 1 [⟨b0, b1, sgn b2⟩] from (Kd.R_reads' HL4.out).2.2)); (case aB => exact Below.refl _ _); (case aF => exact (fun _ _ => trivial)); (case aO => exact HO.out); (case aS => exact HFR.out.size); (case aL => have := OL.out; (try simp only [List.length_singleton]); omega); intro v7 w5 ho hb hg hat_; rw [← O2.out] at ho; (obtain ⟨A2, c2, ee⟩ := Kd.R_slice ho; subst ee); have hbb := hb.mono BASE0.out; have n1 := Aside0.mk (HG.out.grown hbb hg (Kd.R_base HO.out) (Kd.R_ne HO.out BS.out (by decide))); have n2 := Aside0.mk (HBB.out.trans hbb); have n3 := Aside0.mk (HFR.out.over hb); clear HG HBB HFR HO BS OW hb hbb hg hat_; have HG := n1; have HBB := n2; have HFR := n3; have HO := Aside0.mk ho; clear n1 n2 n3 ho))
            go_wp2
            go_roundg m
            case measure => have := HGG.out; omega
            case rel => exact ⟨m, a + 3, out2, A2, c2, Nat.le_refl _, by go_num, rfl, E3, ⟨by have := OL.out; rw [O2.out]; simp; omega⟩, HO, HG, HBB, HFR⟩
end Go.Proofs.Ythfkgnkojhocbaa.S
end
section
namespace Go.Proofs.Ythfkgnkojhocbaa.S
open Go Go.RowKit Go.Proofs.YthfkgnkojhocbaaW.PrintWords Go.Proofs.YthfkgnkojhocbaaW.PrintLast Go.Proofs.YthfkgnkojhocbaaW.PrintMore
attribute [local go_sem] max2_int min2_int max_two min_two max_three min_three max_four min_four
set_option linter.unusedVariables false
set_option linter.unusedSimpArgs false
def txnsF (l : List Int) (obj : Int) : Nat → Nat → List (List S80) → List (List S80) × Int × Nat
  | 0, a, acc => (acc, 0, a)
  | n + 1, a, acc => if (txnF l obj a).2.1 ≠ 0 then ([], (txnF l obj a).2.1, (txnF l obj a).2.2) else txnsF l obj n (txnF l obj a).2.2 (acc ++ [(txnF l obj a).1])
def allF (l : List Int) (obj : Int) : Nat → Nat → List (List (List S80)) → Int × Nat × List (List (List S80))
  | 0, a, al => (0, a, al)
  | t + 1, a, al => if (countF l a 0 6).2.1 ≠ 0 then ((countF l a 0 6).2.1, (countF l a 0 6).2.2, al)
    else if (txnsF l obj (countF l a 0 6).1.toNat (countF l a 0 6).2.2 []).2.1 ≠ 0 then ((txnsF l obj (countF l a 0 6).1.toNat (countF l a 0 6).2.2 []).2.1, (txnsF l obj (countF l a 0 6).1.toNat (countF l a 0 6).2.2 []).2.2, al)
    else allF l obj t (txnsF l obj (countF l a 0 6).1.toNat (countF l a 0 6).2.2 []).2.2 (al ++ [(txnsF l obj (countF l a 0 6).1.toNat (countF l a 0 6).2.2 []).1])
def allR (l : List Int) (s : Rd) : Int × Rd := ((allF l s.c.f0 s.c.f1.toNat s.at_ s.a).1, { s with at_ := (allF l s.c.f0 s.c.f1.toNat s.at_ s.a).2.1, a := (allF l s.c.f0 s.c.f1.toNat s.at_ s.a).2.2 })
set_option maxHeartbeats 8000000 in
set_option maxRecDepth 100000 in
theorem all_calls (base g : Nat) (A0 : Option Addr) (c0 : Nat) (l0 : List Int) (s : Rd) (w : World) (h : IsG base w g A0 c0 l0 s) (hby : isB l0) (hc0 : 0 ≤ s.c.f1) (hc1 : s.c.f1 ≤ 6) (hal : s.a.length ≤ 1000) :
    Calls Try.prog 22 #[.pointer (some ⟨g, 0, none⟩)] w fun e w' => RdOk base g A0 c0 l0 (allR l0 s) w e w' := by
  have HG := Aside0.mk h
  have HFR := Aside0.mk (Fr.refl FT w)
  have HBB := Aside0.mk (Below.refl base w)
  have HX := Aside0.mk hby
  have CB0 := Aside0.mk h.2.2.2.2.2.1
  have hlm : l0.length ≤ 1000000 := h.2.2.2.1
  have hlc : l0.length ≤ c0 := h.2.2.1
  obtain ⟨t, ht⟩ : ∃ t : Nat, s.c.f1 = t := ⟨s.c.f1.toNat, by omega⟩
  have ht6 : t ≤ 6 := by omega
  obtain ⟨⟨re, ra, rl⟩, hres⟩ : ∃ p, allF l0 s.c.f0 t s.at_ s.a = p := ⟨_, rfl⟩
  have E := Aside0.mk hres
  have RES := Aside0.mk (show allR l0 s = (re, { s with at_ := ra, a := rl }) by unfold allR; rw [ht, Int.toNat_natCast, hres])
  obtain ⟨hge, hbs, hlc, hlm, hat, hcb, vf, vd, va, vp, hg0, hown⟩ := HG.out
  have BS := Aside0.mk hg0
  have CBw := Aside0.mk hcb
  have OW := Aside0.mk hown
  have GE := Aside0.mk hge
  have BASE := Aside0.mk hbs
  clear hbs hcb hg0 hown hge
  have p0 : World.cell? w ⟨g, 0, none⟩ = some (.slice A0 l0.length c0) := (blk_cell BS.out 0).trans rfl
  have p1 : World.cell? w ⟨g, 1, none⟩ = some (.int .i64 s.at_) := (blk_cell BS.out 1).trans rfl
  have p2 : World.cell? w ⟨g, 2, none⟩ = some (.int .i64 s.c.f0) := (blk_cell BS.out 2).trans rfl
  have p3 : World.cell? w ⟨g, 3, none⟩ = some (.int .i64 s.c.f1) := (blk_cell BS.out 3).trans rfl
  have p4 : World.cell? w ⟨g, 4, none⟩ = some (.int .i64 s.c.f2) := (blk_cell BS.out 4).trans rfl
  have p5 : World.cell? w ⟨g, 5, none⟩ = some (.int .i64 s.c.f3) := (blk_cell BS.out 5).trans rfl
  have p6 : World.cell? w ⟨g, 6, none⟩ = some (.int .i64 s.c.f4) := (blk_cell BS.out 6).trans rfl
  have p7 : World.cell? w ⟨g, 7, none⟩ = some (.int .i64 s.c.f5) := (blk_cell BS.out 7).trans rfl
  have p8 : World.cell? w ⟨g, 8, none⟩ = some (vf) := (blk_cell BS.out 8).trans rfl
  have p9 : World.cell? w ⟨g, 9, none⟩ = some (vd) := (blk_cell BS.out 9).trans rfl
  have p10 : World.cell? w ⟨g, 10, none⟩ = some (va) := (blk_cell BS.out 10).trans rfl
  have p11 : World.cell? w ⟨g, 11, none⟩ = some (vp) := (blk_cell BS.out 11).trans rfl
  have z0 : World.frozen? w ⟨g, 0, none⟩ = false := blk_frozen BS.out 0
  have z1 : World.frozen? w ⟨g, 1, none⟩ = false := blk_frozen BS.out 1
  have z2 : World.frozen? w ⟨g, 2, none⟩ = false := blk_frozen BS.out 2
  have z3 : World.frozen? w ⟨g, 3, none⟩ = false := blk_frozen BS.out 3
  have z4 : World.frozen? w ⟨g, 4, none⟩ = false := blk_frozen BS.out 4
  have z5 : World.frozen? w ⟨g, 5, none⟩ = false := blk_frozen BS.out 5
  have z6 : World.frozen? w ⟨g, 6, none⟩ = false := blk_frozen BS.out 6
  have z7 : World.frozen? w ⟨g, 7, none⟩ = false := blk_frozen BS.out 7
  have z8 : World.frozen? w ⟨g, 8, none⟩ = false := blk_frozen BS.out 8
  have z9 : World.frozen? w ⟨g, 9, none⟩ = false := blk_frozen BS.out 9
  have z10 : World.frozen? w ⟨g, 10, none⟩ = false := blk_frozen BS.out 10
  have z11 : World.frozen? w ⟨g, 11, none⟩ = false := blk_frozen BS.out 11
  rw [ht] at p3
  clear h hby hres
  have TE := Aside0.mk ht
  clear ht
  go_enter Try.func22, Try.ntmps22
  go_wp2
  clear BS CBw OW GE BASE hat hc0 hc1 p0 z0 p1 z1 p2 z2 p3 z3 p4 z4 p5 z5 p6 z6 p7 z7 p8 z8 p9 z9 p10 z10 p11 z11
  go_loopg [14] t (fun gg s14 wr => ∃ (kk a : Nat) (al : List (List (List S80))), kk ≤ t ∧ t - kk ≤ gg ∧ s14 = .int .i64 kk ∧ Aside0 (allF l0 s.c.f0 (t - kk) a al = (re, ra, rl)) ∧ Aside0 (al.length ≤ s.a.length + kk) ∧ Aside0 (IsG base wr g A0 c0 l0 { s with at_ := a, a := al }) ∧ Aside0 (Below base w wr) ∧ Aside0 (Fr FT w wr))
  case atStart => exact ⟨0, s.at_, s.a, Nat.zero_le _, by omega, rfl, E, ⟨by omega⟩, HG, HBB, HFR⟩
  case round =>
    clear E HG HBB HFR
    obtain ⟨kk, a, al, hkk, hgg, rfl, E, LAL, HG, HBB, HFR⟩ := hrel
    by_cases hlt : kk < t
    rotate_left
    · have hltz : ¬ (kk : Int) < (t : Int) := by omega
      have e := E.out
      rw [show t - kk = 0 by omega] at e
      unfold allF at e
      have E2 := Aside0.mk e
      clear e hkk hgg hlt
      go_wp2
      go_ret
      have e := E2.out
      injection e with e1 e2
      injection e2 with e2 e3
      subst e1 e2 e3
      exact ⟨by rw [RES.out]; rfl, by rw [RES.out]; exact HG.out, HBB.out, HFR.out⟩
    · have hltz : (kk : Int) < (t : Int) := by omega
      have HLT := Aside0.mk hlt
      have HGG := Aside0.mk hgg
      have HT6 := Aside0.mk ht6
      obtain ⟨⟨cn, ce, ca⟩, hcf⟩ : ∃ p, countF l0 a 0 6 = p := ⟨_, rfl⟩
      have CF := Aside0.mk hcf
      have e := E.out
      rw [show t - kk = (t - (kk + 1)) + 1 by omega] at e
      unfold allF at e
      rw [hcf] at e
      by_cases hce : ce = 0
      rotate_left
      · have hcb : (ce != 0) = true := by simp [hce]
        rw [if_pos hce] at e
        have E2 := Aside0.mk e
        clear e hkk hgg hlt hcf
        go_wp2_with (first | ((with_reducible refine gate_callee (f := 42) rfl ?_); refine goesL_ (some 18) rfl rfl Try.func42 (by kernel_rfl) rfl #[.pointer (some ⟨g, 0, none⟩), .int .i64 0, .int .i64 6] rfl (by (try simp only [List.map_toArray, List.map_cons, List.map_nil]); first | done | rfl | (simp only [List.length_drop, List.length_take]; rfl)) ?_; (refine (count_calls base g 0 6 A0 c0 l0 { s with at_ := a, a := al } _ HG.out HX.out).mono ?_); rintro e w2 hco; obtain ⟨he, hg, hb, hfr⟩ := hco; rw [CF.out] at he hg; subst he; refine ⟨_, rfl, ?_⟩; clear HG; have HG := Aside0.mk hg; have n2 := Aside0.mk (HBB.out.trans hb); clear HBB; have HBB := n2; clear n2 hg hb; have n3 := Aside0.mk (HFR.out.trans (hfr.mono (by simp))); clear HFR hfr; have HFR := n3; clear n3))
        go_ret
        have e := E2.out
        injection e with e1 e2
        injection e2 with e2 e3
        subst e1 e2 e3
        exact ⟨by rw [RES.out]; rfl, by rw [RES.out]; exact HG.out, HBB.out, HFR.out⟩
      · subst hce
        obtain ⟨hc0, hc1, hc2, hc3⟩ := countF_ok HX.out hcf
        obtain ⟨n, rfl⟩ := Int.eq_ofNat_of_zero_le hc0
        have hn8 : n ≤ 6 := by omega
        rw [if_neg (by simp)] at e
        obtain ⟨⟨tq, te, ta⟩, htr⟩ : ∃ p, txnsF l0 s.c.f0 n ca [] = p := ⟨_, rfl⟩
        have TR := Aside0.mk htr
        simp only [Int.toNat_natCast] at e
        rw [htr] at e
        have E2 := Aside0.mk e
        have HN6 := Aside0.mk hn8
        clear e hkk hgg hlt hcf htr hc0 hc1 hc2 hc3 ht6 E
        go_upto_region 7 with (first | ((with_reducible refine gate_callee (f := 42) rfl ?_); refine goesL_ (some 18) rfl rfl Try.func42 (by kernel_rfl) rfl #[.pointer (some ⟨g, 0, none⟩), .int .i64 0, .int .i64 6] rfl (by (try simp only [List.map_toArray, List.map_cons, List.map_nil]); first | done | rfl | (simp only [List.length_drop, List.length_take]; rfl)) ?_; (refine (count_calls base g 0 6 A0 c0 l0 { s with at_ := a, a := al } _ HG.out HX.out).mono ?_); rintro e w2 hco; obtain ⟨he, hg, hb, hfr⟩ := hco; rw [CF.out] at he hg; subst he; refine ⟨_, rfl, ?_⟩; clear HG; have HG := Aside0.mk hg; have n2 := Aside0.mk (HBB.out.trans hb); clear HBB; have HBB := n2; clear n2 hg hb; have n3 := Aside0.mk (HFR.out.trans (hfr.mono (by simp))); clear HFR hfr; have HFR := n3; clear n3))
        go_wp2
        have HB1 := HBB
        have BASE2 := Aside0.mk HG.out.2.1
        have n1 := Aside0.mk HG.out.small
        clear HBB HG
        have HG := n1
        clear n1
        have HBB := Aside0.mk (Below.refl base w2)
        have HFI := Aside0.mk (Fr.refl FT w2)
        go_loopg [5, 25] n (fun gg s5 s25 wr => ∃ (j b : Nat) (ls : List (List S80)) (A1 : Option Addr) (c1 : Nat), j ≤ n ∧ n - j ≤ gg ∧ s5 = .slice A1 ls.length c1 ∧ s25 = .int .i64 j ∧ Aside0 (txnsF l0 s.c.f0 (n - j) b ls = (tq, te, ta)) ∧ Aside0 (ls.length = j) ∧ Aside0 (Kd.R (Kd.slice 80 k80) 61 wr w2.heap.size (fun _ => True) (.slice A1 ls.length c1) ls) ∧ Aside0 (IsGo (fun k => True ∧ k < w2.heap.size) base wr g A0 c0 l0 { s with at_ := b, a := al }) ∧ Aside0 (Below base w2 wr) ∧ Aside0 (w2.heap.size ≤ wr.heap.size) ∧ Aside0 (Fr FT w2 wr))
        case atStart => exact ⟨0, ca, [], none, 0, Nat.zero_le _, by omega, rfl, rfl, TR, ⟨rfl⟩, ⟨Kd.R_nil _ _ _ _ _⟩, HG, HBB, ⟨Nat.le_refl _⟩, HFI⟩
        case round =>
          clear HG HBB TR HFI
          obtain ⟨j, b, ls, A1, c1, hjn, hgg, rfl, rfl, TR, LL, HL, HG, HBB, SZ2, HFI⟩ := hrel
          by_cases hjt : j < n
          rotate_left
          · have hjz : ¬ (j : Int) < (n : Int) := by omega
            have e := TR.out
            rw [show n - j = 0 by omega] at e
            unfold txnsF at e
            injection e with e1 e2
            injection e2 with e2 e3
            subst e1 e2 e3
            have e := E2.out
            rw [if_neg (by simp)] at e
            obtain ⟨nl, hnl⟩ : ∃ l : List (List (List S80)), l = al ++ [ls] := ⟨_, rfl⟩
            rw [← hnl] at e
            have NL := Aside0.mk hnl
            have E4 := Aside0.mk e
            have HLX := HL
            have HB2 := HBB
            obtain ⟨AL, hAL⟩ : ∃ a, a = A1 := ⟨_, rfl⟩
            obtain ⟨cL, hcL⟩ : ∃ a, a = c1 := ⟨_, rfl⟩
            rw [← hAL, ← hcL] at HL ⊢
            subst hAL hcL
            clear e hnl hjn hgg hjt E2 TR
            obtain ⟨hge, hbs, hlc, hlm, hat, hcb, vf, vd, va, vp, hg0, hown⟩ := HG.out
            have BS := Aside0.mk hg0
            have CBw := Aside0.mk hcb
            have OW := Aside0.mk hown
            have GE := Aside0.mk hge
            have BASE := Aside0.mk hbs
            clear hbs hcb hg0 hown hge
            have p0 : World.cell? wr ⟨g, 0, none⟩ = some (.slice A0 l0.length c0) := (blk_cell BS.out 0).trans rfl
            have p1 : World.cell? wr ⟨g, 1, none⟩ = some (.int .i64 (b : Nat)) := (blk_cell BS.out 1).trans rfl
            have p2 : World.cell? wr ⟨g, 2, none⟩ = some (.int .i64 s.c.f0) := (blk_cell BS.out 2).trans rfl
            have p3 : World.cell? wr ⟨g, 3, none⟩ = some (.int .i64 s.c.f1) := (blk_cell BS.out 3).trans rfl
            have p4 : World.cell? wr ⟨g, 4, none⟩ = some (.int .i64 s.c.f2) := (blk_cell BS.out 4).trans rfl
            have p5 : World.cell? wr ⟨g, 5, none⟩ = some (.int .i64 s.c.f3) := (blk_cell BS.out 5).trans rfl
            have p6 : World.cell? wr ⟨g, 6, none⟩ = some (.int .i64 s.c.f4) := (blk_cell BS.out 6).trans rfl
            have p7 : World.cell? wr ⟨g, 7, none⟩ = some (.int .i64 s.c.f5) := (blk_cell BS.out 7).trans rfl
            have p8 : World.cell? wr ⟨g, 8, none⟩ = some (vf) := (blk_cell BS.out 8).trans rfl
            have p9 : World.cell? wr ⟨g, 9, none⟩ = some (vd) := (blk_cell BS.out 9).trans rfl
            have p10 : World.cell? wr ⟨g, 10, none⟩ = some (va) := (blk_cell BS.out 10).trans rfl
            have p11 : World.cell? wr ⟨g, 11, none⟩ = some (vp) := (blk_cell BS.out 11).trans rfl
            have z0 : World.frozen? wr ⟨g, 0, none⟩ = false := blk_frozen BS.out 0
            have z1 : World.frozen? wr ⟨g, 1, none⟩ = false := blk_frozen BS.out 1
            have z2 : World.frozen? wr ⟨g, 2, none⟩ = false := blk_frozen BS.out 2
            have z3 : World.frozen? wr ⟨g, 3, none⟩ = false := blk_frozen BS.out 3
            have z4 : World.frozen? wr ⟨g, 4, none⟩ = false := blk_frozen BS.out 4
            have z5 : World.frozen? wr ⟨g, 5, none⟩ = false := blk_frozen BS.out 5
            have z6 : World.frozen? wr ⟨g, 6, none⟩ = false := blk_frozen BS.out 6
            have z7 : World.frozen? wr ⟨g, 7, none⟩ = false := blk_frozen BS.out 7
            have z8 : World.frozen? wr ⟨g, 8, none⟩ = false := blk_frozen BS.out 8
            have z9 : World.frozen? wr ⟨g, 9, none⟩ = false := blk_frozen BS.out 9
            have z10 : World.frozen? wr ⟨g, 10, none⟩ = false := blk_frozen BS.out 10
            have z11 : World.frozen? wr ⟨g, 11, none⟩ = false := blk_frozen BS.out 11
            go_upto_region 15 with (first | ((with_reducible refine gate_builtin (b := .append) (xs := #[.tmp 45, .tmp 47]) rfl ?_); at_builtin; refine Kd.R_append kA (w0 := w2) base rfl (.tmp 45) (.tmp 47) 27 60 (.slice none 0 0) 24 rfl Try.underlying27 (by kernel_rfl) rfl (by decide) (by omega) va al ls [.slice AL ls.length cL] (fun _ => True) (fun k => w2.heap.size ≤ k) rfl rfl ?aP ?aK ?aF ?aO ?aB ?aS ?aL ?_; (case aP => exact ⟨_, rfl, Kd.R_lower (Kd.R_mono (Kd.R_bound HL.out) (fun k hk => hk.2.1)) BASE2.out⟩); (case aK => exact fun k hk => ⟨trivial, fun he => Nat.not_lt.2 (show w2.heap.size ≤ k from hk) (OW.out.a.1 k he.symm).2⟩); (case aB => exact HB2.out); (case aF => exact fun _ _ => trivial); (case aO => exact Kd.R_mono OW.out.a (fun _ _ => trivial)); (case aS => exact BASE.out); (case aL => have := LAL.out; have := HLT.out; have := HT6.out; omega); intro v1 w5 ho hb hg hat_; rw [← NL.out] at ho; (obtain ⟨A1, c1, ee⟩ := Kd.R_slice ho; subst ee); have hfr := (Fr.refl [60] _).grown hg (fun k hk => by obtain ⟨cs, hcs⟩ := Kd.R_typed OW.out.a k hk; exact ⟨cs, 60, _, hcs, by decide⟩); have n1 := Aside0.mk (blk_grown BS.out hg (Kd.R_ne OW.out.a BS.out (by decide))); have oa := Aside0.mk ho; have of := Aside0.mk (R_frN (Kd.R_mono OW.out.f (fun _ _ => trivial) : Kd.R _ _ _ _ (fun _ => True) _ _) hfr (by decide)); have od := Aside0.mk (R_frN (Kd.R_mono OW.out.d (fun _ _ => trivial) : Kd.R _ _ _ _ (fun _ => True) _ _) hfr (by decide)); have op := Aside0.mk (R_frN (Kd.R_mono OW.out.p (fun _ _ => trivial) : Kd.R _ _ _ _ (fun _ => True) _ _) hfr (by decide)); have n3 := Aside0.mk hb; have n4 := Aside0.mk (HFI.out.trans (hfr.mono (by simp))); clear HFI; have HFI := n4; clear n4; clear BS HB2 OW ho hb hg hat_ hfr p0 z0 p1 z1 p2 z2 p3 z3 p4 z4 p5 z5 p6 z6 p7 z7 p8 z8 p9 z9 p10 z10 p11 z11; have BS := n1; have HB2 := n3; clear n1 n3; have p10 := (blk_cell BS.out 10).trans rfl; have z10 := blk_frozen BS.out 10))
            have bs := blk_put BS.out 10 (.slice A1 nl.length c1) (cs' := #[.slice A0 l0.length c0, .int .i64 (b : Nat), .int .i64 s.c.f0, .int .i64 s.c.f1, .int .i64 s.c.f2, .int .i64 s.c.f3, .int .i64 s.c.f4, .int .i64 s.c.f5, vf, vd, .slice A1 nl.length c1, vp]) rfl
            have hs : Fr [53] w5 (w5.setCell ⟨g, 10, none⟩ (.slice A1 nl.length c1)) := (Fr.refl _ _).set BS.out (by decide) _
            have hx := set_base (j := 10) (v := .slice A1 nl.length c1) HB2.out GE.out
            have HGN := Aside0.mk (show IsG base (w5.setCell ⟨g, 10, none⟩ (.slice A1 nl.length c1)) g A0 c0 l0 { s with at_ := b, a := nl } from ⟨GE.out, Nat.le_trans BASE2.out hx.size, hlc, hlm, hat, CB0.out.step (HB1.out.trans hx), (vf), (vd), (.slice A1 nl.length c1), (vp), bs, R_frN of.out hs (by decide), R_frN od.out hs (by decide), R_frN oa.out hs (by decide), R_frN op.out hs (by decide)⟩)
            have HBN := Aside0.mk (HB1.out.trans hx)
            have HFN := Aside0.mk ((HFR.out.trans HFI.out).trans (hs.mono (by simp)))
            clear bs hs hx BS of od oa op p10 z10 HB2
            generalize World.setCell w5 ⟨g, 10, none⟩ (.slice A1 nl.length c1) = w6 at HGN HBN HFN ⊢
            go_wp2
            go_roundg (t - (kk + 1))
            case measure => have := HLT.out; have := HGG.out; omega
            case rel => exact ⟨kk + 1, b, nl, HLT.out, Nat.le_refl _, by have := HLT.out; have := HT6.out; refine congrArg _ ?_; unfold RowKit.wrap64; omega, E4, ⟨by rw [NL.out, List.length_append]; have := LAL.out; simp; omega⟩, HGN, HBN, HFN⟩
          · have hjz : (j : Int) < (n : Int) := by omega
            have HJ := Aside0.mk hjt
            have HGJ := Aside0.mk hgg
            obtain ⟨⟨to_, te_, ta_⟩, htx⟩ : ∃ p, txnF l0 s.c.f0 b = p := ⟨_, rfl⟩
            have TX := Aside0.mk htx
            have e := TR.out
            rw [show n - j = (n - (j + 1)) + 1 by omega] at e
            unfold txnsF at e
            rw [htx] at e
            have LTL := Aside0.mk (fun k hk => Kd.R_lt HL.out k hk)
            by_cases hte : te_ = 0
            rotate_left
            · have hcb : (te_ != 0) = true := by simp [hte]
              rw [if_pos hte] at e
              have E3 := Aside0.mk e
              clear e htx hjn hgg hjt
              go_wp2_with (first | ((with_reducible refine gate_callee (f := 43) rfl ?_); refine goesL_ (some 29) rfl rfl Try.func43 (by kernel_rfl) rfl #[.pointer (some ⟨g, 0, none⟩)] rfl (by (try simp only [List.map_toArray, List.map_cons, List.map_nil]); first | done | rfl | (simp only [List.length_drop, List.length_take]; rfl)) ?_; (refine (txn_calls base g A0 c0 l0 { s with at_ := b, a := al } _ HG.out HX.out).mono ?_); rintro e w4 htx; obtain ⟨v4, he, ho, hg, hb, hfr⟩ := htx; rw [show ({ s with at_ := b, a := al } : Rd).c.f0 = s.c.f0 from rfl, show ({ s with at_ := b, a := al } : Rd).at_ = b from rfl, TX.out] at he ho hg; subst he; refine ⟨_, rfl, ?_⟩; (obtain ⟨A4, c4, ee⟩ := Kd.R_slice ho; subst ee); have HO4 := Aside0.mk ho; have n1 := Aside0.mk hg; have n2 := Aside0.mk (HBB.out.trans hb); have n3 := Aside0.mk (R_frN HL.out hfr (by decide)); have n4 := Aside0.mk hfr.size; have n5 := Aside0.mk (HFI.out.trans (hfr.mono (by simp))); clear HFI; have HFI := n5; clear n5; clear HG HBB HL ho hg hb hfr; have HG := n1; have HBB := n2; have HL := n3; have HSZ := n4; clear n1 n2 n3 n4))
              go_ret
              have e := E3.out
              injection e with e1 e2
              injection e2 with e2 e3
              subst e1 e2 e3
              have e := E2.out
              rw [if_pos hte] at e
              injection e with e1 e2
              injection e2 with e2 e3
              subst e1 e2 e3
              exact ⟨by rw [RES.out]; rfl, by rw [RES.out]; exact HG.out.all, HB1.out.trans HBB.out, HFR.out.trans HFI.out⟩
            · subst hte
              rw [if_neg (by simp)] at e
              obtain ⟨ls2, hl2⟩ : ∃ l : List (List S80), l = ls ++ [to_] := ⟨_, rfl⟩
              rw [← hl2] at e
              have L2 := Aside0.mk hl2
              have E3 := Aside0.mk e
              clear e htx hjn hgg hjt hl2
              obtain ⟨_, _, _, _, _, _, _, _, _, _, hgx, _⟩ := HG.out
              go_upto_region 12 with (first | ((with_reducible refine gate_callee (f := 43) rfl ?_); refine goesL_ (some 29) rfl rfl Try.func43 (by kernel_rfl) rfl #[.pointer (some ⟨g, 0, none⟩)] rfl (by (try simp only [List.map_toArray, List.map_cons, List.map_nil]); first | done | rfl | (simp only [List.length_drop, List.length_take]; rfl)) ?_; (refine (txn_calls base g A0 c0 l0 { s with at_ := b, a := al } _ HG.out HX.out).mono ?_); rintro e w4 htx; obtain ⟨v4, he, ho, hg, hb, hfr⟩ := htx; rw [show ({ s with at_ := b, a := al } : Rd).c.f0 = s.c.f0 from rfl, show ({ s with at_ := b, a := al } : Rd).at_ = b from rfl, TX.out] at he ho hg; subst he; refine ⟨_, rfl, ?_⟩; (obtain ⟨A4, c4, ee⟩ := Kd.R_slice ho; subst ee); have HO4 := Aside0.mk ho; have n1 := Aside0.mk hg; have n2 := Aside0.mk (HBB.out.trans hb); have n3 := Aside0.mk (R_frN HL.out hfr (by decide)); have n4 := Aside0.mk hfr.size; have n5 := Aside0.mk (HFI.out.trans (hfr.mono (by simp))); clear HFI; have HFI := n5; clear n5; clear HG HBB HL ho hg hb hfr; have HG := n1; have HBB := n2; have HL := n3; have HSZ := n4; clear n1 n2 n3 n4))
              clear hgx
              obtain ⟨_, _, _, _, _, _, _, _, _, _, hgx, _⟩ := HG.out
              have BSX := Aside0.mk hgx
              clear hgx
              go_wp2_with (first | ((with_reducible refine gate_builtin (b := .append) (xs := #[.tmp 35, .tmp 37]) rfl ?_); at_builtin; refine Kd.R_append (Kd.slice 80 k80) (w0 := w4) w2.heap.size rfl (.tmp 35) (.tmp 37) 60 61 (.slice none 0 0) 24 rfl Try.underlying60 (by kernel_rfl) rfl (by decide) (by omega) (.slice A1 ls.length c1) ls to_ [.slice A4 to_.length c4] (fun _ => True) (fun k => wr.heap.size ≤ k) rfl rfl ?aP ?aK ?aF ?aO ?aB ?aS ?aL ?_; (case aP => exact ⟨_, rfl, Kd.R_lower (Kd.R_mono (Kd.R_bound HO4.out) (fun k hk => hk.2.1)) SZ2.out⟩); (case aK => exact fun k hk => ⟨trivial, fun he => Nat.not_lt.2 (show wr.heap.size ≤ k from hk) (LTL.out k he.symm)⟩); (case aB => exact Below.refl _ _); (case aF => exact fun _ _ => trivial); (case aO => exact HL.out); (case aS => exact Nat.le_trans SZ2.out HSZ.out); (case aL => have := LL.out; have := HN6.out; have := HJ.out; omega); intro v7 w5 ho hb hg hat_; rw [← L2.out] at ho; (obtain ⟨A2, c2, ee⟩ := Kd.R_slice ho; subst ee); have hbb := hb.mono BASE2.out; have n1 := Aside0.mk (HG.out.grown hbb hg (Kd.R_base HL.out) (Kd.R_ne HL.out BSX.out (by decide))); have n2 := Aside0.mk (HBB.out.trans hbb); have n3 := Aside0.mk (Nat.le_trans SZ2.out (Nat.le_trans HSZ.out hg.size)); have n4 := Aside0.mk (HFI.out.over hb); clear HFI; have HFI := n4; clear n4; clear HG HBB HL hb hbb hat_ HSZ; have HG := n1; have HBB := n2; have SZ5 := n3; have HL := Aside0.mk ho; clear n1 n2 n3 ho hg))
              go_roundg (n - (j + 1))
              case measure => have := HJ.out; have := HGJ.out; omega
              case rel => exact ⟨j + 1, ta_, ls2, A2, c2, HJ.out, Nat.le_refl _, rfl, by have := HJ.out; have := HN6.out; go_num, E3, ⟨by rw [L2.out, List.length_append]; have := LL.out; simp; omega⟩, HL, HG, HBB, SZ5, HFI⟩
end Go.Proofs.Ythfkgnkojhocbaa.S
end
section
namespace Go.Proofs.Ythfkgnkojhocbaa.S
open Go Go.RowKit Go.Proofs.YthfkgnkojhocbaaW.PrintWords Go.Proofs.YthfkgnkojhocbaaW.PrintLast Go.Proofs.YthfkgnkojhocbaaW.PrintMore
attribute [local go_sem] max2_int min2_int max_two min_two max_three min_three max_four min_four
set_option linter.unusedVariables false
set_option linter.unusedSimpArgs false
def stepF (l : List Int) (i : Nat) (s : Rd) : Int × Rd := match i with | 0 => configF l s | 1 => firstF l s | 2 => allR l s | 3 => drawsF l s | _ => picksF l s
def runF (l : List Int) : Nat → Nat → Rd → Int × Rd
  | 0, _, s => (0, s)
  | n + 1, i, s => if (stepF l i s).1 ≠ 0 then stepF l i s else runF l n (i + 1) (stepF l i s).2
def rd0 : Rd := ⟨0, z25, [], [], [], []⟩
/-- What holds ahead of the i-th part. -/
structure Inv (i : Nat) (s : Rd) : Prop where
  c0 : 1 ≤ i → 0 ≤ s.c.f0 ∧ s.c.f0 ≤ 8
  c1 : 1 ≤ i → 0 ≤ s.c.f1 ∧ s.c.f1 ≤ 6
  f : i ≤ 1 → s.f = []
  a : i ≤ 2 → s.a = []
  p : i ≤ 4 → s.p = []
theorem Inv.start : Inv 0 rd0 := ⟨by omega, by omega, fun _ => rfl, fun _ => rfl, fun _ => rfl⟩
theorem Inv.step {l : List Int} {i : Nat} {s s' : Rd} (I : Inv i s) (hi : i < 5) (h : stepF l i s = (0, s')) : Inv (i + 1) s' := by
  have hc := fun h => I.c0 h
  match i, hi with
  | 0, _ =>
    simp only [stepF, configF] at h
    split at h
    · injection h with h1; omega
    · split at h
      · injection h with h1; omega
      · split at h
        · injection h with h1; omega
        · injection h with h1 h2
          subst h2
          rename_i hck _
          simp only [Bool.not_eq_false] at hck
          simp only [checkB, decide_eq_true_eq] at hck
          exact ⟨fun _ => by show 0 ≤ (cfgOf l s.at_).f0 ∧ (cfgOf l s.at_).f0 ≤ 8; omega, fun _ => by show 0 ≤ (cfgOf l s.at_).f1 ∧ (cfgOf l s.at_).f1 ≤ 6; omega, fun _ => I.f (by omega), fun _ => I.a (by omega), fun _ => I.p (by omega)⟩
  | 1, _ =>
    simp only [stepF, firstF] at h
    split at h
    · injection h with h1; omega
    · injection h with h1 h2
      subst h2
      exact ⟨fun _ => I.c0 (by omega), fun _ => I.c1 (by omega), fun h => by omega, fun _ => I.a (by omega), fun _ => I.p (by omega)⟩
  | 2, _ =>
    simp only [stepF, allR] at h
    injection h with h1 h2
    subst h2
    exact ⟨fun _ => I.c0 (by omega), fun _ => I.c1 (by omega), fun h => by omega, fun h => by omega, fun _ => I.p (by omega)⟩
  | 3, _ =>
    simp only [stepF, drawsF] at h
    split at h
    · rename_i hne
      injection h with h1; exact absurd h1 hne
    · split at h
      · injection h with h1; omega
      · injection h with h1 h2
        subst h2
        exact ⟨fun _ => I.c0 (by omega), fun _ => I.c1 (by omega), fun h => by omega, fun h => by omega, fun _ => I.p (by omega)⟩
  | 4, _ =>
    simp only [stepF, picksF] at h
    injection h with h1 h2
    subst h2
    exact ⟨fun _ => I.c0 (by omega), fun _ => I.c1 (by omega), fun h => by omega, fun h => by omega, fun h => by omega⟩
/-- The script, the place, the error. -/
def getF (l : List Int) : Rd × Int × Int := if (runF l 5 0 rd0).1 ≠ 0 then (rd0, ((runF l 5 0 rd0).2.at_ : Int), (runF l 5 0 rd0).1) else ((runF l 5 0 rd0).2, -1, 0)
def GetOk (l0 : List Int) (w : World) (e : Ending) (w' : World) : Prop :=
  ∃ vf vd va vp, e = .returned (.tuple #[.agg #[.int .i64 (getF l0).1.c.f0, .int .i64 (getF l0).1.c.f1, .int .i64 (getF l0).1.c.f2, .int .i64 (getF l0).1.c.f3, .int .i64 (getF l0).1.c.f4, .int .i64 (getF l0).1.c.f5, vf, vd, va, vp], .int .i64 (getF l0).2.1, .int .i64 (getF l0).2.2]) ∧ Own (fun _ => True) w.heap.size w' (getF l0).1 vf vd va vp ∧ Below w.heap.size w w'
set_option maxHeartbeats 8000000 in
set_option maxRecDepth 100000 in
theorem get_calls (A0 : Option Addr) (c0 : Nat) (l0 : List Int) (w : World) (hr0 : Kd.C (Kd.int .u8) w A0 l0.length l0) (hc0 : l0.length ≤ c0) (hlm : l0.length ≤ 1000000) (hby : isB l0) :
    Calls Try.prog 10 #[.slice A0 l0.length c0] w fun e w' => GetOk l0 w e w' := by
  have HR := Aside0.mk hr0
  have HX := Aside0.mk hby
  clear hr0 hby
  go_enter Try.func10, Try.ntmps10
  go_wp2_with (first | ((with_reducible refine gate_dst (N := 2) rfl ?_); refine box_event ?hg (N := 2) ?hd (cs := #[.int .i64 0, .int .i64 0, .int .i64 0, .int .i64 0, .int .i64 0, .int .i64 0, .slice none 0 0, .slice none 0 0, .slice none 0 0, .slice none 0 0]) (t := 30) ?hr ?_; (case hd => rfl); (case hg => rfl); (case hr => first | (go_simp; done) | (go_simp; rfl)); intro gb hgx w1 hbox hb; have HB := Aside0.mk hb; have BB := Aside0.mk hbox; have GB := Aside0.mk (Nat.le_of_eq hgx.symm : w.heap.size ≤ gb); clear hgx hbox hb) | ((with_reducible refine gate_dst (N := 11) rfl ?_); refine box_event ?hg (N := 11) ?hd (cs := #[.slice A0 l0.length c0, .int .i64 0, .int .i64 0, .int .i64 0, .int .i64 0, .int .i64 0, .int .i64 0, .int .i64 0, .slice none 0 0, .slice none 0 0, .slice none 0 0, .slice none 0 0]) (t := 53) ?hr ?_; (case hd => rfl); (case hg => rfl); (case hr => first | (go_simp; done) | (go_simp; rfl)); intro g hgx w2 hbox hb; have GG := Aside0.mk (show w.heap.size ≤ g by rw [hgx]; exact below_size HB.out); have n1 := Aside0.mk (below_step HB.out hb); have n2 := Aside0.mk (blk_below BB.out hb); have BG := Aside0.mk hbox; clear HB BB hgx hbox hb; have HB := n1; have BB := n2; clear n1 n2))
  have hb := below_alloc (Below.refl w2.heap.size w2) (Obj.cells #[.func (.func 20) #[.pointer (some ⟨g, 0, none⟩)] #[], .func (.func 21) #[.pointer (some ⟨g, 0, none⟩)] #[], .func (.func 22) #[.pointer (some ⟨g, 0, none⟩)] #[], .func (.func 23) #[.pointer (some ⟨g, 0, none⟩)] #[], .func (.func 24) #[.pointer (some ⟨g, 0, none⟩)] #[]] 56)
  have HB3 := Aside0.mk (below_step HB.out hb)
  have BB3 := Aside0.mk (blk_below BB.out hb)
  have BG3 := Aside0.mk (blk_below BG.out hb)
  have BP := Aside0.mk (blk_new w2 (.cells #[.func (.func 20) #[.pointer (some ⟨g, 0, none⟩)] #[], .func (.func 21) #[.pointer (some ⟨g, 0, none⟩)] #[], .func (.func 22) #[.pointer (some ⟨g, 0, none⟩)] #[], .func (.func 23) #[.pointer (some ⟨g, 0, none⟩)] #[], .func (.func 24) #[.pointer (some ⟨g, 0, none⟩)] #[]] 56 (0, 0)))
  clear HB BB BG hb
  generalize World.alloc w2 (.cells #[.func (.func 20) #[.pointer (some ⟨g, 0, none⟩)] #[], .func (.func 21) #[.pointer (some ⟨g, 0, none⟩)] #[], .func (.func 22) #[.pointer (some ⟨g, 0, none⟩)] #[], .func (.func 23) #[.pointer (some ⟨g, 0, none⟩)] #[], .func (.func 24) #[.pointer (some ⟨g, 0, none⟩)] #[]] 56) = w3 at HB3 BB3 BG3 BP ⊢
  generalize w2.heap.size = gp at BP ⊢
  have HG := Aside0.mk (show IsG w.heap.size w3 g A0 c0 l0 rd0 from ⟨GG.out, HB3.out.size, hc0, hlm, Nat.zero_le _, fun W' h' => Kd.C_below HR.out (HB3.out.trans h'), .slice none 0 0, .slice none 0 0, .slice none 0 0, .slice none 0 0, BG3.out, ⟨Kd.R_nil _ _ _ _ _, Kd.R_nil _ _ _ _ _, Kd.R_nil _ _ _ _ _, Kd.R_nil _ _ _ _ _⟩⟩)
  clear BG3
  have GBB := GB
  have HLC := Aside0.mk (show l0.length ≤ c0 ∧ l0.length ≤ 1000000 from ⟨hc0, hlm⟩)
  obtain ⟨RE, hre⟩ : ∃ p, runF l0 5 0 rd0 = p := ⟨_, rfl⟩
  have RUN := Aside0.mk hre
  have GF := Aside0.mk hre
  clear hre hc0 hlm
  have BB := BB3
  have HB := HB3
  clear BB3 HB3
  go_loopg [7, 8, 29] 5 (fun gg s7 s8 s29 wr => ∃ (i : Nat) (s : Rd), i ≤ 5 ∧ 5 - i ≤ gg ∧ s29 = .int .i64 i ∧ Aside0 (runF l0 (5 - i) i s = RE) ∧ Aside0 (Inv i s) ∧ Aside0 (IsG w.heap.size wr g A0 c0 l0 s) ∧ Aside0 (wr.heap[gb]? = some (.cells #[.int .i64 0, .int .i64 0, .int .i64 0, .int .i64 0, .int .i64 0, .int .i64 0, .slice none 0 0, .slice none 0 0, .slice none 0 0, .slice none 0 0] 30 (0, 0))) ∧ Aside0 (wr.heap[gp]? = some (.cells #[.func (.func 20) #[.pointer (some ⟨g, 0, none⟩)] #[], .func (.func 21) #[.pointer (some ⟨g, 0, none⟩)] #[], .func (.func 22) #[.pointer (some ⟨g, 0, none⟩)] #[], .func (.func 23) #[.pointer (some ⟨g, 0, none⟩)] #[], .func (.func 24) #[.pointer (some ⟨g, 0, none⟩)] #[]] 56 (0, 0))) ∧ Aside0 (Below w.heap.size w wr))
  case atStart => exact ⟨0, rd0, by omega, by omega, rfl, RUN, ⟨Inv.start⟩, HG, BB, BP, HB⟩
  case round =>
    clear RUN HG BB BP HB
    obtain ⟨i, s, hi5, hgg, rfl, RUN, IV, HG, BB, BP, HB⟩ := hrel
    by_cases hlt : i < 5
    rotate_left
    · have hltz : ¬ (i : Int) < (5 : Int) := by omega
      have hie : i = 5 := by omega
      clear hlt hgg hi5
      have e := RUN.out
      rw [hie] at e
      have E := Aside0.mk (show ((0 : Int), s) = RE from e)
      clear e hie
      obtain ⟨hge, hbs, hlc, hlm, hat, hcb, vf, vd, va, vp, hg0, hown⟩ := HG.out
      have BS := Aside0.mk hg0
      have CBw := Aside0.mk hcb
      have OW := Aside0.mk hown
      have GE := Aside0.mk hge
      have BASE := Aside0.mk hbs
      clear hbs hcb hg0 hown hge
      obtain ⟨Af, cf, ee⟩ := Kd.R_slice OW.out.f
      subst ee
      obtain ⟨Ad, cd, ee⟩ := Kd.R_slice OW.out.d
      subst ee
      obtain ⟨Aa, ca, ee⟩ := Kd.R_slice OW.out.a
      subst ee
      obtain ⟨Ap, cp, ee⟩ := Kd.R_slice OW.out.p
      subst ee
      have p0 : World.cell? wr ⟨g, 0, none⟩ = some (.slice A0 l0.length c0) := (blk_cell BS.out 0).trans rfl
      have p1 : World.cell? wr ⟨g, 1, none⟩ = some (.int .i64 s.at_) := (blk_cell BS.out 1).trans rfl
      have p2 : World.cell? wr ⟨g, 2, none⟩ = some (.int .i64 s.c.f0) := (blk_cell BS.out 2).trans rfl
      have p3 : World.cell? wr ⟨g, 3, none⟩ = some (.int .i64 s.c.f1) := (blk_cell BS.out 3).trans rfl
      have p4 : World.cell? wr ⟨g, 4, none⟩ = some (.int .i64 s.c.f2) := (blk_cell BS.out 4).trans rfl
      have p5 : World.cell? wr ⟨g, 5, none⟩ = some (.int .i64 s.c.f3) := (blk_cell BS.out 5).trans rfl
      have p6 : World.cell? wr ⟨g, 6, none⟩ = some (.int .i64 s.c.f4) := (blk_cell BS.out 6).trans rfl
      have p7 : World.cell? wr ⟨g, 7, none⟩ = some (.int .i64 s.c.f5) := (blk_cell BS.out 7).trans rfl
      have p8 : World.cell? wr ⟨g, 8, none⟩ = some (.slice Af s.f.length cf) := (blk_cell BS.out 8).trans rfl
      have p9 : World.cell? wr ⟨g, 9, none⟩ = some (.slice Ad s.d.length cd) := (blk_cell BS.out 9).trans rfl
      have p10 : World.cell? wr ⟨g, 10, none⟩ = some (.slice Aa s.a.length ca) := (blk_cell BS.out 10).trans rfl
      have p11 : World.cell? wr ⟨g, 11, none⟩ = some (.slice Ap s.p.length cp) := (blk_cell BS.out 11).trans rfl
      have b0 : World.cell? wr ⟨gb, 0, none⟩ = some (.int .i64 0) := (blk_cell BB.out 0).trans rfl
      have b1 : World.cell? wr ⟨gb, 1, none⟩ = some (.int .i64 0) := (blk_cell BB.out 1).trans rfl
      have b2 : World.cell? wr ⟨gb, 2, none⟩ = some (.int .i64 0) := (blk_cell BB.out 2).trans rfl
      have b3 : World.cell? wr ⟨gb, 3, none⟩ = some (.int .i64 0) := (blk_cell BB.out 3).trans rfl
      have b4 : World.cell? wr ⟨gb, 4, none⟩ = some (.int .i64 0) := (blk_cell BB.out 4).trans rfl
      have b5 : World.cell? wr ⟨gb, 5, none⟩ = some (.int .i64 0) := (blk_cell BB.out 5).trans rfl
      have b6 : World.cell? wr ⟨gb, 6, none⟩ = some (.slice none 0 0) := (blk_cell BB.out 6).trans rfl
      have b7 : World.cell? wr ⟨gb, 7, none⟩ = some (.slice none 0 0) := (blk_cell BB.out 7).trans rfl
      have b8 : World.cell? wr ⟨gb, 8, none⟩ = some (.slice none 0 0) := (blk_cell BB.out 8).trans rfl
      have b9 : World.cell? wr ⟨gb, 9, none⟩ = some (.slice none 0 0) := (blk_cell BB.out 9).trans rfl
      have y0 : World.frozen? wr ⟨gb, 0, none⟩ = false := blk_frozen BB.out 0
      have y1 : World.frozen? wr ⟨gb, 1, none⟩ = false := blk_frozen BB.out 1
      have y2 : World.frozen? wr ⟨gb, 2, none⟩ = false := blk_frozen BB.out 2
      have y3 : World.frozen? wr ⟨gb, 3, none⟩ = false := blk_frozen BB.out 3
      have y4 : World.frozen? wr ⟨gb, 4, none⟩ = false := blk_frozen BB.out 4
      have y5 : World.frozen? wr ⟨gb, 5, none⟩ = false := blk_frozen BB.out 5
      have y6 : World.frozen? wr ⟨gb, 6, none⟩ = false := blk_frozen BB.out 6
      have y7 : World.frozen? wr ⟨gb, 7, none⟩ = false := blk_frozen BB.out 7
      have y8 : World.frozen? wr ⟨gb, 8, none⟩ = false := blk_frozen BB.out 8
      have y9 : World.frozen? wr ⟨gb, 9, none⟩ = false := blk_frozen BB.out 9
      go_wp2
      have g0 := BB.out
      have f0 := Fr.refl [30] wr
      have f1 := f0.set (p := ⟨gb, 0, none⟩) g0 (by decide) (.int .i64 s.c.f0)
      have g1 := blk_put g0 0 (.int .i64 s.c.f0) (cs' := #[.int .i64 s.c.f0, .int .i64 0, .int .i64 0, .int .i64 0, .int .i64 0, .int .i64 0, .slice none 0 0, .slice none 0 0, .slice none 0 0, .slice none 0 0]) rfl
      have f2 := f1.set (p := ⟨gb, 1, none⟩) g1 (by decide) (.int .i64 s.c.f1)
      have g2 := blk_put g1 1 (.int .i64 s.c.f1) (cs' := #[.int .i64 s.c.f0, .int .i64 s.c.f1, .int .i64 0, .int .i64 0, .int .i64 0, .int .i64 0, .slice none 0 0, .slice none 0 0, .slice none 0 0, .slice none 0 0]) rfl
      have f3 := f2.set (p := ⟨gb, 2, none⟩) g2 (by decide) (.int .i64 s.c.f2)
      have g3 := blk_put g2 2 (.int .i64 s.c.f2) (cs' := #[.int .i64 s.c.f0, .int .i64 s.c.f1, .int .i64 s.c.f2, .int .i64 0, .int .i64 0, .int .i64 0, .slice none 0 0, .slice none 0 0, .slice none 0 0, .slice none 0 0]) rfl
      have f4 := f3.set (p := ⟨gb, 3, none⟩) g3 (by decide) (.int .i64 s.c.f3)
      have g4 := blk_put g3 3 (.int .i64 s.c.f3) (cs' := #[.int .i64 s.c.f0, .int .i64 s.c.f1, .int .i64 s.c.f2, .int .i64 s.c.f3, .int .i64 0, .int .i64 0, .slice none 0 0, .slice none 0 0, .slice none 0 0, .slice none 0 0]) rfl
      have f5 := f4.set (p := ⟨gb, 4, none⟩) g4 (by decide) (.int .i64 s.c.f4)
      have g5 := blk_put g4 4 (.int .i64 s.c.f4) (cs' := #[.int .i64 s.c.f0, .int .i64 s.c.f1, .int .i64 s.c.f2, .int .i64 s.c.f3, .int .i64 s.c.f4, .int .i64 0, .slice none 0 0, .slice none 0 0, .slice none 0 0, .slice none 0 0]) rfl
      have f6 := f5.set (p := ⟨gb, 5, none⟩) g5 (by decide) (.int .i64 s.c.f5)
      have g6 := blk_put g5 5 (.int .i64 s.c.f5) (cs' := #[.int .i64 s.c.f0, .int .i64 s.c.f1, .int .i64 s.c.f2, .int .i64 s.c.f3, .int .i64 s.c.f4, .int .i64 s.c.f5, .slice none 0 0, .slice none 0 0, .slice none 0 0, .slice none 0 0]) rfl
      have f7 := f6.set (p := ⟨gb, 6, none⟩) g6 (by decide) (.slice Af s.f.length cf)
      have g7 := blk_put g6 6 (.slice Af s.f.length cf) (cs' := #[.int .i64 s.c.f0, .int .i64 s.c.f1, .int .i64 s.c.f2, .int .i64 s.c.f3, .int .i64 s.c.f4, .int .i64 s.c.f5, .slice Af s.f.length cf, .slice none 0 0, .slice none 0 0, .slice none 0 0]) rfl
      have f8 := f7.set (p := ⟨gb, 7, none⟩) g7 (by decide) (.slice Ad s.d.length cd)
      have g8 := blk_put g7 7 (.slice Ad s.d.length cd) (cs' := #[.int .i64 s.c.f0, .int .i64 s.c.f1, .int .i64 s.c.f2, .int .i64 s.c.f3, .int .i64 s.c.f4, .int .i64 s.c.f5, .slice Af s.f.length cf, .slice Ad s.d.length cd, .slice none 0 0, .slice none 0 0]) rfl
      have f9 := f8.set (p := ⟨gb, 8, none⟩) g8 (by decide) (.slice Aa s.a.length ca)
      have g9 := blk_put g8 8 (.slice Aa s.a.length ca) (cs' := #[.int .i64 s.c.f0, .int .i64 s.c.f1, .int .i64 s.c.f2, .int .i64 s.c.f3, .int .i64 s.c.f4, .int .i64 s.c.f5, .slice Af s.f.length cf, .slice Ad s.d.length cd, .slice Aa s.a.length ca, .slice none 0 0]) rfl
      have f10 := f9.set (p := ⟨gb, 9, none⟩) g9 (by decide) (.slice Ap s.p.length cp)
      have g10 := blk_put g9 9 (.slice Ap s.p.length cp) (cs' := #[.int .i64 s.c.f0, .int .i64 s.c.f1, .int .i64 s.c.f2, .int .i64 s.c.f3, .int .i64 s.c.f4, .int .i64 s.c.f5, .slice Af s.f.length cf, .slice Ad s.d.length cd, .slice Aa s.a.length ca, .slice Ap s.p.length cp]) rfl
      have hx := (set_base (j := 9) (v := .slice Ap s.p.length cp) (set_base (j := 8) (v := .slice Aa s.a.length ca) (set_base (j := 7) (v := .slice Ad s.d.length cd) (set_base (j := 6) (v := .slice Af s.f.length cf) (set_base (j := 5) (v := .int .i64 s.c.f5) (set_base (j := 4) (v := .int .i64 s.c.f4) (set_base (j := 3) (v := .int .i64 s.c.f3) (set_base (j := 2) (v := .int .i64 s.c.f2) (set_base (j := 1) (v := .int .i64 s.c.f1) (set_base (j := 0) (v := .int .i64 s.c.f0) HB.out GBB.out) GBB.out) GBB.out) GBB.out) GBB.out) GBB.out) GBB.out) GBB.out) GBB.out) GBB.out)
      refine bodyPost_ret (results_ctt rfl _ _ gb 30 #[.int .i64 s.c.f0, .int .i64 s.c.f1, .int .i64 s.c.f2, .int .i64 s.c.f3, .int .i64 s.c.f4, .int .i64 s.c.f5, .slice Af s.f.length cf, .slice Ad s.d.length cd, .slice Aa s.a.length ca, .slice Ap s.p.length cp] (0, 0) _ rfl g10 Try.underlying30 rfl (by kernel_rfl)) rfl ?_
      have hG : getF l0 = (s, -1, 0) := by unfold getF; rw [GF.out, ← E.out]; rfl
      unfold GetOk
      rw [hG]
      exact ⟨_, _, _, _, rfl, ⟨R_frN OW.out.f f10 (by decide), R_frN OW.out.d f10 (by decide), R_frN OW.out.a f10 (by decide), R_frN OW.out.p f10 (by decide)⟩, hx⟩
    · have hltz : (i : Int) < (5 : Int) := by omega
      have HGG := Aside0.mk hgg
      clear hgg hi5
      by_cases hk0 : i = 0
      · subst hk0
        have pI : World.cell? wr ⟨gp, 0, none⟩ = some (.func (.func 20) #[.pointer (some ⟨g, 0, none⟩)] #[]) := (blk_cell BP.out 0).trans rfl
        go_upto_region 5 with (first | ((with_reducible refine gate_dst (N := 7) rfl ?_); refine box_event ?hg (N := 7) ?hd (cs := #[.nilFunc]) (t := 56) ?hr ?_; (case hd => rfl); (case hg => rfl); (case hr => first | (go_simp; done) | (go_simp; rfl)); intro gq hgx w4 hbox hb; have HWB := Aside0.mk hb; have BQ := Aside0.mk hbox; have qQ : World.cell? w4 ⟨gq, 0, none⟩ = some .nilFunc := (blk_cell BQ.out 0).trans rfl; have zQ : World.frozen? w4 ⟨gq, 0, none⟩ = false := blk_frozen BQ.out 0; have GQ := Aside0.mk (Nat.le_of_eq hgx.symm : wr.heap.size ≤ gq); clear pI hgx hbox hb))
        have BQ2 := Aside0.mk (blk_put BQ.out 0 (.func (.func 20) #[.pointer (some ⟨g, 0, none⟩)] #[]) (cs' := #[.func (.func 20) #[.pointer (some ⟨g, 0, none⟩)] #[]]) rfl)
        have hb := below_set (j := 0) (v := .func (.func 20) #[.pointer (some ⟨g, 0, none⟩)] #[]) HWB.out GQ.out
        clear BQ qQ zQ HWB GQ
        have BQ := BQ2
        clear BQ2
        generalize World.setCell w4 ⟨gq, 0, none⟩ (.func (.func 20) #[.pointer (some ⟨g, 0, none⟩)] #[]) = w5 at hb BQ ⊢
        have n1 := Aside0.mk (HG.out.below hb)
        have n2 := Aside0.mk (blk_below BB.out hb)
        have n3 := Aside0.mk (blk_below BP.out hb)
        have n4 := Aside0.mk (below_step HB.out hb)
        clear HG BB BP HB hb
        have HG := n1
        have BB := n2
        have BP := n3
        have HB := n4
        clear n1 n2 n3 n4
        have qF : World.cell? w5 ⟨gq, 0, none⟩ = some (.func (.func 20) #[.pointer (some ⟨g, 0, none⟩)] #[]) := (blk_cell BQ.out 0).trans rfl
        obtain ⟨⟨se, s'⟩, hst⟩ : ∃ p, configF l0 s = p := ⟨_, rfl⟩
        have ST := Aside0.mk hst
        have ST' := Aside0.mk (show stepF l0 0 s = (se, s') from hst)
        have e := RUN.out
        rw [show 5 - 0 = 4 + 1 from rfl] at e
        unfold runF at e
        rw [ST'.out] at e
        by_cases hse : se = 0
        · subst hse
          rw [if_neg (by simp)] at e
          have E := Aside0.mk e
          clear e hst
          go_wp2_with (first | (go_at_call 20; refine (config_calls _ g A0 c0 l0 s _ HG.out HX.out).mono ?_; rintro e w6 ⟨he, hg, hb, hf⟩; rw [ST.out] at he hg; subst he; have n1 := Aside0.mk hg; have n2 := Aside0.mk (hf.blk BB.out (by decide)); have n3 := Aside0.mk (hf.blk BP.out (by decide)); have n4 := Aside0.mk (HB.out.trans hb); clear HG BB BP HB BQ qF hg hb hf; have HG := n1; have BB := n2; have BP := n3; have HB := n4; clear n1 n2 n3 n4))
          go_roundg (4)
          case measure => have := HGG.out; omega
          case rel => exact ⟨1, s', by omega, by omega, by rfl, E, ⟨IV.out.step (by omega) ST'.out⟩, HG, BB, BP, HB⟩
        · have hcb : (se != 0) = true := by simp [hse]
          rw [if_pos hse] at e
          have E := Aside0.mk e
          clear e hst
          go_upto_region 7 with (first | (go_at_call 20; refine (config_calls _ g A0 c0 l0 s _ HG.out HX.out).mono ?_; rintro e w6 ⟨he, hg, hb, hf⟩; rw [ST.out] at he hg; subst he; have n1 := Aside0.mk hg; have n2 := Aside0.mk (hf.blk BB.out (by decide)); have n3 := Aside0.mk (hf.blk BP.out (by decide)); have n4 := Aside0.mk (HB.out.trans hb); clear HG BB BP HB BQ qF hg hb hf; have HG := n1; have BB := n2; have BP := n3; have HB := n4; clear n1 n2 n3 n4))
          obtain ⟨hge, hbs, hlc, hlm, hat, hcb, vf, vd, va, vp, hg0, hown⟩ := HG.out
          have BS := Aside0.mk hg0
          have CBw := Aside0.mk hcb
          have OW := Aside0.mk hown
          have GE := Aside0.mk hge
          have BASE := Aside0.mk hbs
          clear hbs hcb hg0 hown hge
          have hb := below_drew (Below.refl w6.heap.size w6)
          have n1 := Aside0.mk (blk_below BS.out hb)
          have n2 := Aside0.mk (blk_below BB.out hb)
          have n3 := Aside0.mk (below_step HB.out hb)
          clear BS BB HB hb
          have BS := n1
          have BB := n2
          have HB := n3
          clear n1 n2 n3
          refine start_ (n := 9) (S := fun w' => w'.heap[g]? = some (.cells #[.slice A0 l0.length c0, .int .i64 s'.at_, .int .i64 s'.c.f0, .int .i64 s'.c.f1, .int .i64 s'.c.f2, .int .i64 s'.c.f3, .int .i64 s'.c.f4, .int .i64 s'.c.f5, vf, vd, va, vp] 53 (0, 0))) (ds := []) #[false, false, false, false, false, false, false, false, false] (by kernel_rfl) rfl rfl (BS.out) (fun hHeld => ?_)
          generalize World.drew _ = wS at BS BB HB hHeld ⊢
          refine pure_ (i := 0) (N := (some 38)) (v := ?_) (a' := ?_) #[true, false, false, false, false, false, false, false, false] rfl rfl (by kernel_rfl) (fun _ _ _ h => h) (Or.inl ⟨by rfl, ?_⟩) ?_ ?_
          rotate_left
          · intro w'
            go_simp
            with_reducible rfl
          rotate_left
          · (try simp only [Act.put, List.setIfInBounds_toArray, List.set_cons_zero, List.set_cons_succ, i64_w, i32_w])
            rfl
          refine pure_ (i := 1) (N := (some 39)) (v := ?_) (a' := ?_) #[true, true, false, false, false, false, false, false, false] rfl rfl (by kernel_rfl) (fun _ _ _ h => h) (Or.inl ⟨by rfl, ?_⟩) ?_ ?_
          rotate_left
          · intro w'
            go_simp
            with_reducible rfl
          rotate_left
          · (try simp only [Act.put, List.setIfInBounds_toArray, List.set_cons_zero, List.set_cons_succ, i64_w, i32_w])
            rfl
          refine pure_ (i := 2) (N := (some 40)) (v := ?_) (a' := ?_) #[true, true, true, false, false, false, false, false, false] rfl rfl (by kernel_rfl) (fun _ _ _ h => h) (Or.inl ⟨by rfl, ?_⟩) ?_ ?_
          rotate_left
          · intro w'
            go_simp
            with_reducible rfl
          rotate_left
          · (try simp only [Act.put, List.setIfInBounds_toArray, List.set_cons_zero, List.set_cons_succ, i64_w, i32_w])
            rfl
          refine pure_ (i := 3) (N := (some 41)) (v := ?_) (a' := ?_) #[true, true, true, true, false, false, false, false, false] rfl rfl (by kernel_rfl) (fun _ _ _ h => h) (Or.inl ⟨by rfl, ?_⟩) ?_ ?_
          rotate_left
          · intro w'
            go_simp
            with_reducible rfl
          rotate_left
          · (try simp only [Act.put, List.setIfInBounds_toArray, List.set_cons_zero, List.set_cons_succ, i64_w, i32_w])
            rfl
          refine take_ (i := 4) (N := some 42) (v := ?_) (a' := ?_) #[true, true, true, true, true, false, false, false, false] rfl rfl (by kernel_rfl) (fun _ _ _ h => h) (Or.inl ⟨by rfl, ?_⟩) hHeld ?_ ?_
          rotate_left
          · intro w' s0
            have p1 : World.cell? w' ⟨g, 1, none⟩ = some (.int .i64 s'.at_) := (blk_cell s0 1).trans rfl
            go_simp
            with_reducible rfl
          rotate_left
          · (try simp only [Act.put, List.setIfInBounds_toArray, List.set_cons_zero, List.set_cons_succ, i64_w, i32_w])
            rfl
          refine pure_ (i := 5) (N := (some 43)) (v := ?_) (a' := ?_) #[true, true, true, true, true, true, false, false, false] rfl rfl (by kernel_rfl) (fun _ _ _ h => h) (Or.inl ⟨by rfl, ?_⟩) ?_ ?_
          rotate_left
          · intro w'
            go_simp
            with_reducible rfl
          rotate_left
          · (try simp only [Act.put, List.setIfInBounds_toArray, List.set_cons_zero, List.set_cons_succ, i64_w, i32_w])
            rfl
          refine one_ (i := 6) (N := none) #[true, true, true, true, true, true, true, false, false] rfl rfl (by kernel_rfl) (by decide) (fun K hK => ?_)
          refine skip_ (w1 := (World.setCell (World.setCell (World.setCell (World.setCell (World.setCell (World.setCell (World.setCell (World.setCell (World.setCell (World.setCell wS ⟨gb, 0, none⟩ (.int .i64 0)) ⟨gb, 1, none⟩ (.int .i64 0)) ⟨gb, 2, none⟩ (.int .i64 0)) ⟨gb, 3, none⟩ (.int .i64 0)) ⟨gb, 4, none⟩ (.int .i64 0)) ⟨gb, 5, none⟩ (.int .i64 0)) ⟨gb, 6, none⟩ (.slice none 0 0)) ⟨gb, 7, none⟩ (.slice none 0 0)) ⟨gb, 8, none⟩ (.slice none 0 0)) ⟨gb, 9, none⟩ (.slice none 0 0))) (by rfl) rfl ?_ ?_
          · have b0 : World.cell? wS ⟨gb, 0, none⟩ = some (.int .i64 0) := (blk_cell BB.out 0).trans rfl; have b1 : World.cell? wS ⟨gb, 1, none⟩ = some (.int .i64 0) := (blk_cell BB.out 1).trans rfl; have b2 : World.cell? wS ⟨gb, 2, none⟩ = some (.int .i64 0) := (blk_cell BB.out 2).trans rfl; have b3 : World.cell? wS ⟨gb, 3, none⟩ = some (.int .i64 0) := (blk_cell BB.out 3).trans rfl; have b4 : World.cell? wS ⟨gb, 4, none⟩ = some (.int .i64 0) := (blk_cell BB.out 4).trans rfl; have b5 : World.cell? wS ⟨gb, 5, none⟩ = some (.int .i64 0) := (blk_cell BB.out 5).trans rfl; have b6 : World.cell? wS ⟨gb, 6, none⟩ = some (.slice none 0 0) := (blk_cell BB.out 6).trans rfl; have b7 : World.cell? wS ⟨gb, 7, none⟩ = some (.slice none 0 0) := (blk_cell BB.out 7).trans rfl; have b8 : World.cell? wS ⟨gb, 8, none⟩ = some (.slice none 0 0) := (blk_cell BB.out 8).trans rfl; have b9 : World.cell? wS ⟨gb, 9, none⟩ = some (.slice none 0 0) := (blk_cell BB.out 9).trans rfl; have y0 : World.frozen? wS ⟨gb, 0, none⟩ = false := blk_frozen BB.out 0; have y1 : World.frozen? wS ⟨gb, 1, none⟩ = false := blk_frozen BB.out 1; have y2 : World.frozen? wS ⟨gb, 2, none⟩ = false := blk_frozen BB.out 2; have y3 : World.frozen? wS ⟨gb, 3, none⟩ = false := blk_frozen BB.out 3; have y4 : World.frozen? wS ⟨gb, 4, none⟩ = false := blk_frozen BB.out 4; have y5 : World.frozen? wS ⟨gb, 5, none⟩ = false := blk_frozen BB.out 5; have y6 : World.frozen? wS ⟨gb, 6, none⟩ = false := blk_frozen BB.out 6; have y7 : World.frozen? wS ⟨gb, 7, none⟩ = false := blk_frozen BB.out 7; have y8 : World.frozen? wS ⟨gb, 8, none⟩ = false := blk_frozen BB.out 8; have y9 : World.frozen? wS ⟨gb, 9, none⟩ = false := blk_frozen BB.out 9; go_simp
          have g0 := BB.out
          have f0 := Fr.refl [30] wS
          have f1 := f0.set (p := ⟨gb, 0, none⟩) g0 (by decide) (.int .i64 0)
          have g1 := blk_put g0 0 (.int .i64 0) (cs' := #[.int .i64 0, .int .i64 0, .int .i64 0, .int .i64 0, .int .i64 0, .int .i64 0, .slice none 0 0, .slice none 0 0, .slice none 0 0, .slice none 0 0]) rfl
          have f2 := f1.set (p := ⟨gb, 1, none⟩) g1 (by decide) (.int .i64 0)
          have g2 := blk_put g1 1 (.int .i64 0) (cs' := #[.int .i64 0, .int .i64 0, .int .i64 0, .int .i64 0, .int .i64 0, .int .i64 0, .slice none 0 0, .slice none 0 0, .slice none 0 0, .slice none 0 0]) rfl
          have f3 := f2.set (p := ⟨gb, 2, none⟩) g2 (by decide) (.int .i64 0)
          have g3 := blk_put g2 2 (.int .i64 0) (cs' := #[.int .i64 0, .int .i64 0, .int .i64 0, .int .i64 0, .int .i64 0, .int .i64 0, .slice none 0 0, .slice none 0 0, .slice none 0 0, .slice none 0 0]) rfl
          have f4 := f3.set (p := ⟨gb, 3, none⟩) g3 (by decide) (.int .i64 0)
          have g4 := blk_put g3 3 (.int .i64 0) (cs' := #[.int .i64 0, .int .i64 0, .int .i64 0, .int .i64 0, .int .i64 0, .int .i64 0, .slice none 0 0, .slice none 0 0, .slice none 0 0, .slice none 0 0]) rfl
          have f5 := f4.set (p := ⟨gb, 4, none⟩) g4 (by decide) (.int .i64 0)
          have g5 := blk_put g4 4 (.int .i64 0) (cs' := #[.int .i64 0, .int .i64 0, .int .i64 0, .int .i64 0, .int .i64 0, .int .i64 0, .slice none 0 0, .slice none 0 0, .slice none 0 0, .slice none 0 0]) rfl
          have f6 := f5.set (p := ⟨gb, 5, none⟩) g5 (by decide) (.int .i64 0)
          have g6 := blk_put g5 5 (.int .i64 0) (cs' := #[.int .i64 0, .int .i64 0, .int .i64 0, .int .i64 0, .int .i64 0, .int .i64 0, .slice none 0 0, .slice none 0 0, .slice none 0 0, .slice none 0 0]) rfl
          have f7 := f6.set (p := ⟨gb, 6, none⟩) g6 (by decide) (.slice none 0 0)
          have g7 := blk_put g6 6 (.slice none 0 0) (cs' := #[.int .i64 0, .int .i64 0, .int .i64 0, .int .i64 0, .int .i64 0, .int .i64 0, .slice none 0 0, .slice none 0 0, .slice none 0 0, .slice none 0 0]) rfl
          have f8 := f7.set (p := ⟨gb, 7, none⟩) g7 (by decide) (.slice none 0 0)
          have g8 := blk_put g7 7 (.slice none 0 0) (cs' := #[.int .i64 0, .int .i64 0, .int .i64 0, .int .i64 0, .int .i64 0, .int .i64 0, .slice none 0 0, .slice none 0 0, .slice none 0 0, .slice none 0 0]) rfl
          have f9 := f8.set (p := ⟨gb, 8, none⟩) g8 (by decide) (.slice none 0 0)
          have g9 := blk_put g8 8 (.slice none 0 0) (cs' := #[.int .i64 0, .int .i64 0, .int .i64 0, .int .i64 0, .int .i64 0, .int .i64 0, .slice none 0 0, .slice none 0 0, .slice none 0 0, .slice none 0 0]) rfl
          have f10 := f9.set (p := ⟨gb, 9, none⟩) g9 (by decide) (.slice none 0 0)
          have g10 := blk_put g9 9 (.slice none 0 0) (cs' := #[.int .i64 0, .int .i64 0, .int .i64 0, .int .i64 0, .int .i64 0, .int .i64 0, .slice none 0 0, .slice none 0 0, .slice none 0 0, .slice none 0 0]) rfl
          have hx := (set_base (j := 9) (v := .slice none 0 0) (set_base (j := 8) (v := .slice none 0 0) (set_base (j := 7) (v := .slice none 0 0) (set_base (j := 6) (v := .slice none 0 0) (set_base (j := 5) (v := .int .i64 0) (set_base (j := 4) (v := .int .i64 0) (set_base (j := 3) (v := .int .i64 0) (set_base (j := 2) (v := .int .i64 0) (set_base (j := 1) (v := .int .i64 0) (set_base (j := 0) (v := .int .i64 0) HB.out GBB.out) GBB.out) GBB.out) GBB.out) GBB.out) GBB.out) GBB.out) GBB.out) GBB.out) GBB.out)
          have hh := f10.blk BS.out (by decide)
          clear hHeld
          have hHeld := hh
          clear hh
          refine hK.out _ _ hHeld (fun _ => ?_)
          clear hK K
          refine pure_ (i := 7) (N := (some 3)) (v := ?_) (a' := ?_) #[true, true, true, true, true, true, true, true, false] rfl rfl (by kernel_rfl) (fun _ _ _ h => h) (Or.inl ⟨by rfl, ?_⟩) ?_ ?_
          rotate_left
          · intro w'
            go_simp
            with_reducible rfl
          rotate_left
          · (try simp only [Act.put, List.setIfInBounds_toArray, List.set_cons_zero, List.set_cons_succ, i64_w, i32_w])
            rfl
          refine pure_ (i := 8) (N := (some 4)) (v := ?_) (a' := ?_) #[true, true, true, true, true, true, true, true, true] rfl rfl (by kernel_rfl) (fun _ _ _ h => h) (Or.inl ⟨by rfl, ?_⟩) ?_ ?_
          rotate_left
          · intro w'
            go_simp
            with_reducible rfl
          rotate_left
          · (try simp only [Act.put, List.setIfInBounds_toArray, List.set_cons_zero, List.set_cons_succ, i64_w, i32_w])
            rfl
          refine done_ (by kernel_rfl) ?_
          go_wp2
          refine bodyPost_ret (results_ctt rfl _ _ gb 30 #[.int .i64 0, .int .i64 0, .int .i64 0, .int .i64 0, .int .i64 0, .int .i64 0, .slice none 0 0, .slice none 0 0, .slice none 0 0, .slice none 0 0] (0, 0) _ rfl g10 Try.underlying30 rfl (by kernel_rfl)) rfl ?_
          have hG : getF l0 = (rd0, (s'.at_ : Int), se) := by unfold getF; rw [GF.out, ← E.out, if_pos hse]
          unfold GetOk
          rw [hG]
          exact ⟨_, _, _, _, rfl, ⟨Kd.R_nil _ _ _ _ _, Kd.R_nil _ _ _ _ _, Kd.R_nil _ _ _ _ _, Kd.R_nil _ _ _ _ _⟩, hx⟩
      by_cases hk1 : i = 1
      · subst hk1
        have pI : World.cell? wr ⟨gp, 1, none⟩ = some (.func (.func 21) #[.pointer (some ⟨g, 0, none⟩)] #[]) := (blk_cell BP.out 1).trans rfl
        go_upto_region 5 with (first | ((with_reducible refine gate_dst (N := 7) rfl ?_); refine box_event ?hg (N := 7) ?hd (cs := #[.nilFunc]) (t := 56) ?hr ?_; (case hd => rfl); (case hg => rfl); (case hr => first | (go_simp; done) | (go_simp; rfl)); intro gq hgx w4 hbox hb; have HWB := Aside0.mk hb; have BQ := Aside0.mk hbox; have qQ : World.cell? w4 ⟨gq, 0, none⟩ = some .nilFunc := (blk_cell BQ.out 0).trans rfl; have zQ : World.frozen? w4 ⟨gq, 0, none⟩ = false := blk_frozen BQ.out 0; have GQ := Aside0.mk (Nat.le_of_eq hgx.symm : wr.heap.size ≤ gq); clear pI hgx hbox hb))
        have BQ2 := Aside0.mk (blk_put BQ.out 0 (.func (.func 21) #[.pointer (some ⟨g, 0, none⟩)] #[]) (cs' := #[.func (.func 21) #[.pointer (some ⟨g, 0, none⟩)] #[]]) rfl)
        have hb := below_set (j := 0) (v := .func (.func 21) #[.pointer (some ⟨g, 0, none⟩)] #[]) HWB.out GQ.out
        clear BQ qQ zQ HWB GQ
        have BQ := BQ2
        clear BQ2
        generalize World.setCell w4 ⟨gq, 0, none⟩ (.func (.func 21) #[.pointer (some ⟨g, 0, none⟩)] #[]) = w5 at hb BQ ⊢
        have n1 := Aside0.mk (HG.out.below hb)
        have n2 := Aside0.mk (blk_below BB.out hb)
        have n3 := Aside0.mk (blk_below BP.out hb)
        have n4 := Aside0.mk (below_step HB.out hb)
        clear HG BB BP HB hb
        have HG := n1
        have BB := n2
        have BP := n3
        have HB := n4
        clear n1 n2 n3 n4
        have qF : World.cell? w5 ⟨gq, 0, none⟩ = some (.func (.func 21) #[.pointer (some ⟨g, 0, none⟩)] #[]) := (blk_cell BQ.out 0).trans rfl
        obtain ⟨⟨se, s'⟩, hst⟩ : ∃ p, firstF l0 s = p := ⟨_, rfl⟩
        have ST := Aside0.mk hst
        have ST' := Aside0.mk (show stepF l0 1 s = (se, s') from hst)
        have e := RUN.out
        rw [show 5 - 1 = 3 + 1 from rfl] at e
        unfold runF at e
        rw [ST'.out] at e
        by_cases hse : se = 0
        · subst hse
          rw [if_neg (by simp)] at e
          have E := Aside0.mk e
          clear e hst
          go_wp2_with (first | (go_at_call 21; refine (first_calls _ g A0 c0 l0 s _ HG.out HX.out (IV.out.c0 (by omega)).1 (IV.out.c0 (by omega)).2 (by rw [IV.out.f (by omega)]; simp)).mono ?_; rintro e w6 ⟨he, hg, hb, hf⟩; rw [ST.out] at he hg; subst he; have n1 := Aside0.mk hg; have n2 := Aside0.mk (hf.blk BB.out (by decide)); have n3 := Aside0.mk (hf.blk BP.out (by decide)); have n4 := Aside0.mk (HB.out.trans hb); clear HG BB BP HB BQ qF hg hb hf; have HG := n1; have BB := n2; have BP := n3; have HB := n4; clear n1 n2 n3 n4))
          go_roundg (3)
          case measure => have := HGG.out; omega
          case rel => exact ⟨2, s', by omega, by omega, by rfl, E, ⟨IV.out.step (by omega) ST'.out⟩, HG, BB, BP, HB⟩
        · have hcb : (se != 0) = true := by simp [hse]
          rw [if_pos hse] at e
          have E := Aside0.mk e
          clear e hst
          go_upto_region 7 with (first | (go_at_call 21; refine (first_calls _ g A0 c0 l0 s _ HG.out HX.out (IV.out.c0 (by omega)).1 (IV.out.c0 (by omega)).2 (by rw [IV.out.f (by omega)]; simp)).mono ?_; rintro e w6 ⟨he, hg, hb, hf⟩; rw [ST.out] at he hg; subst he; have n1 := Aside0.mk hg; have n2 := Aside0.mk (hf.blk BB.out (by decide)); have n3 := Aside0.mk (hf.blk BP.out (by decide)); have n4 := Aside0.mk (HB.out.trans hb); clear HG BB BP HB BQ qF hg hb hf; have HG := n1; have BB := n2; have BP := n3; have HB := n4; clear n1 n2 n3 n4))
          obtain ⟨hge, hbs, hlc, hlm, hat, hcb, vf, vd, va, vp, hg0, hown⟩ := HG.out
          have BS := Aside0.mk hg0
          have CBw := Aside0.mk hcb
          have OW := Aside0.mk hown
          have GE := Aside0.mk hge
          have BASE := Aside0.mk hbs
          clear hbs hcb hg0 hown hge
          have hb := below_drew (Below.refl w6.heap.size w6)
          have n1 := Aside0.mk (blk_below BS.out hb)
          have n2 := Aside0.mk (blk_below BB.out hb)
          have n3 := Aside0.mk (below_step HB.out hb)
          clear BS BB HB hb
          have BS := n1
          have BB := n2
          have HB := n3
          clear n1 n2 n3
          refine start_ (n := 9) (S := fun w' => w'.heap[g]? = some (.cells #[.slice A0 l0.length c0, .int .i64 s'.at_, .int .i64 s'.c.f0, .int .i64 s'.c.f1, .int .i64 s'.c.f2, .int .i64 s'.c.f3, .int .i64 s'.c.f4, .int .i64 s'.c.f5, vf, vd, va, vp] 53 (0, 0))) (ds := []) #[false, false, false, false, false, false, false, false, false] (by kernel_rfl) rfl rfl (BS.out) (fun hHeld => ?_)
          generalize World.drew _ = wS at BS BB HB hHeld ⊢
          refine pure_ (i := 0) (N := (some 38)) (v := ?_) (a' := ?_) #[true, false, false, false, false, false, false, false, false] rfl rfl (by kernel_rfl) (fun _ _ _ h => h) (Or.inl ⟨by rfl, ?_⟩) ?_ ?_
          rotate_left
          · intro w'
            go_simp
            with_reducible rfl
          rotate_left
          · (try simp only [Act.put, List.setIfInBounds_toArray, List.set_cons_zero, List.set_cons_succ, i64_w, i32_w])
            rfl
          refine pure_ (i := 1) (N := (some 39)) (v := ?_) (a' := ?_) #[true, true, false, false, false, false, false, false, false] rfl rfl (by kernel_rfl) (fun _ _ _ h => h) (Or.inl ⟨by rfl, ?_⟩) ?_ ?_
          rotate_left
          · intro w'
            go_simp
            with_reducible rfl
          rotate_left
          · (try simp only [Act.put, List.setIfInBounds_toArray, List.set_cons_zero, List.set_cons_succ, i64_w, i32_w])
            rfl
          refine pure_ (i := 2) (N := (some 40)) (v := ?_) (a' := ?_) #[true, true, true, false, false, false, false, false, false] rfl rfl (by kernel_rfl) (fun _ _ _ h => h) (Or.inl ⟨by rfl, ?_⟩) ?_ ?_
          rotate_left
          · intro w'
            go_simp
            with_reducible rfl
          rotate_left
          · (try simp only [Act.put, List.setIfInBounds_toArray, List.set_cons_zero, List.set_cons_succ, i64_w, i32_w])
            rfl
          refine pure_ (i := 3) (N := (some 41)) (v := ?_) (a' := ?_) #[true, true, true, true, false, false, false, false, false] rfl rfl (by kernel_rfl) (fun _ _ _ h => h) (Or.inl ⟨by rfl, ?_⟩) ?_ ?_
          rotate_left
          · intro w'
            go_simp
            with_reducible rfl
          rotate_left
          · (try simp only [Act.put, List.setIfInBounds_toArray, List.set_cons_zero, List.set_cons_succ, i64_w, i32_w])
            rfl
          refine take_ (i := 4) (N := some 42) (v := ?_) (a' := ?_) #[true, true, true, true, true, false, false, false, false] rfl rfl (by kernel_rfl) (fun _ _ _ h => h) (Or.inl ⟨by rfl, ?_⟩) hHeld ?_ ?_
          rotate_left
          · intro w' s0
            have p1 : World.cell? w' ⟨g, 1, none⟩ = some (.int .i64 s'.at_) := (blk_cell s0 1).trans rfl
            go_simp
            with_reducible rfl
          rotate_left
          · (try simp only [Act.put, List.setIfInBounds_toArray, List.set_cons_zero, List.set_cons_succ, i64_w, i32_w])
            rfl
          refine pure_ (i := 5) (N := (some 43)) (v := ?_) (a' := ?_) #[true, true, true, true, true, true, false, false, false] rfl rfl (by kernel_rfl) (fun _ _ _ h => h) (Or.inl ⟨by rfl, ?_⟩) ?_ ?_
          rotate_left
          · intro w'
            go_simp
            with_reducible rfl
          rotate_left
          · (try simp only [Act.put, List.setIfInBounds_toArray, List.set_cons_zero, List.set_cons_succ, i64_w, i32_w])
            rfl
          refine one_ (i := 6) (N := none) #[true, true, true, true, true, true, true, false, false] rfl rfl (by kernel_rfl) (by decide) (fun K hK => ?_)
          refine skip_ (w1 := (World.setCell (World.setCell (World.setCell (World.setCell (World.setCell (World.setCell (World.setCell (World.setCell (World.setCell (World.setCell wS ⟨gb, 0, none⟩ (.int .i64 0)) ⟨gb, 1, none⟩ (.int .i64 0)) ⟨gb, 2, none⟩ (.int .i64 0)) ⟨gb, 3, none⟩ (.int .i64 0)) ⟨gb, 4, none⟩ (.int .i64 0)) ⟨gb, 5, none⟩ (.int .i64 0)) ⟨gb, 6, none⟩ (.slice none 0 0)) ⟨gb, 7, none⟩ (.slice none 0 0)) ⟨gb, 8, none⟩ (.slice none 0 0)) ⟨gb, 9, none⟩ (.slice none 0 0))) (by rfl) rfl ?_ ?_
          · have b0 : World.cell? wS ⟨gb, 0, none⟩ = some (.int .i64 0) := (blk_cell BB.out 0).trans rfl; have b1 : World.cell? wS ⟨gb, 1, none⟩ = some (.int .i64 0) := (blk_cell BB.out 1).trans rfl; have b2 : World.cell? wS ⟨gb, 2, none⟩ = some (.int .i64 0) := (blk_cell BB.out 2).trans rfl; have b3 : World.cell? wS ⟨gb, 3, none⟩ = some (.int .i64 0) := (blk_cell BB.out 3).trans rfl; have b4 : World.cell? wS ⟨gb, 4, none⟩ = some (.int .i64 0) := (blk_cell BB.out 4).trans rfl; have b5 : World.cell? wS ⟨gb, 5, none⟩ = some (.int .i64 0) := (blk_cell BB.out 5).trans rfl; have b6 : World.cell? wS ⟨gb, 6, none⟩ = some (.slice none 0 0) := (blk_cell BB.out 6).trans rfl; have b7 : World.cell? wS ⟨gb, 7, none⟩ = some (.slice none 0 0) := (blk_cell BB.out 7).trans rfl; have b8 : World.cell? wS ⟨gb, 8, none⟩ = some (.slice none 0 0) := (blk_cell BB.out 8).trans rfl; have b9 : World.cell? wS ⟨gb, 9, none⟩ = some (.slice none 0 0) := (blk_cell BB.out 9).trans rfl; have y0 : World.frozen? wS ⟨gb, 0, none⟩ = false := blk_frozen BB.out 0; have y1 : World.frozen? wS ⟨gb, 1, none⟩ = false := blk_frozen BB.out 1; have y2 : World.frozen? wS ⟨gb, 2, none⟩ = false := blk_frozen BB.out 2; have y3 : World.frozen? wS ⟨gb, 3, none⟩ = false := blk_frozen BB.out 3; have y4 : World.frozen? wS ⟨gb, 4, none⟩ = false := blk_frozen BB.out 4; have y5 : World.frozen? wS ⟨gb, 5, none⟩ = false := blk_frozen BB.out 5; have y6 : World.frozen? wS ⟨gb, 6, none⟩ = false := blk_frozen BB.out 6; have y7 : World.frozen? wS ⟨gb, 7, none⟩ = false := blk_frozen BB.out 7; have y8 : World.frozen? wS ⟨gb, 8, none⟩ = false := blk_frozen BB.out 8; have y9 : World.frozen? wS ⟨gb, 9, none⟩ = false := blk_frozen BB.out 9; go_simp
          have g0 := BB.out
          have f0 := Fr.refl [30] wS
          have f1 := f0.set (p := ⟨gb, 0, none⟩) g0 (by decide) (.int .i64 0)
          have g1 := blk_put g0 0 (.int .i64 0) (cs' := #[.int .i64 0, .int .i64 0, .int .i64 0, .int .i64 0, .int .i64 0, .int .i64 0, .slice none 0 0, .slice none 0 0, .slice none 0 0, .slice none 0 0]) rfl
          have f2 := f1.set (p := ⟨gb, 1, none⟩) g1 (by decide) (.int .i64 0)
          have g2 := blk_put g1 1 (.int .i64 0) (cs' := #[.int .i64 0, .int .i64 0, .int .i64 0, .int .i64 0, .int .i64 0, .int .i64 0, .slice none 0 0, .slice none 0 0, .slice none 0 0, .slice none 0 0]) rfl
          have f3 := f2.set (p := ⟨gb, 2, none⟩) g2 (by decide) (.int .i64 0)
          have g3 := blk_put g2 2 (.int .i64 0) (cs' := #[.int .i64 0, .int .i64 0, .int .i64 0, .int .i64 0, .int .i64 0, .int .i64 0, .slice none 0 0, .slice none 0 0, .slice none 0 0, .slice none 0 0]) rfl
          have f4 := f3.set (p := ⟨gb, 3, none⟩) g3 (by decide) (.int .i64 0)
          have g4 := blk_put g3 3 (.int .i64 0) (cs' := #[.int .i64 0, .int .i64 0, .int .i64 0, .int .i64 0, .int .i64 0, .int .i64 0, .slice none 0 0, .slice none 0 0, .slice none 0 0, .slice none 0 0]) rfl
          have f5 := f4.set (p := ⟨gb, 4, none⟩) g4 (by decide) (.int .i64 0)
          have g5 := blk_put g4 4 (.int .i64 0) (cs' := #[.int .i64 0, .int .i64 0, .int .i64 0, .int .i64 0, .int .i64 0, .int .i64 0, .slice none 0 0, .slice none 0 0, .slice none 0 0, .slice none 0 0]) rfl
          have f6 := f5.set (p := ⟨gb, 5, none⟩) g5 (by decide) (.int .i64 0)
          have g6 := blk_put g5 5 (.int .i64 0) (cs' := #[.int .i64 0, .int .i64 0, .int .i64 0, .int .i64 0, .int .i64 0, .int .i64 0, .slice none 0 0, .slice none 0 0, .slice none 0 0, .slice none 0 0]) rfl
          have f7 := f6.set (p := ⟨gb, 6, none⟩) g6 (by decide) (.slice none 0 0)
          have g7 := blk_put g6 6 (.slice none 0 0) (cs' := #[.int .i64 0, .int .i64 0, .int .i64 0, .int .i64 0, .int .i64 0, .int .i64 0, .slice none 0 0, .slice none 0 0, .slice none 0 0, .slice none 0 0]) rfl
          have f8 := f7.set (p := ⟨gb, 7, none⟩) g7 (by decide) (.slice none 0 0)
          have g8 := blk_put g7 7 (.slice none 0 0) (cs' := #[.int .i64 0, .int .i64 0, .int .i64 0, .int .i64 0, .int .i64 0, .int .i64 0, .slice none 0 0, .slice none 0 0, .slice none 0 0, .slice none 0 0]) rfl
          have f9 := f8.set (p := ⟨gb, 8, none⟩) g8 (by decide) (.slice none 0 0)
          have g9 := blk_put g8 8 (.slice none 0 0) (cs' := #[.int .i64 0, .int .i64 0, .int .i64 0, .int .i64 0, .int .i64 0, .int .i64 0, .slice none 0 0, .slice none 0 0, .slice none 0 0, .slice none 0 0]) rfl
          have f10 := f9.set (p := ⟨gb, 9, none⟩) g9 (by decide) (.slice none 0 0)
          have g10 := blk_put g9 9 (.slice none 0 0) (cs' := #[.int .i64 0, .int .i64 0, .int .i64 0, .int .i64 0, .int .i64 0, .int .i64 0, .slice none 0 0, .slice none 0 0, .slice none 0 0, .slice none 0 0]) rfl
          have hx := (set_base (j := 9) (v := .slice none 0 0) (set_base (j := 8) (v := .slice none 0 0) (set_base (j := 7) (v := .slice none 0 0) (set_base (j := 6) (v := .slice none 0 0) (set_base (j := 5) (v := .int .i64 0) (set_base (j := 4) (v := .int .i64 0) (set_base (j := 3) (v := .int .i64 0) (set_base (j := 2) (v := .int .i64 0) (set_base (j := 1) (v := .int .i64 0) (set_base (j := 0) (v := .int .i64 0) HB.out GBB.out) GBB.out) GBB.out) GBB.out) GBB.out) GBB.out) GBB.out) GBB.out) GBB.out) GBB.out)
          have hh := f10.blk BS.out (by decide)
          clear hHeld
          have hHeld := hh
          clear hh
          refine hK.out _ _ hHeld (fun _ => ?_)
          clear hK K
          refine pure_ (i := 7) (N := (some 3)) (v := ?_) (a' := ?_) #[true, true, true, true, true, true, true, true, false] rfl rfl (by kernel_rfl) (fun _ _ _ h => h) (Or.inl ⟨by rfl, ?_⟩) ?_ ?_
          rotate_left
          · intro w'
            go_simp
            with_reducible rfl
          rotate_left
          · (try simp only [Act.put, List.setIfInBounds_toArray, List.set_cons_zero, List.set_cons_succ, i64_w, i32_w])
            rfl
          refine pure_ (i := 8) (N := (some 4)) (v := ?_) (a' := ?_) #[true, true, true, true, true, true, true, true, true] rfl rfl (by kernel_rfl) (fun _ _ _ h => h) (Or.inl ⟨by rfl, ?_⟩) ?_ ?_
          rotate_left
          · intro w'
            go_simp
            with_reducible rfl
          rotate_left
          · (try simp only [Act.put, List.setIfInBounds_toArray, List.set_cons_zero, List.set_cons_succ, i64_w, i32_w])
            rfl
          refine done_ (by kernel_rfl) ?_
          go_wp2
          refine bodyPost_ret (results_ctt rfl _ _ gb 30 #[.int .i64 0, .int .i64 0, .int .i64 0, .int .i64 0, .int .i64 0, .int .i64 0, .slice none 0 0, .slice none 0 0, .slice none 0 0, .slice none 0 0] (0, 0) _ rfl g10 Try.underlying30 rfl (by kernel_rfl)) rfl ?_
          have hG : getF l0 = (rd0, (s'.at_ : Int), se) := by unfold getF; rw [GF.out, ← E.out, if_pos hse]
          unfold GetOk
          rw [hG]
          exact ⟨_, _, _, _, rfl, ⟨Kd.R_nil _ _ _ _ _, Kd.R_nil _ _ _ _ _, Kd.R_nil _ _ _ _ _, Kd.R_nil _ _ _ _ _⟩, hx⟩
      by_cases hk2 : i = 2
      · subst hk2
        have pI : World.cell? wr ⟨gp, 2, none⟩ = some (.func (.func 22) #[.pointer (some ⟨g, 0, none⟩)] #[]) := (blk_cell BP.out 2).trans rfl
        go_upto_region 5 with (first | ((with_reducible refine gate_dst (N := 7) rfl ?_); refine box_event ?hg (N := 7) ?hd (cs := #[.nilFunc]) (t := 56) ?hr ?_; (case hd => rfl); (case hg => rfl); (case hr => first | (go_simp; done) | (go_simp; rfl)); intro gq hgx w4 hbox hb; have HWB := Aside0.mk hb; have BQ := Aside0.mk hbox; have qQ : World.cell? w4 ⟨gq, 0, none⟩ = some .nilFunc := (blk_cell BQ.out 0).trans rfl; have zQ : World.frozen? w4 ⟨gq, 0, none⟩ = false := blk_frozen BQ.out 0; have GQ := Aside0.mk (Nat.le_of_eq hgx.symm : wr.heap.size ≤ gq); clear pI hgx hbox hb))
        have BQ2 := Aside0.mk (blk_put BQ.out 0 (.func (.func 22) #[.pointer (some ⟨g, 0, none⟩)] #[]) (cs' := #[.func (.func 22) #[.pointer (some ⟨g, 0, none⟩)] #[]]) rfl)
        have hb := below_set (j := 0) (v := .func (.func 22) #[.pointer (some ⟨g, 0, none⟩)] #[]) HWB.out GQ.out
        clear BQ qQ zQ HWB GQ
        have BQ := BQ2
        clear BQ2
        generalize World.setCell w4 ⟨gq, 0, none⟩ (.func (.func 22) #[.pointer (some ⟨g, 0, none⟩)] #[]) = w5 at hb BQ ⊢
        have n1 := Aside0.mk (HG.out.below hb)
        have n2 := Aside0.mk (blk_below BB.out hb)
        have n3 := Aside0.mk (blk_below BP.out hb)
        have n4 := Aside0.mk (below_step HB.out hb)
        clear HG BB BP HB hb
        have HG := n1
        have BB := n2
        have BP := n3
        have HB := n4
        clear n1 n2 n3 n4
        have qF : World.cell? w5 ⟨gq, 0, none⟩ = some (.func (.func 22) #[.pointer (some ⟨g, 0, none⟩)] #[]) := (blk_cell BQ.out 0).trans rfl
        obtain ⟨⟨se, s'⟩, hst⟩ : ∃ p, allR l0 s = p := ⟨_, rfl⟩
        have ST := Aside0.mk hst
        have ST' := Aside0.mk (show stepF l0 2 s = (se, s') from hst)
        have e := RUN.out
        rw [show 5 - 2 = 2 + 1 from rfl] at e
        unfold runF at e
        rw [ST'.out] at e
        by_cases hse : se = 0
        · subst hse
          rw [if_neg (by simp)] at e
          have E := Aside0.mk e
          clear e hst
          go_wp2_with (first | (go_at_call 22; refine (all_calls _ g A0 c0 l0 s _ HG.out HX.out (IV.out.c1 (by omega)).1 (IV.out.c1 (by omega)).2 (by rw [IV.out.a (by omega)]; simp)).mono ?_; rintro e w6 ⟨he, hg, hb, hf⟩; rw [ST.out] at he hg; subst he; have n1 := Aside0.mk hg; have n2 := Aside0.mk (hf.blk BB.out (by decide)); have n3 := Aside0.mk (hf.blk BP.out (by decide)); have n4 := Aside0.mk (HB.out.trans hb); clear HG BB BP HB BQ qF hg hb hf; have HG := n1; have BB := n2; have BP := n3; have HB := n4; clear n1 n2 n3 n4))
          go_roundg (2)
          case measure => have := HGG.out; omega
          case rel => exact ⟨3, s', by omega, by omega, by rfl, E, ⟨IV.out.step (by omega) ST'.out⟩, HG, BB, BP, HB⟩
        · have hcb : (se != 0) = true := by simp [hse]
          rw [if_pos hse] at e
          have E := Aside0.mk e
          clear e hst
          go_upto_region 7 with (first | (go_at_call 22; refine (all_calls _ g A0 c0 l0 s _ HG.out HX.out (IV.out.c1 (by omega)).1 (IV.out.c1 (by omega)).2 (by rw [IV.out.a (by omega)]; simp)).mono ?_; rintro e w6 ⟨he, hg, hb, hf⟩; rw [ST.out] at he hg; subst he; have n1 := Aside0.mk hg; have n2 := Aside0.mk (hf.blk BB.out (by decide)); have n3 := Aside0.mk (hf.blk BP.out (by decide)); have n4 := Aside0.mk (HB.out.trans hb); clear HG BB BP HB BQ qF hg hb hf; have HG := n1; have BB := n2; have BP := n3; have HB := n4; clear n1 n2 n3 n4))
          obtain ⟨hge, hbs, hlc, hlm, hat, hcb, vf, vd, va, vp, hg0, hown⟩ := HG.out
          have BS := Aside0.mk hg0
          have CBw := Aside0.mk hcb
          have OW := Aside0.mk hown
          have GE := Aside0.mk hge
          have BASE := Aside0.mk hbs
          clear hbs hcb hg0 hown hge
          have hb := below_drew (Below.refl w6.heap.size w6)
          have n1 := Aside0.mk (blk_below BS.out hb)
          have n2 := Aside0.mk (blk_below BB.out hb)
          have n3 := Aside0.mk (below_step HB.out hb)
          clear BS BB HB hb
          have BS := n1
          have BB := n2
          have HB := n3
          clear n1 n2 n3
          refine start_ (n := 9) (S := fun w' => w'.heap[g]? = some (.cells #[.slice A0 l0.length c0, .int .i64 s'.at_, .int .i64 s'.c.f0, .int .i64 s'.c.f1, .int .i64 s'.c.f2, .int .i64 s'.c.f3, .int .i64 s'.c.f4, .int .i64 s'.c.f5, vf, vd, va, vp] 53 (0, 0))) (ds := []) #[false, false, false, false, false, false, false, false, false] (by kernel_rfl) rfl rfl (BS.out) (fun hHeld => ?_)
          generalize World.drew _ = wS at BS BB HB hHeld ⊢
          refine pure_ (i := 0) (N := (some 38)) (v := ?_) (a' := ?_) #[true, false, false, false, false, false, false, false, false] rfl rfl (by kernel_rfl) (fun _ _ _ h => h) (Or.inl ⟨by rfl, ?_⟩) ?_ ?_
          rotate_left
          · intro w'
            go_simp
            with_reducible rfl
          rotate_left
          · (try simp only [Act.put, List.setIfInBounds_toArray, List.set_cons_zero, List.set_cons_succ, i64_w, i32_w])
            rfl
          refine pure_ (i := 1) (N := (some 39)) (v := ?_) (a' := ?_) #[true, true, false, false, false, false, false, false, false] rfl rfl (by kernel_rfl) (fun _ _ _ h => h) (Or.inl ⟨by rfl, ?_⟩) ?_ ?_
          rotate_left
          · intro w'
            go_simp
            with_reducible rfl
          rotate_left
          · (try simp only [Act.put, List.setIfInBounds_toArray, List.set_cons_zero, List.set_cons_succ, i64_w, i32_w])
            rfl
          refine pure_ (i := 2) (N := (some 40)) (v := ?_) (a' := ?_) #[true, true, true, false, false, false, false, false, false] rfl rfl (by kernel_rfl) (fun _ _ _ h => h) (Or.inl ⟨by rfl, ?_⟩) ?_ ?_
          rotate_left
          · intro w'
            go_simp
            with_reducible rfl
          rotate_left
          · (try simp only [Act.put, List.setIfInBounds_toArray, List.set_cons_zero, List.set_cons_succ, i64_w, i32_w])
            rfl
          refine pure_ (i := 3) (N := (some 41)) (v := ?_) (a' := ?_) #[true, true, true, true, false, false, false, false, false] rfl rfl (by kernel_rfl) (fun _ _ _ h => h) (Or.inl ⟨by rfl, ?_⟩) ?_ ?_
          rotate_left
          · intro w'
            go_simp
            with_reducible rfl
          rotate_left
          · (try simp only [Act.put, List.setIfInBounds_toArray, List.set_cons_zero, List.set_cons_succ, i64_w, i32_w])
            rfl
          refine take_ (i := 4) (N := some 42) (v := ?_) (a' := ?_) #[true, true, true, true, true, false, false, false, false] rfl rfl (by kernel_rfl) (fun _ _ _ h => h) (Or.inl ⟨by rfl, ?_⟩) hHeld ?_ ?_
          rotate_left
          · intro w' s0
            have p1 : World.cell? w' ⟨g, 1, none⟩ = some (.int .i64 s'.at_) := (blk_cell s0 1).trans rfl
            go_simp
            with_reducible rfl
          rotate_left
          · (try simp only [Act.put, List.setIfInBounds_toArray, List.set_cons_zero, List.set_cons_succ, i64_w, i32_w])
            rfl
          refine pure_ (i := 5) (N := (some 43)) (v := ?_) (a' := ?_) #[true, true, true, true, true, true, false, false, false] rfl rfl (by kernel_rfl) (fun _ _ _ h => h) (Or.inl ⟨by rfl, ?_⟩) ?_ ?_
          rotate_left
          · intro w'
            go_simp
            with_reducible rfl
          rotate_left
          · (try simp only [Act.put, List.setIfInBounds_toArray, List.set_cons_zero, List.set_cons_succ, i64_w, i32_w])
            rfl
          refine one_ (i := 6) (N := none) #[true, true, true, true, true, true, true, false, false] rfl rfl (by kernel_rfl) (by decide) (fun K hK => ?_)
          refine skip_ (w1 := (World.setCell (World.setCell (World.setCell (World.setCell (World.setCell (World.setCell (World.setCell (World.setCell (World.setCell (World.setCell wS ⟨gb, 0, none⟩ (.int .i64 0)) ⟨gb, 1, none⟩ (.int .i64 0)) ⟨gb, 2, none⟩ (.int .i64 0)) ⟨gb, 3, none⟩ (.int .i64 0)) ⟨gb, 4, none⟩ (.int .i64 0)) ⟨gb, 5, none⟩ (.int .i64 0)) ⟨gb, 6, none⟩ (.slice none 0 0)) ⟨gb, 7, none⟩ (.slice none 0 0)) ⟨gb, 8, none⟩ (.slice none 0 0)) ⟨gb, 9, none⟩ (.slice none 0 0))) (by rfl) rfl ?_ ?_
          · have b0 : World.cell? wS ⟨gb, 0, none⟩ = some (.int .i64 0) := (blk_cell BB.out 0).trans rfl; have b1 : World.cell? wS ⟨gb, 1, none⟩ = some (.int .i64 0) := (blk_cell BB.out 1).trans rfl; have b2 : World.cell? wS ⟨gb, 2, none⟩ = some (.int .i64 0) := (blk_cell BB.out 2).trans rfl; have b3 : World.cell? wS ⟨gb, 3, none⟩ = some (.int .i64 0) := (blk_cell BB.out 3).trans rfl; have b4 : World.cell? wS ⟨gb, 4, none⟩ = some (.int .i64 0) := (blk_cell BB.out 4).trans rfl; have b5 : World.cell? wS ⟨gb, 5, none⟩ = some (.int .i64 0) := (blk_cell BB.out 5).trans rfl; have b6 : World.cell? wS ⟨gb, 6, none⟩ = some (.slice none 0 0) := (blk_cell BB.out 6).trans rfl; have b7 : World.cell? wS ⟨gb, 7, none⟩ = some (.slice none 0 0) := (blk_cell BB.out 7).trans rfl; have b8 : World.cell? wS ⟨gb, 8, none⟩ = some (.slice none 0 0) := (blk_cell BB.out 8).trans rfl; have b9 : World.cell? wS ⟨gb, 9, none⟩ = some (.slice none 0 0) := (blk_cell BB.out 9).trans rfl; have y0 : World.frozen? wS ⟨gb, 0, none⟩ = false := blk_frozen BB.out 0; have y1 : World.frozen? wS ⟨gb, 1, none⟩ = false := blk_frozen BB.out 1; have y2 : World.frozen? wS ⟨gb, 2, none⟩ = false := blk_frozen BB.out 2; have y3 : World.frozen? wS ⟨gb, 3, none⟩ = false := blk_frozen BB.out 3; have y4 : World.frozen? wS ⟨gb, 4, none⟩ = false := blk_frozen BB.out 4; have y5 : World.frozen? wS ⟨gb, 5, none⟩ = false := blk_frozen BB.out 5; have y6 : World.frozen? wS ⟨gb, 6, none⟩ = false := blk_frozen BB.out 6; have y7 : World.frozen? wS ⟨gb, 7, none⟩ = false := blk_frozen BB.out 7; have y8 : World.frozen? wS ⟨gb, 8, none⟩ = false := blk_frozen BB.out 8; have y9 : World.frozen? wS ⟨gb, 9, none⟩ = false := blk_frozen BB.out 9; go_simp
          have g0 := BB.out
          have f0 := Fr.refl [30] wS
          have f1 := f0.set (p := ⟨gb, 0, none⟩) g0 (by decide) (.int .i64 0)
          have g1 := blk_put g0 0 (.int .i64 0) (cs' := #[.int .i64 0, .int .i64 0, .int .i64 0, .int .i64 0, .int .i64 0, .int .i64 0, .slice none 0 0, .slice none 0 0, .slice none 0 0, .slice none 0 0]) rfl
          have f2 := f1.set (p := ⟨gb, 1, none⟩) g1 (by decide) (.int .i64 0)
          have g2 := blk_put g1 1 (.int .i64 0) (cs' := #[.int .i64 0, .int .i64 0, .int .i64 0, .int .i64 0, .int .i64 0, .int .i64 0, .slice none 0 0, .slice none 0 0, .slice none 0 0, .slice none 0 0]) rfl
          have f3 := f2.set (p := ⟨gb, 2, none⟩) g2 (by decide) (.int .i64 0)
          have g3 := blk_put g2 2 (.int .i64 0) (cs' := #[.int .i64 0, .int .i64 0, .int .i64 0, .int .i64 0, .int .i64 0, .int .i64 0, .slice none 0 0, .slice none 0 0, .slice none 0 0, .slice none 0 0]) rfl
          have f4 := f3.set (p := ⟨gb, 3, none⟩) g3 (by decide) (.int .i64 0)
          have g4 := blk_put g3 3 (.int .i64 0) (cs' := #[.int .i64 0, .int .i64 0, .int .i64 0, .int .i64 0, .int .i64 0, .int .i64 0, .slice none 0 0, .slice none 0 0, .slice none 0 0, .slice none 0 0]) rfl
          have f5 := f4.set (p := ⟨gb, 4, none⟩) g4 (by decide) (.int .i64 0)
          have g5 := blk_put g4 4 (.int .i64 0) (cs' := #[.int .i64 0, .int .i64 0, .int .i64 0, .int .i64 0, .int .i64 0, .int .i64 0, .slice none 0 0, .slice none 0 0, .slice none 0 0, .slice none 0 0]) rfl
          have f6 := f5.set (p := ⟨gb, 5, none⟩) g5 (by decide) (.int .i64 0)
          have g6 := blk_put g5 5 (.int .i64 0) (cs' := #[.int .i64 0, .int .i64 0, .int .i64 0, .int .i64 0, .int .i64 0, .int .i64 0, .slice none 0 0, .slice none 0 0, .slice none 0 0, .slice none 0 0]) rfl
          have f7 := f6.set (p := ⟨gb, 6, none⟩) g6 (by decide) (.slice none 0 0)
          have g7 := blk_put g6 6 (.slice none 0 0) (cs' := #[.int .i64 0, .int .i64 0, .int .i64 0, .int .i64 0, .int .i64 0, .int .i64 0, .slice none 0 0, .slice none 0 0, .slice none 0 0, .slice none 0 0]) rfl
          have f8 := f7.set (p := ⟨gb, 7, none⟩) g7 (by decide) (.slice none 0 0)
          have g8 := blk_put g7 7 (.slice none 0 0) (cs' := #[.int .i64 0, .int .i64 0, .int .i64 0, .int .i64 0, .int .i64 0, .int .i64 0, .slice none 0 0, .slice none 0 0, .slice none 0 0, .slice none 0 0]) rfl
          have f9 := f8.set (p := ⟨gb, 8, none⟩) g8 (by decide) (.slice none 0 0)
          have g9 := blk_put g8 8 (.slice none 0 0) (cs' := #[.int .i64 0, .int .i64 0, .int .i64 0, .int .i64 0, .int .i64 0, .int .i64 0, .slice none 0 0, .slice none 0 0, .slice none 0 0, .slice none 0 0]) rfl
          have f10 := f9.set (p := ⟨gb, 9, none⟩) g9 (by decide) (.slice none 0 0)
          have g10 := blk_put g9 9 (.slice none 0 0) (cs' := #[.int .i64 0, .int .i64 0, .int .i64 0, .int .i64 0, .int .i64 0, .int .i64 0, .slice none 0 0, .slice none 0 0, .slice none 0 0, .slice none 0 0]) rfl
          have hx := (set_base (j := 9) (v := .slice none 0 0) (set_base (j := 8) (v := .slice none 0 0) (set_base (j := 7) (v := .slice none 0 0) (set_base (j := 6) (v := .slice none 0 0) (set_base (j := 5) (v := .int .i64 0) (set_base (j := 4) (v := .int .i64 0) (set_base (j := 3) (v := .int .i64 0) (set_base (j := 2) (v := .int .i64 0) (set_base (j := 1) (v := .int .i64 0) (set_base (j := 0) (v := .int .i64 0) HB.out GBB.out) GBB.out) GBB.out) GBB.out) GBB.out) GBB.out) GBB.out) GBB.out) GBB.out) GBB.out)
          have hh := f10.blk BS.out (by decide)
          clear hHeld
          have hHeld := hh
          clear hh
          refine hK.out _ _ hHeld (fun _ => ?_)
          clear hK K
          refine pure_ (i := 7) (N := (some 3)) (v := ?_) (a' := ?_) #[true, true, true, true, true, true, true, true, false] rfl rfl (by kernel_rfl) (fun _ _ _ h => h) (Or.inl ⟨by rfl, ?_⟩) ?_ ?_
          rotate_left
          · intro w'
            go_simp
            with_reducible rfl
          rotate_left
          · (try simp only [Act.put, List.setIfInBounds_toArray, List.set_cons_zero, List.set_cons_succ, i64_w, i32_w])
            rfl
          refine pure_ (i := 8) (N := (some 4)) (v := ?_) (a' := ?_) #[true, true, true, true, true, true, true, true, true] rfl rfl (by kernel_rfl) (fun _ _ _ h => h) (Or.inl ⟨by rfl, ?_⟩) ?_ ?_
          rotate_left
          · intro w'
            go_simp
            with_reducible rfl
          rotate_left
          · (try simp only [Act.put, List.setIfInBounds_toArray, List.set_cons_zero, List.set_cons_succ, i64_w, i32_w])
            rfl
          refine done_ (by kernel_rfl) ?_
          go_wp2
          refine bodyPost_ret (results_ctt rfl _ _ gb 30 #[.int .i64 0, .int .i64 0, .int .i64 0, .int .i64 0, .int .i64 0, .int .i64 0, .slice none 0 0, .slice none 0 0, .slice none 0 0, .slice none 0 0] (0, 0) _ rfl g10 Try.underlying30 rfl (by kernel_rfl)) rfl ?_
          have hG : getF l0 = (rd0, (s'.at_ : Int), se) := by unfold getF; rw [GF.out, ← E.out, if_pos hse]
          unfold GetOk
          rw [hG]
          exact ⟨_, _, _, _, rfl, ⟨Kd.R_nil _ _ _ _ _, Kd.R_nil _ _ _ _ _, Kd.R_nil _ _ _ _ _, Kd.R_nil _ _ _ _ _⟩, hx⟩
      by_cases hk3 : i = 3
      · subst hk3
        have pI : World.cell? wr ⟨gp, 3, none⟩ = some (.func (.func 23) #[.pointer (some ⟨g, 0, none⟩)] #[]) := (blk_cell BP.out 3).trans rfl
        go_upto_region 5 with (first | ((with_reducible refine gate_dst (N := 7) rfl ?_); refine box_event ?hg (N := 7) ?hd (cs := #[.nilFunc]) (t := 56) ?hr ?_; (case hd => rfl); (case hg => rfl); (case hr => first | (go_simp; done) | (go_simp; rfl)); intro gq hgx w4 hbox hb; have HWB := Aside0.mk hb; have BQ := Aside0.mk hbox; have qQ : World.cell? w4 ⟨gq, 0, none⟩ = some .nilFunc := (blk_cell BQ.out 0).trans rfl; have zQ : World.frozen? w4 ⟨gq, 0, none⟩ = false := blk_frozen BQ.out 0; have GQ := Aside0.mk (Nat.le_of_eq hgx.symm : wr.heap.size ≤ gq); clear pI hgx hbox hb))
        have BQ2 := Aside0.mk (blk_put BQ.out 0 (.func (.func 23) #[.pointer (some ⟨g, 0, none⟩)] #[]) (cs' := #[.func (.func 23) #[.pointer (some ⟨g, 0, none⟩)] #[]]) rfl)
        have hb := below_set (j := 0) (v := .func (.func 23) #[.pointer (some ⟨g, 0, none⟩)] #[]) HWB.out GQ.out
        clear BQ qQ zQ HWB GQ
        have BQ := BQ2
        clear BQ2
        generalize World.setCell w4 ⟨gq, 0, none⟩ (.func (.func 23) #[.pointer (some ⟨g, 0, none⟩)] #[]) = w5 at hb BQ ⊢
        have n1 := Aside0.mk (HG.out.below hb)
        have n2 := Aside0.mk (blk_below BB.out hb)
        have n3 := Aside0.mk (blk_below BP.out hb)
        have n4 := Aside0.mk (below_step HB.out hb)
        clear HG BB BP HB hb
        have HG := n1
        have BB := n2
        have BP := n3
        have HB := n4
        clear n1 n2 n3 n4
        have qF : World.cell? w5 ⟨gq, 0, none⟩ = some (.func (.func 23) #[.pointer (some ⟨g, 0, none⟩)] #[]) := (blk_cell BQ.out 0).trans rfl
        obtain ⟨⟨se, s'⟩, hst⟩ : ∃ p, drawsF l0 s = p := ⟨_, rfl⟩
        have ST := Aside0.mk hst
        have ST' := Aside0.mk (show stepF l0 3 s = (se, s') from hst)
        have e := RUN.out
        rw [show 5 - 3 = 1 + 1 from rfl] at e
        unfold runF at e
        rw [ST'.out] at e
        by_cases hse : se = 0
        · subst hse
          rw [if_neg (by simp)] at e
          have E := Aside0.mk e
          clear e hst
          go_wp2_with (first | (go_at_call 23; refine (draws_calls _ g A0 c0 l0 s _ HG.out HX.out).mono ?_; rintro e w6 ⟨he, hg, hb, hf⟩; rw [ST.out] at he hg; subst he; have n1 := Aside0.mk hg; have n2 := Aside0.mk (hf.blk BB.out (by decide)); have n3 := Aside0.mk (hf.blk BP.out (by decide)); have n4 := Aside0.mk (HB.out.trans hb); clear HG BB BP HB BQ qF hg hb hf; have HG := n1; have BB := n2; have BP := n3; have HB := n4; clear n1 n2 n3 n4))
          go_roundg (1)
          case measure => have := HGG.out; omega
          case rel => exact ⟨4, s', by omega, by omega, by rfl, E, ⟨IV.out.step (by omega) ST'.out⟩, HG, BB, BP, HB⟩
        · have hcb : (se != 0) = true := by simp [hse]
          rw [if_pos hse] at e
          have E := Aside0.mk e
          clear e hst
          go_upto_region 7 with (first | (go_at_call 23; refine (draws_calls _ g A0 c0 l0 s _ HG.out HX.out).mono ?_; rintro e w6 ⟨he, hg, hb, hf⟩; rw [ST.out] at he hg; subst he; have n1 := Aside0.mk hg; have n2 := Aside0.mk (hf.blk BB.out (by decide)); have n3 := Aside0.mk (hf.blk BP.out (by decide)); have n4 := Aside0.mk (HB.out.trans hb); clear HG BB BP HB BQ qF hg hb hf; have HG := n1; have BB := n2; have BP := n3; have HB := n4; clear n1 n2 n3 n4))
          obtain ⟨hge, hbs, hlc, hlm, hat, hcb, vf, vd, va, vp, hg0, hown⟩ := HG.out
          have BS := Aside0.mk hg0
          have CBw := Aside0.mk hcb
          have OW := Aside0.mk hown
          have GE := Aside0.mk hge
          have BASE := Aside0.mk hbs
          clear hbs hcb hg0 hown hge
          have hb := below_drew (Below.refl w6.heap.size w6)
          have n1 := Aside0.mk (blk_below BS.out hb)
          have n2 := Aside0.mk (blk_below BB.out hb)
          have n3 := Aside0.mk (below_step HB.out hb)
          clear BS BB HB hb
          have BS := n1
          have BB := n2
          have HB := n3
          clear n1 n2 n3
          refine start_ (n := 9) (S := fun w' => w'.heap[g]? = some (.cells #[.slice A0 l0.length c0, .int .i64 s'.at_, .int .i64 s'.c.f0, .int .i64 s'.c.f1, .int .i64 s'.c.f2, .int .i64 s'.c.f3, .int .i64 s'.c.f4, .int .i64 s'.c.f5, vf, vd, va, vp] 53 (0, 0))) (ds := []) #[false, false, false, false, false, false, false, false, false] (by kernel_rfl) rfl rfl (BS.out) (fun hHeld => ?_)
          generalize World.drew _ = wS at BS BB HB hHeld ⊢
          refine pure_ (i := 0) (N := (some 38)) (v := ?_) (a' := ?_) #[true, false, false, false, false, false, false, false, false] rfl rfl (by kernel_rfl) (fun _ _ _ h => h) (Or.inl ⟨by rfl, ?_⟩) ?_ ?_
          rotate_left
          · intro w'
            go_simp
            with_reducible rfl
          rotate_left
          · (try simp only [Act.put, List.setIfInBounds_toArray, List.set_cons_zero, List.set_cons_succ, i64_w, i32_w])
            rfl
          refine pure_ (i := 1) (N := (some 39)) (v := ?_) (a' := ?_) #[true, true, false, false, false, false, false, false, false] rfl rfl (by kernel_rfl) (fun _ _ _ h => h) (Or.inl ⟨by rfl, ?_⟩) ?_ ?_
          rotate_left
          · intro w'
            go_simp
            with_reducible rfl
          rotate_left
          · (try simp only [Act.put, List.setIfInBounds_toArray, List.set_cons_zero, List.set_cons_succ, i64_w, i32_w])
            rfl
          refine pure_ (i := 2) (N := (some 40)) (v := ?_) (a' := ?_) #[true, true, true, false, false, false, false, false, false] rfl rfl (by kernel_rfl) (fun _ _ _ h => h) (Or.inl ⟨by rfl, ?_⟩) ?_ ?_
          rotate_left
          · intro w'
            go_simp
            with_reducible rfl
          rotate_left
          · (try simp only [Act.put, List.setIfInBounds_toArray, List.set_cons_zero, List.set_cons_succ, i64_w, i32_w])
            rfl
          refine pure_ (i := 3) (N := (some 41)) (v := ?_) (a' := ?_) #[true, true, true, true, false, false, false, false, false] rfl rfl (by kernel_rfl) (fun _ _ _ h => h) (Or.inl ⟨by rfl, ?_⟩) ?_ ?_
          rotate_left
          · intro w'
            go_simp
            with_reducible rfl
          rotate_left
          · (try simp only [Act.put, List.setIfInBounds_toArray, List.set_cons_zero, List.set_cons_succ, i64_w, i32_w])
            rfl
          refine take_ (i := 4) (N := some 42) (v := ?_) (a' := ?_) #[true, true, true, true, true, false, false, false, false] rfl rfl (by kernel_rfl) (fun _ _ _ h => h) (Or.inl ⟨by rfl, ?_⟩) hHeld ?_ ?_
          rotate_left
          · intro w' s0
            have p1 : World.cell? w' ⟨g, 1, none⟩ = some (.int .i64 s'.at_) := (blk_cell s0 1).trans rfl
            go_simp
            with_reducible rfl
          rotate_left
          · (try simp only [Act.put, List.setIfInBounds_toArray, List.set_cons_zero, List.set_cons_succ, i64_w, i32_w])
            rfl
          refine pure_ (i := 5) (N := (some 43)) (v := ?_) (a' := ?_) #[true, true, true, true, true, true, false, false, false] rfl rfl (by kernel_rfl) (fun _ _ _ h => h) (Or.inl ⟨by rfl, ?_⟩) ?_ ?_
          rotate_left
          · intro w'
            go_simp
            with_reducible rfl
          rotate_left
          · (try simp only [Act.put, List.setIfInBounds_toArray, List.set_cons_zero, List.set_cons_succ, i64_w, i32_w])
            rfl
          refine one_ (i := 6) (N := none) #[true, true, true, true, true, true, true, false, false] rfl rfl (by kernel_rfl) (by decide) (fun K hK => ?_)
          refine skip_ (w1 := (World.setCell (World.setCell (World.setCell (World.setCell (World.setCell (World.setCell (World.setCell (World.setCell (World.setCell (World.setCell wS ⟨gb, 0, none⟩ (.int .i64 0)) ⟨gb, 1, none⟩ (.int .i64 0)) ⟨gb, 2, none⟩ (.int .i64 0)) ⟨gb, 3, none⟩ (.int .i64 0)) ⟨gb, 4, none⟩ (.int .i64 0)) ⟨gb, 5, none⟩ (.int .i64 0)) ⟨gb, 6, none⟩ (.slice none 0 0)) ⟨gb, 7, none⟩ (.slice none 0 0)) ⟨gb, 8, none⟩ (.slice none 0 0)) ⟨gb, 9, none⟩ (.slice none 0 0))) (by rfl) rfl ?_ ?_
          · have b0 : World.cell? wS ⟨gb, 0, none⟩ = some (.int .i64 0) := (blk_cell BB.out 0).trans rfl; have b1 : World.cell? wS ⟨gb, 1, none⟩ = some (.int .i64 0) := (blk_cell BB.out 1).trans rfl; have b2 : World.cell? wS ⟨gb, 2, none⟩ = some (.int .i64 0) := (blk_cell BB.out 2).trans rfl; have b3 : World.cell? wS ⟨gb, 3, none⟩ = some (.int .i64 0) := (blk_cell BB.out 3).trans rfl; have b4 : World.cell? wS ⟨gb, 4, none⟩ = some (.int .i64 0) := (blk_cell BB.out 4).trans rfl; have b5 : World.cell? wS ⟨gb, 5, none⟩ = some (.int .i64 0) := (blk_cell BB.out 5).trans rfl; have b6 : World.cell? wS ⟨gb, 6, none⟩ = some (.slice none 0 0) := (blk_cell BB.out 6).trans rfl; have b7 : World.cell? wS ⟨gb, 7, none⟩ = some (.slice none 0 0) := (blk_cell BB.out 7).trans rfl; have b8 : World.cell? wS ⟨gb, 8, none⟩ = some (.slice none 0 0) := (blk_cell BB.out 8).trans rfl; have b9 : World.cell? wS ⟨gb, 9, none⟩ = some (.slice none 0 0) := (blk_cell BB.out 9).trans rfl; have y0 : World.frozen? wS ⟨gb, 0, none⟩ = false := blk_frozen BB.out 0; have y1 : World.frozen? wS ⟨gb, 1, none⟩ = false := blk_frozen BB.out 1; have y2 : World.frozen? wS ⟨gb, 2, none⟩ = false := blk_frozen BB.out 2; have y3 : World.frozen? wS ⟨gb, 3, none⟩ = false := blk_frozen BB.out 3; have y4 : World.frozen? wS ⟨gb, 4, none⟩ = false := blk_frozen BB.out 4; have y5 : World.frozen? wS ⟨gb, 5, none⟩ = false := blk_frozen BB.out 5; have y6 : World.frozen? wS ⟨gb, 6, none⟩ = false := blk_frozen BB.out 6; have y7 : World.frozen? wS ⟨gb, 7, none⟩ = false := blk_frozen BB.out 7; have y8 : World.frozen? wS ⟨gb, 8, none⟩ = false := blk_frozen BB.out 8; have y9 : World.frozen? wS ⟨gb, 9, none⟩ = false := blk_frozen BB.out 9; go_simp
          have g0 := BB.out
          have f0 := Fr.refl [30] wS
          have f1 := f0.set (p := ⟨gb, 0, none⟩) g0 (by decide) (.int .i64 0)
          have g1 := blk_put g0 0 (.int .i64 0) (cs' := #[.int .i64 0, .int .i64 0, .int .i64 0, .int .i64 0, .int .i64 0, .int .i64 0, .slice none 0 0, .slice none 0 0, .slice none 0 0, .slice none 0 0]) rfl
          have f2 := f1.set (p := ⟨gb, 1, none⟩) g1 (by decide) (.int .i64 0)
          have g2 := blk_put g1 1 (.int .i64 0) (cs' := #[.int .i64 0, .int .i64 0, .int .i64 0, .int .i64 0, .int .i64 0, .int .i64 0, .slice none 0 0, .slice none 0 0, .slice none 0 0, .slice none 0 0]) rfl
          have f3 := f2.set (p := ⟨gb, 2, none⟩) g2 (by decide) (.int .i64 0)
          have g3 := blk_put g2 2 (.int .i64 0) (cs' := #[.int .i64 0, .int .i64 0, .int .i64 0, .int .i64 0, .int .i64 0, .int .i64 0, .slice none 0 0, .slice none 0 0, .slice none 0 0, .slice none 0 0]) rfl
          have f4 := f3.set (p := ⟨gb, 3, none⟩) g3 (by decide) (.int .i64 0)
          have g4 := blk_put g3 3 (.int .i64 0) (cs' := #[.int .i64 0, .int .i64 0, .int .i64 0, .int .i64 0, .int .i64 0, .int .i64 0, .slice none 0 0, .slice none 0 0, .slice none 0 0, .slice none 0 0]) rfl
          have f5 := f4.set (p := ⟨gb, 4, none⟩) g4 (by decide) (.int .i64 0)
          have g5 := blk_put g4 4 (.int .i64 0) (cs' := #[.int .i64 0, .int .i64 0, .int .i64 0, .int .i64 0, .int .i64 0, .int .i64 0, .slice none 0 0, .slice none 0 0, .slice none 0 0, .slice none 0 0]) rfl
          have f6 := f5.set (p := ⟨gb, 5, none⟩) g5 (by decide) (.int .i64 0)
          have g6 := blk_put g5 5 (.int .i64 0) (cs' := #[.int .i64 0, .int .i64 0, .int .i64 0, .int .i64 0, .int .i64 0, .int .i64 0, .slice none 0 0, .slice none 0 0, .slice none 0 0, .slice none 0 0]) rfl
          have f7 := f6.set (p := ⟨gb, 6, none⟩) g6 (by decide) (.slice none 0 0)
          have g7 := blk_put g6 6 (.slice none 0 0) (cs' := #[.int .i64 0, .int .i64 0, .int .i64 0, .int .i64 0, .int .i64 0, .int .i64 0, .slice none 0 0, .slice none 0 0, .slice none 0 0, .slice none 0 0]) rfl
          have f8 := f7.set (p := ⟨gb, 7, none⟩) g7 (by decide) (.slice none 0 0)
          have g8 := blk_put g7 7 (.slice none 0 0) (cs' := #[.int .i64 0, .int .i64 0, .int .i64 0, .int .i64 0, .int .i64 0, .int .i64 0, .slice none 0 0, .slice none 0 0, .slice none 0 0, .slice none 0 0]) rfl
          have f9 := f8.set (p := ⟨gb, 8, none⟩) g8 (by decide) (.slice none 0 0)
          have g9 := blk_put g8 8 (.slice none 0 0) (cs' := #[.int .i64 0, .int .i64 0, .int .i64 0, .int .i64 0, .int .i64 0, .int .i64 0, .slice none 0 0, .slice none 0 0, .slice none 0 0, .slice none 0 0]) rfl
          have f10 := f9.set (p := ⟨gb, 9, none⟩) g9 (by decide) (.slice none 0 0)
          have g10 := blk_put g9 9 (.slice none 0 0) (cs' := #[.int .i64 0, .int .i64 0, .int .i64 0, .int .i64 0, .int .i64 0, .int .i64 0, .slice none 0 0, .slice none 0 0, .slice none 0 0, .slice none 0 0]) rfl
          have hx := (set_base (j := 9) (v := .slice none 0 0) (set_base (j := 8) (v := .slice none 0 0) (set_base (j := 7) (v := .slice none 0 0) (set_base (j := 6) (v := .slice none 0 0) (set_base (j := 5) (v := .int .i64 0) (set_base (j := 4) (v := .int .i64 0) (set_base (j := 3) (v := .int .i64 0) (set_base (j := 2) (v := .int .i64 0) (set_base (j := 1) (v := .int .i64 0) (set_base (j := 0) (v := .int .i64 0) HB.out GBB.out) GBB.out) GBB.out) GBB.out) GBB.out) GBB.out) GBB.out) GBB.out) GBB.out) GBB.out)
          have hh := f10.blk BS.out (by decide)
          clear hHeld
          have hHeld := hh
          clear hh
          refine hK.out _ _ hHeld (fun _ => ?_)
          clear hK K
          refine pure_ (i := 7) (N := (some 3)) (v := ?_) (a' := ?_) #[true, true, true, true, true, true, true, true, false] rfl rfl (by kernel_rfl) (fun _ _ _ h => h) (Or.inl ⟨by rfl, ?_⟩) ?_ ?_
          rotate_left
          · intro w'
            go_simp
            with_reducible rfl
          rotate_left
          · (try simp only [Act.put, List.setIfInBounds_toArray, List.set_cons_zero, List.set_cons_succ, i64_w, i32_w])
            rfl
          refine pure_ (i := 8) (N := (some 4)) (v := ?_) (a' := ?_) #[true, true, true, true, true, true, true, true, true] rfl rfl (by kernel_rfl) (fun _ _ _ h => h) (Or.inl ⟨by rfl, ?_⟩) ?_ ?_
          rotate_left
          · intro w'
            go_simp
            with_reducible rfl
          rotate_left
          · (try simp only [Act.put, List.setIfInBounds_toArray, List.set_cons_zero, List.set_cons_succ, i64_w, i32_w])
            rfl
          refine done_ (by kernel_rfl) ?_
          go_wp2
          refine bodyPost_ret (results_ctt rfl _ _ gb 30 #[.int .i64 0, .int .i64 0, .int .i64 0, .int .i64 0, .int .i64 0, .int .i64 0, .slice none 0 0, .slice none 0 0, .slice none 0 0, .slice none 0 0] (0, 0) _ rfl g10 Try.underlying30 rfl (by kernel_rfl)) rfl ?_
          have hG : getF l0 = (rd0, (s'.at_ : Int), se) := by unfold getF; rw [GF.out, ← E.out, if_pos hse]
          unfold GetOk
          rw [hG]
          exact ⟨_, _, _, _, rfl, ⟨Kd.R_nil _ _ _ _ _, Kd.R_nil _ _ _ _ _, Kd.R_nil _ _ _ _ _, Kd.R_nil _ _ _ _ _⟩, hx⟩
      by_cases hk4 : i = 4
      · subst hk4
        have pI : World.cell? wr ⟨gp, 4, none⟩ = some (.func (.func 24) #[.pointer (some ⟨g, 0, none⟩)] #[]) := (blk_cell BP.out 4).trans rfl
        go_upto_region 5 with (first | ((with_reducible refine gate_dst (N := 7) rfl ?_); refine box_event ?hg (N := 7) ?hd (cs := #[.nilFunc]) (t := 56) ?hr ?_; (case hd => rfl); (case hg => rfl); (case hr => first | (go_simp; done) | (go_simp; rfl)); intro gq hgx w4 hbox hb; have HWB := Aside0.mk hb; have BQ := Aside0.mk hbox; have qQ : World.cell? w4 ⟨gq, 0, none⟩ = some .nilFunc := (blk_cell BQ.out 0).trans rfl; have zQ : World.frozen? w4 ⟨gq, 0, none⟩ = false := blk_frozen BQ.out 0; have GQ := Aside0.mk (Nat.le_of_eq hgx.symm : wr.heap.size ≤ gq); clear pI hgx hbox hb))
        have BQ2 := Aside0.mk (blk_put BQ.out 0 (.func (.func 24) #[.pointer (some ⟨g, 0, none⟩)] #[]) (cs' := #[.func (.func 24) #[.pointer (some ⟨g, 0, none⟩)] #[]]) rfl)
        have hb := below_set (j := 0) (v := .func (.func 24) #[.pointer (some ⟨g, 0, none⟩)] #[]) HWB.out GQ.out
        clear BQ qQ zQ HWB GQ
        have BQ := BQ2
        clear BQ2
        generalize World.setCell w4 ⟨gq, 0, none⟩ (.func (.func 24) #[.pointer (some ⟨g, 0, none⟩)] #[]) = w5 at hb BQ ⊢
        have n1 := Aside0.mk (HG.out.below hb)
        have n2 := Aside0.mk (blk_below BB.out hb)
        have n3 := Aside0.mk (blk_below BP.out hb)
        have n4 := Aside0.mk (below_step HB.out hb)
        clear HG BB BP HB hb
        have HG := n1
        have BB := n2
        have BP := n3
        have HB := n4
        clear n1 n2 n3 n4
        have qF : World.cell? w5 ⟨gq, 0, none⟩ = some (.func (.func 24) #[.pointer (some ⟨g, 0, none⟩)] #[]) := (blk_cell BQ.out 0).trans rfl
        obtain ⟨⟨se, s'⟩, hst⟩ : ∃ p, picksF l0 s = p := ⟨_, rfl⟩
        have ST := Aside0.mk hst
        have ST' := Aside0.mk (show stepF l0 4 s = (se, s') from hst)
        have e := RUN.out
        rw [show 5 - 4 = 0 + 1 from rfl] at e
        unfold runF at e
        rw [ST'.out] at e
        by_cases hse : se = 0
        · subst hse
          rw [if_neg (by simp)] at e
          have E := Aside0.mk e
          clear e hst
          go_wp2_with (first | (go_at_call 24; refine (picks_calls _ g A0 c0 l0 s _ HG.out HX.out (by rw [IV.out.p (by omega)]; simp)).mono ?_; rintro e w6 ⟨he, hg, hb, hf⟩; rw [ST.out] at he hg; subst he; have n1 := Aside0.mk hg; have n2 := Aside0.mk (hf.blk BB.out (by decide)); have n3 := Aside0.mk (hf.blk BP.out (by decide)); have n4 := Aside0.mk (HB.out.trans hb); clear HG BB BP HB BQ qF hg hb hf; have HG := n1; have BB := n2; have BP := n3; have HB := n4; clear n1 n2 n3 n4))
          go_roundg (0)
          case measure => have := HGG.out; omega
          case rel => exact ⟨5, s', by omega, by omega, by rfl, E, ⟨IV.out.step (by omega) ST'.out⟩, HG, BB, BP, HB⟩
        · have hcb : (se != 0) = true := by simp [hse]
          rw [if_pos hse] at e
          have E := Aside0.mk e
          clear e hst
          go_upto_region 7 with (first | (go_at_call 24; refine (picks_calls _ g A0 c0 l0 s _ HG.out HX.out (by rw [IV.out.p (by omega)]; simp)).mono ?_; rintro e w6 ⟨he, hg, hb, hf⟩; rw [ST.out] at he hg; subst he; have n1 := Aside0.mk hg; have n2 := Aside0.mk (hf.blk BB.out (by decide)); have n3 := Aside0.mk (hf.blk BP.out (by decide)); have n4 := Aside0.mk (HB.out.trans hb); clear HG BB BP HB BQ qF hg hb hf; have HG := n1; have BB := n2; have BP := n3; have HB := n4; clear n1 n2 n3 n4))
          obtain ⟨hge, hbs, hlc, hlm, hat, hcb, vf, vd, va, vp, hg0, hown⟩ := HG.out
          have BS := Aside0.mk hg0
          have CBw := Aside0.mk hcb
          have OW := Aside0.mk hown
          have GE := Aside0.mk hge
          have BASE := Aside0.mk hbs
          clear hbs hcb hg0 hown hge
          have hb := below_drew (Below.refl w6.heap.size w6)
          have n1 := Aside0.mk (blk_below BS.out hb)
          have n2 := Aside0.mk (blk_below BB.out hb)
          have n3 := Aside0.mk (below_step HB.out hb)
          clear BS BB HB hb
          have BS := n1
          have BB := n2
          have HB := n3
          clear n1 n2 n3
          refine start_ (n := 9) (S := fun w' => w'.heap[g]? = some (.cells #[.slice A0 l0.length c0, .int .i64 s'.at_, .int .i64 s'.c.f0, .int .i64 s'.c.f1, .int .i64 s'.c.f2, .int .i64 s'.c.f3, .int .i64 s'.c.f4, .int .i64 s'.c.f5, vf, vd, va, vp] 53 (0, 0))) (ds := []) #[false, false, false, false, false, false, false, false, false] (by kernel_rfl) rfl rfl (BS.out) (fun hHeld => ?_)
          generalize World.drew _ = wS at BS BB HB hHeld ⊢
          refine pure_ (i := 0) (N := (some 38)) (v := ?_) (a' := ?_) #[true, false, false, false, false, false, false, false, false] rfl rfl (by kernel_rfl) (fun _ _ _ h => h) (Or.inl ⟨by rfl, ?_⟩) ?_ ?_
          rotate_left
          · intro w'
            go_simp
            with_reducible rfl
          rotate_left
          · (try simp only [Act.put, List.setIfInBounds_toArray, List.set_cons_zero, List.set_cons_succ, i64_w, i32_w])
            rfl
          refine pure_ (i := 1) (N := (some 39)) (v := ?_) (a' := ?_) #[true, true, false, false, false, false, false, false, false] rfl rfl (by kernel_rfl) (fun _ _ _ h => h) (Or.inl ⟨by rfl, ?_⟩) ?_ ?_
          rotate_left
          · intro w'
            go_simp
            with_reducible rfl
          rotate_left
          · (try simp only [Act.put, List.setIfInBounds_toArray, List.set_cons_zero, List.set_cons_succ, i64_w, i32_w])
            rfl
          refine pure_ (i := 2) (N := (some 40)) (v := ?_) (a' := ?_) #[true, true, true, false, false, false, false, false, false] rfl rfl (by kernel_rfl) (fun _ _ _ h => h) (Or.inl ⟨by rfl, ?_⟩) ?_ ?_
          rotate_left
          · intro w'
            go_simp
            with_reducible rfl
          rotate_left
          · (try simp only [Act.put, List.setIfInBounds_toArray, List.set_cons_zero, List.set_cons_succ, i64_w, i32_w])
            rfl
          refine pure_ (i := 3) (N := (some 41)) (v := ?_) (a' := ?_) #[true, true, true, true, false, false, false, false, false] rfl rfl (by kernel_rfl) (fun _ _ _ h => h) (Or.inl ⟨by rfl, ?_⟩) ?_ ?_
          rotate_left
          · intro w'
            go_simp
            with_reducible rfl
          rotate_left
          · (try simp only [Act.put, List.setIfInBounds_toArray, List.set_cons_zero, List.set_cons_succ, i64_w, i32_w])
            rfl
          refine take_ (i := 4) (N := some 42) (v := ?_) (a' := ?_) #[true, true, true, true, true, false, false, false, false] rfl rfl (by kernel_rfl) (fun _ _ _ h => h) (Or.inl ⟨by rfl, ?_⟩) hHeld ?_ ?_
          rotate_left
          · intro w' s0
            have p1 : World.cell? w' ⟨g, 1, none⟩ = some (.int .i64 s'.at_) := (blk_cell s0 1).trans rfl
            go_simp
            with_reducible rfl
          rotate_left
          · (try simp only [Act.put, List.setIfInBounds_toArray, List.set_cons_zero, List.set_cons_succ, i64_w, i32_w])
            rfl
          refine pure_ (i := 5) (N := (some 43)) (v := ?_) (a' := ?_) #[true, true, true, true, true, true, false, false, false] rfl rfl (by kernel_rfl) (fun _ _ _ h => h) (Or.inl ⟨by rfl, ?_⟩) ?_ ?_
          rotate_left
          · intro w'
            go_simp
            with_reducible rfl
          rotate_left
          · (try simp only [Act.put, List.setIfInBounds_toArray, List.set_cons_zero, List.set_cons_succ, i64_w, i32_w])
            rfl
          refine one_ (i := 6) (N := none) #[true, true, true, true, true, true, true, false, false] rfl rfl (by kernel_rfl) (by decide) (fun K hK => ?_)
          refine skip_ (w1 := (World.setCell (World.setCell (World.setCell (World.setCell (World.setCell (World.setCell (World.setCell (World.setCell (World.setCell (World.setCell wS ⟨gb, 0, none⟩ (.int .i64 0)) ⟨gb, 1, none⟩ (.int .i64 0)) ⟨gb, 2, none⟩ (.int .i64 0)) ⟨gb, 3, none⟩ (.int .i64 0)) ⟨gb, 4, none⟩ (.int .i64 0)) ⟨gb, 5, none⟩ (.int .i64 0)) ⟨gb, 6, none⟩ (.slice none 0 0)) ⟨gb, 7, none⟩ (.slice none 0 0)) ⟨gb, 8, none⟩ (.slice none 0 0)) ⟨gb, 9, none⟩ (.slice none 0 0))) (by rfl) rfl ?_ ?_
          · have b0 : World.cell? wS ⟨gb, 0, none⟩ = some (.int .i64 0) := (blk_cell BB.out 0).trans rfl; have b1 : World.cell? wS ⟨gb, 1, none⟩ = some (.int .i64 0) := (blk_cell BB.out 1).trans rfl; have b2 : World.cell? wS ⟨gb, 2, none⟩ = some (.int .i64 0) := (blk_cell BB.out 2).trans rfl; have b3 : World.cell? wS ⟨gb, 3, none⟩ = some (.int .i64 0) := (blk_cell BB.out 3).trans rfl; have b4 : World.cell? wS ⟨gb, 4, none⟩ = some (.int .i64 0) := (blk_cell BB.out 4).trans rfl; have b5 : World.cell? wS ⟨gb, 5, none⟩ = some (.int .i64 0) := (blk_cell BB.out 5).trans rfl; have b6 : World.cell? wS ⟨gb, 6, none⟩ = some (.slice none 0 0) := (blk_cell BB.out 6).trans rfl; have b7 : World.cell? wS ⟨gb, 7, none⟩ = some (.slice none 0 0) := (blk_cell BB.out 7).trans rfl; have b8 : World.cell? wS ⟨gb, 8, none⟩ = some (.slice none 0 0) := (blk_cell BB.out 8).trans rfl; have b9 : World.cell? wS ⟨gb, 9, none⟩ = some (.slice none 0 0) := (blk_cell BB.out 9).trans rfl; have y0 : World.frozen? wS ⟨gb, 0, none⟩ = false := blk_frozen BB.out 0; have y1 : World.frozen? wS ⟨gb, 1, none⟩ = false := blk_frozen BB.out 1; have y2 : World.frozen? wS ⟨gb, 2, none⟩ = false := blk_frozen BB.out 2; have y3 : World.frozen? wS ⟨gb, 3, none⟩ = false := blk_frozen BB.out 3; have y4 : World.frozen? wS ⟨gb, 4, none⟩ = false := blk_frozen BB.out 4; have y5 : World.frozen? wS ⟨gb, 5, none⟩ = false := blk_frozen BB.out 5; have y6 : World.frozen? wS ⟨gb, 6, none⟩ = false := blk_frozen BB.out 6; have y7 : World.frozen? wS ⟨gb, 7, none⟩ = false := blk_frozen BB.out 7; have y8 : World.frozen? wS ⟨gb, 8, none⟩ = false := blk_frozen BB.out 8; have y9 : World.frozen? wS ⟨gb, 9, none⟩ = false := blk_frozen BB.out 9; go_simp
          have g0 := BB.out
          have f0 := Fr.refl [30] wS
          have f1 := f0.set (p := ⟨gb, 0, none⟩) g0 (by decide) (.int .i64 0)
          have g1 := blk_put g0 0 (.int .i64 0) (cs' := #[.int .i64 0, .int .i64 0, .int .i64 0, .int .i64 0, .int .i64 0, .int .i64 0, .slice none 0 0, .slice none 0 0, .slice none 0 0, .slice none 0 0]) rfl
          have f2 := f1.set (p := ⟨gb, 1, none⟩) g1 (by decide) (.int .i64 0)
          have g2 := blk_put g1 1 (.int .i64 0) (cs' := #[.int .i64 0, .int .i64 0, .int .i64 0, .int .i64 0, .int .i64 0, .int .i64 0, .slice none 0 0, .slice none 0 0, .slice none 0 0, .slice none 0 0]) rfl
          have f3 := f2.set (p := ⟨gb, 2, none⟩) g2 (by decide) (.int .i64 0)
          have g3 := blk_put g2 2 (.int .i64 0) (cs' := #[.int .i64 0, .int .i64 0, .int .i64 0, .int .i64 0, .int .i64 0, .int .i64 0, .slice none 0 0, .slice none 0 0, .slice none 0 0, .slice none 0 0]) rfl
          have f4 := f3.set (p := ⟨gb, 3, none⟩) g3 (by decide) (.int .i64 0)
          have g4 := blk_put g3 3 (.int .i64 0) (cs' := #[.int .i64 0, .int .i64 0, .int .i64 0, .int .i64 0, .int .i64 0, .int .i64 0, .slice none 0 0, .slice none 0 0, .slice none 0 0, .slice none 0 0]) rfl
          have f5 := f4.set (p := ⟨gb, 4, none⟩) g4 (by decide) (.int .i64 0)
          have g5 := blk_put g4 4 (.int .i64 0) (cs' := #[.int .i64 0, .int .i64 0, .int .i64 0, .int .i64 0, .int .i64 0, .int .i64 0, .slice none 0 0, .slice none 0 0, .slice none 0 0, .slice none 0 0]) rfl
          have f6 := f5.set (p := ⟨gb, 5, none⟩) g5 (by decide) (.int .i64 0)
          have g6 := blk_put g5 5 (.int .i64 0) (cs' := #[.int .i64 0, .int .i64 0, .int .i64 0, .int .i64 0, .int .i64 0, .int .i64 0, .slice none 0 0, .slice none 0 0, .slice none 0 0, .slice none 0 0]) rfl
          have f7 := f6.set (p := ⟨gb, 6, none⟩) g6 (by decide) (.slice none 0 0)
          have g7 := blk_put g6 6 (.slice none 0 0) (cs' := #[.int .i64 0, .int .i64 0, .int .i64 0, .int .i64 0, .int .i64 0, .int .i64 0, .slice none 0 0, .slice none 0 0, .slice none 0 0, .slice none 0 0]) rfl
          have f8 := f7.set (p := ⟨gb, 7, none⟩) g7 (by decide) (.slice none 0 0)
          have g8 := blk_put g7 7 (.slice none 0 0) (cs' := #[.int .i64 0, .int .i64 0, .int .i64 0, .int .i64 0, .int .i64 0, .int .i64 0, .slice none 0 0, .slice none 0 0, .slice none 0 0, .slice none 0 0]) rfl
          have f9 := f8.set (p := ⟨gb, 8, none⟩) g8 (by decide) (.slice none 0 0)
          have g9 := blk_put g8 8 (.slice none 0 0) (cs' := #[.int .i64 0, .int .i64 0, .int .i64 0, .int .i64 0, .int .i64 0, .int .i64 0, .slice none 0 0, .slice none 0 0, .slice none 0 0, .slice none 0 0]) rfl
          have f10 := f9.set (p := ⟨gb, 9, none⟩) g9 (by decide) (.slice none 0 0)
          have g10 := blk_put g9 9 (.slice none 0 0) (cs' := #[.int .i64 0, .int .i64 0, .int .i64 0, .int .i64 0, .int .i64 0, .int .i64 0, .slice none 0 0, .slice none 0 0, .slice none 0 0, .slice none 0 0]) rfl
          have hx := (set_base (j := 9) (v := .slice none 0 0) (set_base (j := 8) (v := .slice none 0 0) (set_base (j := 7) (v := .slice none 0 0) (set_base (j := 6) (v := .slice none 0 0) (set_base (j := 5) (v := .int .i64 0) (set_base (j := 4) (v := .int .i64 0) (set_base (j := 3) (v := .int .i64 0) (set_base (j := 2) (v := .int .i64 0) (set_base (j := 1) (v := .int .i64 0) (set_base (j := 0) (v := .int .i64 0) HB.out GBB.out) GBB.out) GBB.out) GBB.out) GBB.out) GBB.out) GBB.out) GBB.out) GBB.out) GBB.out)
          have hh := f10.blk BS.out (by decide)
          clear hHeld
          have hHeld := hh
          clear hh
          refine hK.out _ _ hHeld (fun _ => ?_)
          clear hK K
          refine pure_ (i := 7) (N := (some 3)) (v := ?_) (a' := ?_) #[true, true, true, true, true, true, true, true, false] rfl rfl (by kernel_rfl) (fun _ _ _ h => h) (Or.inl ⟨by rfl, ?_⟩) ?_ ?_
          rotate_left
          · intro w'
            go_simp
            with_reducible rfl
          rotate_left
          · (try simp only [Act.put, List.setIfInBounds_toArray, List.set_cons_zero, List.set_cons_succ, i64_w, i32_w])
            rfl
          refine pure_ (i := 8) (N := (some 4)) (v := ?_) (a' := ?_) #[true, true, true, true, true, true, true, true, true] rfl rfl (by kernel_rfl) (fun _ _ _ h => h) (Or.inl ⟨by rfl, ?_⟩) ?_ ?_
          rotate_left
          · intro w'
            go_simp
            with_reducible rfl
          rotate_left
          · (try simp only [Act.put, List.setIfInBounds_toArray, List.set_cons_zero, List.set_cons_succ, i64_w, i32_w])
            rfl
          refine done_ (by kernel_rfl) ?_
          go_wp2
          refine bodyPost_ret (results_ctt rfl _ _ gb 30 #[.int .i64 0, .int .i64 0, .int .i64 0, .int .i64 0, .int .i64 0, .int .i64 0, .slice none 0 0, .slice none 0 0, .slice none 0 0, .slice none 0 0] (0, 0) _ rfl g10 Try.underlying30 rfl (by kernel_rfl)) rfl ?_
          have hG : getF l0 = (rd0, (s'.at_ : Int), se) := by unfold getF; rw [GF.out, ← E.out, if_pos hse]
          unfold GetOk
          rw [hG]
          exact ⟨_, _, _, _, rfl, ⟨Kd.R_nil _ _ _ _ _, Kd.R_nil _ _ _ _ _, Kd.R_nil _ _ _ _ _, Kd.R_nil _ _ _ _ _⟩, hx⟩
      omega
end Go.Proofs.Ythfkgnkojhocbaa.S
end
section
namespace Go.Proofs.Ythfkgnkojhocbaa.S
open Go.RowKit Go.Proofs.YthfkgnkojhocbaaW.PrintWords Go.Proofs.YthfkgnkojhocbaaW.PrintLast Go.Proofs.YthfkgnkojhocbaaW.PrintMore
attribute [local go_sem] max2_int min2_int max_two min_two max_three min_three max_four min_four
set_option linter.unusedVariables false
set_option linter.unusedSimpArgs false
/-- All bytes? -/
def bytesB (l : List Int) : Bool := l.all fun x => decide (0 ≤ x ∧ x ≤ 255)
theorem bytesB_isB {l : List Int} (h : bytesB l = true) : isB l := fun x hx => by
  unfold bytesB at h
  rw [List.all_eq_true] at h
  exact of_decide_eq_true (h x hx)
def flatG (r : Rd × Int × Int) : Int × Int × Int × Int × Int × Int × List Int × List Int × List (List (List S80)) × List Int × Int × Int :=
  (r.1.c.f0, r.1.c.f1, r.1.c.f2, r.1.c.f3, r.1.c.f4, r.1.c.f5, r.1.f, r.1.d, r.1.a, r.1.p, r.2.1, r.2.2)
def script_Get.f (k : Nat) (l0 : List Int) : Option (Int × Int × Int × Int × Int × Int × List Int × List Int × List (List (List S80)) × List Int × Int × Int) :=
  if l0.length ≤ 1000000 ∧ bytesB l0 = true then some (flatG (getF l0)) else none
theorem script_Get.mono : ∀ a0 k, LeO (script_Get.f k a0) (script_Get.f (k + 1) a0) := fun a0 k r h => h
theorem script_Get.calls (k : Nat) (A0 : Option Addr) (c0 : Nat) (l0 : List Int) (r1 r2 r3 r4 r5 r6 : Int) (r7 r8 : List Int) (r9 : List (List (List S80))) (r10 : List Int) (r11 r12 : Int) (w : World) (hr0 : Kd.C (Kd.int .u8) w A0 l0.length l0) (hc0 : l0.length ≤ c0) (h : script_Get.f k l0 = some (r1, r2, r3, r4, r5, r6, r7, r8, r9, r10, r11, r12)) :
    Calls Try.prog 10 #[.slice A0 l0.length c0] w fun e w' => ∃ v6 v7 v8 v9 : Value, e = .returned (.tuple #[.agg #[.int .i64 r1, .int .i64 r2, .int .i64 r3, .int .i64 r4, .int .i64 r5, .int .i64 r6, v6, v7, v8, v9], .int .i64 r11, .int .i64 r12]) ∧ Kd.R (Kd.int .i64) 2 w' w.heap.size (fun _ => True) v6 r7 ∧ Kd.R (Kd.int .u8) 5 w' w.heap.size (fun _ => True) v7 r8 ∧ Kd.R (Kd.slice 61 (Kd.slice 80 k80)) 60 w' w.heap.size (fun _ => True) v8 r9 ∧ Kd.R (Kd.int .i64) 3 w' w.heap.size (fun _ => True) v9 r10 ∧ Below w.heap.size w w' := by
  unfold script_Get.f at h
  split at h
  · rename_i hb
    have h := Option.some.inj h
    simp only [flatG, Prod.mk.injEq] at h
    obtain ⟨rfl, rfl, rfl, rfl, rfl, rfl, rfl, rfl, rfl, rfl, rfl, rfl⟩ := h
    refine (get_calls A0 c0 l0 w hr0 hc0 hb.1 (bytesB_isB hb.2)).mono fun e w' hg => ?_
    obtain ⟨vf, vd, va, vp, he, ho, hb⟩ := hg
    exact ⟨vf, vd, va, vp, he, ho.f, ho.d, ho.a, ho.p, hb⟩
  · cases h
end Go.Proofs.Ythfkgnkojhocbaa.S
end
section
namespace Go.Proofs.Ythfkgnkojhocbaa.S
open Go.RowKit Go.Proofs.YthfkgnkojhocbaaW.PrintWords Go.Proofs.YthfkgnkojhocbaaW.PrintLast Go.Proofs.YthfkgnkojhocbaaW.PrintMore
attribute [local go_sem] max2_int min2_int max_two min_two max_three min_three max_four min_four
set_option linter.unusedVariables false
set_option linter.unusedSimpArgs false
theorem eqA25 (d : Nat) (w : World) (x0 y0 : Int) (x1 y1 : Int) (x2 y2 : Int) (x3 y3 : Int) (x4 y4 : Int) (x5 y5 : Int) :
    (Op.equalIn (d + 2) 25 (.agg #[.int .i64 x0, .int .i64 x1, .int .i64 x2, .int .i64 x3, .int .i64 x4, .int .i64 x5]) (.agg #[.int .i64 y0, .int .i64 y1, .int .i64 y2, .int .i64 y3, .int .i64 y4, .int .i64 y5])).run Try.prog w = .ok (x0 == y0 && (x1 == y1 && (x2 == y2 && (x3 == y3 && (x4 == y4 && (x5 == y5)))))) w := by
  refine eqA_of Try.underlying25 (by kernel_rfl) ?_
  refine eqf_cons (by rfl) (by go_simp; rfl) (by go_simp; rfl) (by go_simp) ?_
  refine eqf_cons (by rfl) (by go_simp; rfl) (by go_simp; rfl) (by go_simp) ?_
  refine eqf_cons (by rfl) (by go_simp; rfl) (by go_simp; rfl) (by go_simp) ?_
  refine eqf_cons (by rfl) (by go_simp; rfl) (by go_simp; rfl) (by go_simp) ?_
  refine eqf_cons (by rfl) (by go_simp; rfl) (by go_simp; rfl) (by go_simp) ?_
  exact eqf_last (by rfl) (by go_simp; rfl) (by go_simp; rfl) (by go_simp)
end Go.Proofs.Ythfkgnkojhocbaa.S
end
section
namespace Go.Proofs.Ythfkgnkojhocbaa.S
open Go.RowKit Go.Proofs.YthfkgnkojhocbaaW.PrintWords Go.Proofs.YthfkgnkojhocbaaW.PrintLast Go.Proofs.YthfkgnkojhocbaaW.PrintMore
attribute [local go_sem] max2_int min2_int max_two min_two max_three min_three max_four min_four
set_option linter.unusedVariables false
set_option linter.unusedSimpArgs false
attribute [local go_sem high] eqA25
def quarrelref01_Vals.l0 : Nat → List Int → List Int → Int → Option (Bool)
  | 0, _, _, _ => none
  | k + 1, x0, x1, x5 => if x5 < (x0.length : Int) then (if 0 ≤ x5 then (if x5 < (x1.length : Int) then (if (rd x0 x5) = (rd x1 x5) then (quarrelref01_Vals.l0 k x0 x1 (wrap64 (x5 + 1))) else (some false)) else (none)) else (none)) else (some true)
def quarrelref01_Vals.f (k : Nat) (l0 : List Int) (l1 : List Int) : Option (Bool) := if (l0.length : Int) = (l1.length : Int) then (quarrelref01_Vals.l0 k l0 l1 0) else (some false)
theorem quarrelref01_Vals.mono_l : ∀ k, (∀ y0 y1 y2, LeO (quarrelref01_Vals.l0 k y0 y1 y2) (quarrelref01_Vals.l0 (k + 1) y0 y1 y2))
  | 0 => fun _ _ _ r h => by simp [quarrelref01_Vals.l0] at h
  | k + 1 => by
    have ih0 := quarrelref01_Vals.mono_l k
    · intro y0 y1 y2
      unfold quarrelref01_Vals.l0
      repeat' first
      | (with_reducible exact ih0 _ _ _)
      | (with_reducible exact LeO.refl _)
      | (with_reducible exact LeO.none _)
      | (with_reducible refine LeO.ite ?_ ?_)
      | (with_reducible refine LeO.bind ?_ (fun _ => ?_))
      | exact ih0 _ _ _
      | exact LeO.none _
      | refine LeO.ite ?_ ?_
      | refine LeO.bind ?_ (fun _ => ?_)
theorem quarrelref01_Vals.mono : ∀ a0 a1 k, LeO (quarrelref01_Vals.f k a0 a1) (quarrelref01_Vals.f (k + 1) a0 a1) := by
  intro a0 a1 k
  have ih0 := quarrelref01_Vals.mono_l k
  unfold quarrelref01_Vals.f
  repeat' first
      | (with_reducible exact ih0 _ _ _)
      | (with_reducible exact LeO.refl _)
      | (with_reducible exact LeO.none _)
      | (with_reducible refine LeO.ite ?_ ?_)
      | (with_reducible refine LeO.bind ?_ (fun _ => ?_))
      | exact ih0 _ _ _
      | exact LeO.none _
      | refine LeO.ite ?_ ?_
      | refine LeO.bind ?_ (fun _ => ?_)
set_option maxHeartbeats 8000000 in
set_option maxRecDepth 100000 in
theorem quarrelref01_Vals.calls (k : Nat) (A0 : Option Addr) (c0 : Nat) (l0 : List Int) (A1 : Option Addr) (c1 : Nat) (l1 : List Int) (r : Bool) (w : World) (hr0 : Kd.C (Kd.int .i64) w A0 l0.length l0) (hc0 : l0.length ≤ c0) (hr1 : Kd.C (Kd.int .i64) w A1 l1.length l1) (hc1 : l1.length ≤ c1) (h : quarrelref01_Vals.f k l0 l1 = some r) :
  Calls Try.prog 19 #[.slice A0 l0.length c0, .slice A1 l1.length c1] w fun e w' => e = .returned (.bool r) ∧ Drawn0 w w' := by
 have HR0 := Aside0.mk hr0
 have HC0 := Aside0.mk hc0
 clear hr0 hc0
 have HR1 := Aside0.mk hr1
 have HC1 := Aside0.mk hc1
 clear hr1 hc1
 have H : (if (l0.length : Int) = (l1.length : Int) then (quarrelref01_Vals.l0 k l0 l1 0) else (some false)) = some r := h
 clear h
 by_cases c3 : (l0.length : Int) = (l1.length : Int)
 ·rw [if_pos c3] at H
  have c3b0 : ((l0.length : Int) == (l1.length : Int)) = true := beq_iff_eq.mpr c3
  have c3b1 : ((l0.length : Int) != (l1.length : Int)) = false := bne_eq_false_iff_eq.mpr c3
  have c3b2 : (l0.length == l1.length) = true := by first | simpa using c3 | (simp at c3 ⊢; omega)
  clear c3
  have H' := Aside0.mk H
  clear H
  go_enter Try.func19, Try.ntmps19
  go_wp2
  repeat (go_quiet (fail); try go_wp2)
  go_loopg [5] k (fun kq v5 w' => ∃ (x5_1 : Int), v5 = .int .i64 x5_1 ∧ Aside0 (quarrelref01_Vals.l0 kq l0 l1 x5_1 = some r) ∧ Aside0 (kq ≤ k) ∧ Drawn0 w w')
  case atStart => exact ⟨(0), (by first | rfl | (simp; done) | (simp [*]; done)), H', ⟨Nat.le_refl _⟩, by repeat (first | exact Drawn0.refl _ | apply Drawn0.step)⟩
  case round =>
   clear H'
   try clear c1
   try clear c3
   try clear c3b0
   try clear c3b1
   try clear c3b2
   obtain ⟨x5_1, rfl, HA, HK1, ⟨m1, rfl⟩⟩ := hrel
   cases gk with
   | zero => exact absurd HA.out (by simp [quarrelref01_Vals.l0])
   | succ k1 =>
    have H := HA.out
    clear HA
    simp only [quarrelref01_Vals.l0] at H
    by_cases c4 : x5_1 < (l0.length : Int)
    ·rw [if_pos c4] at H
     have c4b0 : decide (x5_1 < (l0.length : Int)) = true := decide_eq_true c4
     clear c4
     by_cases c5 : 0 ≤ x5_1
     ·rw [if_pos c5] at H
      have c5b0 : decide (0 ≤ x5_1) = true := decide_eq_true c5
      clear c5
      by_cases c6 : x5_1 < (l1.length : Int)
      ·rw [if_pos c6] at H
       have c6b0 : decide (x5_1 < (l1.length : Int)) = true := decide_eq_true c6
       clear c6
       by_cases c7 : (rd l0 x5_1) = (rd l1 x5_1)
       ·rw [if_pos c7] at H
        have c7b0 : ((rd l0 x5_1) == (rd l1 x5_1)) = true := beq_iff_eq.mpr c7
        have c7b1 : ((rd l0 x5_1) != (rd l1 x5_1)) = false := bne_eq_false_iff_eq.mpr c7
        clear c7
        have H' := Aside0.mk H
        clear H
        have p118 : 0 ≤ (x5_1 : Int) := of_decide_eq_true (by first | (with_reducible assumption) | assumption)
        have q118 : x5_1 < (l0.length : Int) := of_decide_eq_true (by first | (with_reducible assumption) | assumption)
        obtain ⟨ad118, e118, hx118_0⟩ := Kd.at_int HR0.out x5_1 p118 q118
        cases e118
        replace p118 := eq_true p118
        replace q118 := eq_true q118
        have p119 : 0 ≤ (x5_1 : Int) := of_decide_eq_true (by first | (with_reducible assumption) | assumption)
        have q119 : x5_1 < (l1.length : Int) := of_decide_eq_true (by first | (with_reducible assumption) | assumption)
        obtain ⟨ad119, e119, hx119_0⟩ := Kd.at_int HR1.out x5_1 p119 q119
        cases e119
        replace p119 := eq_true p119
        replace q119 := eq_true q119
        go_wp2
        repeat (go_quiet (fail); try go_wp2)
        go_roundg k1
        case measure => have := HK1.out; omega
        case rel => exact ⟨(wrap64 (x5_1 + 1)), (by first | rfl | (simp; done) | (simp [*]; done)), H', ⟨by have := HK1.out; omega⟩, by repeat (first | exact Drawn0.refl _ | apply Drawn0.step)⟩
       ·rw [if_neg c7] at H
        have c7b0 : ((rd l0 x5_1) == (rd l1 x5_1)) = false := beq_eq_false_iff_ne.mpr c7
        have c7b1 : ((rd l0 x5_1) != (rd l1 x5_1)) = true := bne_iff_ne.mpr c7
        obtain rfl := Option.some.inj H
        have p118 : 0 ≤ (x5_1 : Int) := of_decide_eq_true (by first | (with_reducible assumption) | assumption)
        have q118 : x5_1 < (l0.length : Int) := of_decide_eq_true (by first | (with_reducible assumption) | assumption)
        obtain ⟨ad118, e118, hx118_0⟩ := Kd.at_int HR0.out x5_1 p118 q118
        cases e118
        replace p118 := eq_true p118
        replace q118 := eq_true q118
        have p119 : 0 ≤ (x5_1 : Int) := of_decide_eq_true (by first | (with_reducible assumption) | assumption)
        have q119 : x5_1 < (l1.length : Int) := of_decide_eq_true (by first | (with_reducible assumption) | assumption)
        obtain ⟨ad119, e119, hx119_0⟩ := Kd.at_int HR1.out x5_1 p119 q119
        cases e119
        replace p119 := eq_true p119
        replace q119 := eq_true q119
        go_wp2
        repeat (go_quiet (fail); try go_wp2)
        go_ret
        exact ⟨by first | rfl | (simp; done) | (simp [*]; done), by repeat (first | exact Drawn0.refl _ | apply Drawn0.step)⟩
      ·rw [if_neg c6] at H
       exact absurd H (by simp)
     ·rw [if_neg c5] at H
      exact absurd H (by simp)
    ·rw [if_neg c4] at H
     have c4b0 : decide (x5_1 < (l0.length : Int)) = false := decide_eq_false c4
     clear c4
     obtain rfl := Option.some.inj H
     go_wp2
     repeat (go_quiet (fail); try go_wp2)
     go_ret
     exact ⟨by first | rfl | (simp; done) | (simp [*]; done), by repeat (first | exact Drawn0.refl _ | apply Drawn0.step)⟩
 ·rw [if_neg c3] at H
  have c3b0 : ((l0.length : Int) == (l1.length : Int)) = false := beq_eq_false_iff_ne.mpr c3
  have c3b1 : ((l0.length : Int) != (l1.length : Int)) = true := bne_iff_ne.mpr c3
  have c3b2 : (l0.length == l1.length) = false := by first | simpa using c3 | (simp at c3 ⊢; omega)
  obtain rfl := Option.some.inj H
  go_enter Try.func19, Try.ntmps19
  go_wp2
  repeat (go_quiet (fail); try go_wp2)
  go_ret
  exact ⟨by first | rfl | (simp; done) | (simp [*]; done), by repeat (first | exact Drawn0.refl _ | apply Drawn0.step)⟩
def quarrellaw20_alive.f (k : Nat)  : Option (Bool) := (script_Get.f k (([1, 1, 0, 9, 5, 1, 2, 7, 0, 0] : List Int))).bind fun bt123 => (if bt123.2.2.2.2.2.2.2.2.2.2.2 = 0 then (if bt123.2.2.2.2.2.2.2.2.2.2.1 = (-1) then (if (bt123.1 == 1 && (bt123.2.1 == 1 && (bt123.2.2.1 == 9 && (bt123.2.2.2.1 == 5 && (bt123.2.2.2.2.1 == 1 && (bt123.2.2.2.2.2.1 == 2)))))) = true then ((quarrelref01_Vals.f k bt123.2.2.2.2.2.2.1 (([7] : List Int))).bind fun t147 => (if t147 = true then (if (bt123.2.2.2.2.2.2.2.2.1.length : Int) = 1 then (some ((wrap64 ((bt123.2.2.2.2.2.2.2.2.2.1.length : Int) + (bt123.2.2.2.2.2.2.2.1.length : Int))) == 0)) else (some false)) else (some false))) else (some false)) else (some false)) else (some false))
theorem quarrellaw20_alive.mono : ∀ k, LeO (quarrellaw20_alive.f k ) (quarrellaw20_alive.f (k + 1) ) := by
  intro  k
  unfold quarrellaw20_alive.f
  repeat' first
      | (with_reducible exact quarrelref01_Vals.mono _ _ _)
      | (with_reducible exact script_Get.mono _ _)
      | (with_reducible exact LeO.refl _)
      | (with_reducible exact LeO.none _)
      | (with_reducible refine LeO.ite ?_ ?_)
      | (with_reducible refine LeO.bind ?_ (fun _ => ?_))
      | exact quarrelref01_Vals.mono _ _ _
      | exact script_Get.mono _ _
      | exact LeO.none _
      | refine LeO.ite ?_ ?_
      | refine LeO.bind ?_ (fun _ => ?_)
set_option maxHeartbeats 8000000 in
set_option maxRecDepth 100000 in
theorem quarrellaw20_alive.calls (k : Nat)  (r : Bool) (w : World) (h : quarrellaw20_alive.f k  = some r) :
  Calls Try.prog 9 #[] w fun e w' => e = .returned (.bool r) ∧ Below w.heap.size w w' := by
 have hu30 := Try.underlying30
 have hu25 := Try.underlying25
 have HB := Aside0.mk (Below.refl w.heap.size w)
 have H : ((script_Get.f k (([1, 1, 0, 9, 5, 1, 2, 7, 0, 0] : List Int))).bind fun bt123 => (if bt123.2.2.2.2.2.2.2.2.2.2.2 = 0 then (if bt123.2.2.2.2.2.2.2.2.2.2.1 = (-1) then (if (bt123.1 == 1 && (bt123.2.1 == 1 && (bt123.2.2.1 == 9 && (bt123.2.2.2.1 == 5 && (bt123.2.2.2.2.1 == 1 && (bt123.2.2.2.2.2.1 == 2)))))) = true then ((quarrelref01_Vals.f k bt123.2.2.2.2.2.2.1 (([7] : List Int))).bind fun t147 => (if t147 = true then (if (bt123.2.2.2.2.2.2.2.2.1.length : Int) = 1 then (some ((wrap64 ((bt123.2.2.2.2.2.2.2.2.2.1.length : Int) + (bt123.2.2.2.2.2.2.2.1.length : Int))) == 0)) else (some false)) else (some false))) else (some false)) else (some false)) else (some false))) = some r := h
 clear h
 obtain ⟨y120, hy120⟩ : ∃ y_ : List Int, y_ = (([1, 1, 0, 9, 5, 1, 2, 7, 0, 0] : List Int)) := ⟨_, rfl⟩
 replace H : ((script_Get.f k y120).bind fun bt123 => (if bt123.2.2.2.2.2.2.2.2.2.2.2 = 0 then (if bt123.2.2.2.2.2.2.2.2.2.2.1 = (-1) then (if (bt123.1 == 1 && (bt123.2.1 == 1 && (bt123.2.2.1 == 9 && (bt123.2.2.2.1 == 5 && (bt123.2.2.2.2.1 == 1 && (bt123.2.2.2.2.2.1 == 2)))))) = true then ((quarrelref01_Vals.f k bt123.2.2.2.2.2.2.1 (([7] : List Int))).bind fun t147 => (if t147 = true then (if (bt123.2.2.2.2.2.2.2.2.1.length : Int) = 1 then (some ((wrap64 ((bt123.2.2.2.2.2.2.2.2.2.1.length : Int) + (bt123.2.2.2.2.2.2.2.1.length : Int))) == 0)) else (some false)) else (some false))) else (some false)) else (some false)) else (some false))) = some r := by first | (rw [hy120]; with_reducible exact H) | (have H2_ := (Option.bind_some _ _).symm.trans H; rw [hy120]; with_reducible exact H2_) | (have H2_ := (Option.bind_some _ _).symm.trans H; with_reducible exact H2_) | with_reducible exact H | (rw [hy120]; exact H) | exact H
 have Ny120 := Aside0.mk hy120
 clear hy120
 replace H := Option.bind_eq_some_iff.mp H
 obtain ⟨⟨t123, t124, t125, t126, t127, t128, t129, t132, t135, t138, t141, t142⟩, A10, H⟩ := H
 replace H : (if t142 = 0 then (if t141 = (-1) then (if (t123 == 1 && (t124 == 1 && (t125 == 9 && (t126 == 5 && (t127 == 1 && (t128 == 2)))))) = true then ((quarrelref01_Vals.f k t129 (([7] : List Int))).bind fun t147 => (if t147 = true then (if (t135.length : Int) = 1 then (some ((wrap64 ((t138.length : Int) + (t132.length : Int))) == 0)) else (some false)) else (some false))) else (some false)) else (some false)) else (some false)) = some r := H
 have A1 := Aside0.mk A10
 clear A10
 by_cases c2 : t142 = 0
 ·rw [if_pos c2] at H
  have c2b0 : (t142 == 0) = true := beq_iff_eq.mpr c2
  have c2b1 : (t142 != 0) = false := bne_eq_false_iff_eq.mpr c2
  clear c2
  by_cases c3 : t141 = (-1)
  ·rw [if_pos c3] at H
   have c3b0 : (t141 == (-1)) = true := beq_iff_eq.mpr c3
   have c3b1 : (t141 != (-1)) = false := bne_eq_false_iff_eq.mpr c3
   clear c3
   by_cases c4 : (t123 == 1 && (t124 == 1 && (t125 == 9 && (t126 == 5 && (t127 == 1 && (t128 == 2)))))) = true
   ·rw [if_pos c4] at H
    have c4b0 : (t123 == 1 && (t124 == 1 && (t125 == 9 && (t126 == 5 && (t127 == 1 && (t128 == 2)))))) = true := c4
    (try (have c4b1 : decide (t123 = 1 && (t124 == 1 && (t125 == 9 && (t126 == 5 && (t127 == 1 && (t128 == 2)))))) = true := by simpa using c4))
    (try (have c4b2 : (t123 == 1 && (t124 == 1 && (t125 == 9 && (t126 == 5 && (t127 == 1 && (t128 == 2)))))) = true := by simpa using c4))
    clear c4
    obtain ⟨y144, hy144⟩ : ∃ y_ : List Int, y_ = (([7] : List Int)) := ⟨_, rfl⟩
    replace H : ((quarrelref01_Vals.f k t129 y144).bind fun t147 => (if t147 = true then (if (t135.length : Int) = 1 then (some ((wrap64 ((t138.length : Int) + (t132.length : Int))) == 0)) else (some false)) else (some false))) = some r := by first | (rw [hy144]; with_reducible exact H) | (have H2_ := (Option.bind_some _ _).symm.trans H; rw [hy144]; with_reducible exact H2_) | (have H2_ := (Option.bind_some _ _).symm.trans H; with_reducible exact H2_) | with_reducible exact H | (rw [hy144]; exact H) | exact H
    have Ny144 := Aside0.mk hy144
    clear hy144
    replace H := Option.bind_eq_some_iff.mp H
    obtain ⟨t147, A50, H⟩ := H
    replace H : (if t147 = true then (if (t135.length : Int) = 1 then (some ((wrap64 ((t138.length : Int) + (t132.length : Int))) == 0)) else (some false)) else (some false)) = some r := H
    have A5 := Aside0.mk A50
    clear A50
    by_cases c6 : t147 = true
    ·subst c6
     have H1 : (if (t135.length : Int) = 1 then (some ((wrap64 ((t138.length : Int) + (t132.length : Int))) == 0)) else (some false)) = some r := by rw [if_pos rfl] at H; exact H
     clear H
     have H := H1
     clear H1
     by_cases c7 : (t135.length : Int) = 1
     ·rw [if_pos c7] at H
      have c7b0 : ((t135.length : Int) == 1) = true := beq_iff_eq.mpr c7
      have c7b1 : ((t135.length : Int) != 1) = false := bne_eq_false_iff_eq.mpr c7
      clear c7
      obtain rfl := Option.some.inj H
      go_enter Try.func9, Try.ntmps9
      go_wp2_with (first | ((with_reducible refine gate_dst (N := 5) rfl ?_); (try (refine gate_guard (by rfl) ?_; dsimp only)); refine Kd.R_lit (Kd.int .u8) _ 5 ?hg (N := 5) ?hd (xs := ([1, 1, 0, 9, 5, 1, 2, 7, 0, 0] : List Int)) (inner := [.int .u8 1, .int .u8 1, .int .u8 0, .int .u8 9, .int .u8 5, .int .u8 1, .int .u8 2, .int .u8 7, .int .u8 0, .int .u8 0]) (ok := fun _ => True) (okp := fun _ => True) ?hr ?hp (fun _ hk => hk) trivial (Below.refl _ _) (Nat.le_refl _) (by simp) ?_; (case hd => rfl); (case hg => rfl); (case hr => first | (go_simp; done) | (go_simp; rfl)); (case hp => exact (Reps.one (show Kd.M (Kd.int .u8) _ _ _ 1 [.int .u8 1] from rfl) (Reps.one (show Kd.M (Kd.int .u8) _ _ _ 1 [.int .u8 1] from rfl) (Reps.one (show Kd.M (Kd.int .u8) _ _ _ 0 [.int .u8 0] from rfl) (Reps.one (show Kd.M (Kd.int .u8) _ _ _ 9 [.int .u8 9] from rfl) (Reps.one (show Kd.M (Kd.int .u8) _ _ _ 5 [.int .u8 5] from rfl) (Reps.one (show Kd.M (Kd.int .u8) _ _ _ 1 [.int .u8 1] from rfl) (Reps.one (show Kd.M (Kd.int .u8) _ _ _ 2 [.int .u8 2] from rfl) (Reps.one (show Kd.M (Kd.int .u8) _ _ _ 7 [.int .u8 7] from rfl) (Reps.one (show Kd.M (Kd.int .u8) _ _ _ 0 [.int .u8 0] from rfl) (Reps.one (show Kd.M (Kd.int .u8) _ _ _ 0 [.int .u8 0] from rfl) (Reps.none _ _)))))))))))); intro v121 w8 ho9 hb hg_ hnew_; clear hg_ hnew_; (first | rw [← Ny120.out] at ho9 | (simp only [Int.reduceToNat] at ho9; rw [← Ny120.out] at ho9)); have n0_ := Aside0.mk (Kd.R_lower ho9 (below_size (by repeat (first | (with_reducible first | exact HB.out | apply bwA | apply bwN | apply bw1) | exact HB.out)))); have n1_ := Aside0.mk (below_step (by repeat (first | (with_reducible first | exact HB.out | apply bwA | apply bwN | apply bw1) | exact HB.out)) hb); clear HB; have HO122 := n0_; have HB := n1_; clear n0_ n1_; clear hb ho9; obtain ⟨Ao10, co10, eo10⟩ := Kd.R_slice HO122.out; subst eo10) | ((with_reducible refine gate_callee (f := 10) rfl ?_); refine goesL_ (some 6) rfl rfl Try.func10 (by kernel_rfl) rfl #[.slice Ao10 y120.length co10] rfl (by (try simp only [List.map_toArray, List.map_cons, List.map_nil]); first | done | rfl | (simp only [List.length_drop, List.length_take]; rfl)) ?_; (with_reducible refine (script_Get.calls k _ _ y120 t123 t124 t125 t126 t127 t128 t129 t132 t135 t138 t141 t142 _ ?side1 ?side2 A1.out).mono ?_); (case side1 => repeat (first | exact (Kd.R_reads' HO122.out).2.2 | (with_reducible refine Kd.C_alloc ?_ _) | (with_reducible refine Kd.C_drewN ?_ _) | (with_reducible refine Kd.C_drew ?_))); (case side2 => exact (Kd.R_reads' HO122.out).2.1); rintro e w11 ⟨v130, v133, v136, v139, rfl, ho0, ho1, ho2, ho3, hb⟩; refine ⟨_, rfl, ?_⟩; have n0_ := Aside0.mk (Kd.R_elder' (by (with_reducible repeat (first | apply Kd.R_alloc | apply Kd.R_drewN | apply Kd.R_drew)); exact HO122.out) (Kd.R_base ho1) hb); have n1_ := Aside0.mk (Kd.R_lower ho0 (below_size (by repeat (first | (with_reducible first | exact HB.out | apply bwA | apply bwN | apply bw1) | exact HB.out)))); have n2_ := Aside0.mk (Kd.R_lower (Kd.R_new' ho1 (Kd.R_lt (by (with_reducible repeat (first | apply Kd.R_alloc | apply Kd.R_drewN | apply Kd.R_drew)); exact HO122.out))) (below_size (by repeat (first | (with_reducible first | exact HB.out | apply bwA | apply bwN | apply bw1) | exact HB.out)))); have n3_ := Aside0.mk (Kd.R_lower ho2 (below_size (by repeat (first | (with_reducible first | exact HB.out | apply bwA | apply bwN | apply bw1) | exact HB.out)))); have n4_ := Aside0.mk (Kd.R_lower ho3 (below_size (by repeat (first | (with_reducible first | exact HB.out | apply bwA | apply bwN | apply bw1) | exact HB.out)))); have n5_ := Aside0.mk (below_step (by repeat (first | (with_reducible first | exact HB.out | apply bwA | apply bwN | apply bw1) | exact HB.out)) hb); clear HO122; clear HB; have HO122 := n0_; have HO131 := n1_; have HO134 := n2_; have HO137 := n3_; have HO140 := n4_; have HB := n5_; clear n0_ n1_ n2_ n3_ n4_ n5_; (try clear hb); (try clear hb2); (try clear hk); (try clear hi); (try clear ho0); (try clear ho1); (try clear ho2); (try clear ho3)) | ((with_reducible refine gate_dst (N := 1) rfl ?_); (try (refine gate_guard (by rfl) ?_; dsimp only)); refine box_event ?hg (N := 1) ?hd (cs := #[.int .i64 0, .int .i64 0, .int .i64 0, .int .i64 0, .int .i64 0, .int .i64 0, .slice none 0 0, .slice none 0 0, .slice none 0 0, .slice none 0 0]) (t := 30) ?hr ?_; (case hd => rfl); (case hg => rfl); (case hr => first | (go_simp; done) | (go_simp; rfl)); intro gb143 hg w12 hbox hb; have n0_ := Aside0.mk (Kd.R_below (by (with_reducible repeat (first | apply Kd.R_alloc | apply Kd.R_drewN | apply Kd.R_drew)); exact HO122.out) hb); have n1_ := Aside0.mk (Kd.R_below (by (with_reducible repeat (first | apply Kd.R_alloc | apply Kd.R_drewN | apply Kd.R_drew)); exact HO131.out) hb); have n2_ := Aside0.mk (Kd.R_below (by (with_reducible repeat (first | apply Kd.R_alloc | apply Kd.R_drewN | apply Kd.R_drew)); exact HO134.out) hb); have n3_ := Aside0.mk (Kd.R_below (by (with_reducible repeat (first | apply Kd.R_alloc | apply Kd.R_drewN | apply Kd.R_drew)); exact HO137.out) hb); have n4_ := Aside0.mk (Kd.R_below (by (with_reducible repeat (first | apply Kd.R_alloc | apply Kd.R_drewN | apply Kd.R_drew)); exact HO140.out) hb); have n5_ := Aside0.mk (below_step (by repeat (first | (with_reducible first | exact HB.out | apply bwA | apply bwN | apply bw1) | exact HB.out)) hb); have n6_ := Aside0.mk (hbox); have n7_ := Aside0.mk ((by rw [hg]; exact (below_size (by repeat (first | (with_reducible first | exact HB.out | apply bwA | apply bwN | apply bw1) | exact HB.out))) : w.heap.size ≤ gb143)); have n8_ := Aside0.mk ((by rw [hg]; exact (below_size (by repeat (first | (with_reducible first | exact HB.out | apply bwA | apply bwN | apply bw1) | exact HB.out))) : w.heap.size ≤ gb143)); clear HO122; clear HO131; clear HO134; clear HO137; clear HO140; clear HB; have HO122 := n0_; have HO131 := n1_; have HO134 := n2_; have HO137 := n3_; have HO140 := n4_; have HB := n5_; have BK143 := n6_; have GW143 := n7_; have GE143 := n8_; clear n0_ n1_ n2_ n3_ n4_ n5_ n6_ n7_ n8_; clear hb hbox hg; obtain ⟨hcz13_0, hcz13_1, hcz13_2, hcz13_3, hcz13_4, hcz13_5, hcz13_6, hcz13_7, hcz13_8, hcz13_9, hfz13_0, hfz13_1, hfz13_2, hfz13_3, hfz13_4, hfz13_5, hfz13_6, hfz13_7, hfz13_8, hfz13_9⟩ := cf10 BK143.out; obtain ⟨Ao14, co14, eo14⟩ := Kd.R_slice HO131.out; subst eo14; obtain ⟨Ao15, co15, eo15⟩ := Kd.R_slice HO134.out; subst eo15; obtain ⟨Ao16, co16, eo16⟩ := Kd.R_slice HO137.out; subst eo16; obtain ⟨Ao17, co17, eo17⟩ := Kd.R_slice HO140.out; subst eo17) | ((with_reducible refine gate_dst (N := 25) rfl ?_); (try (refine gate_guard (by rfl) ?_; dsimp only)); refine Kd.R_lit (Kd.int .i64) _ 2 ?hg (N := 25) ?hd (xs := ([7] : List Int)) (inner := [.int .i64 7]) (ok := fun _ => True) (okp := fun _ => True) ?hr ?hp (fun _ hk => hk) trivial (Below.refl _ _) (Nat.le_refl _) (by simp) ?_; (case hd => rfl); (case hg => rfl); (case hr => first | (go_simp; done) | (go_simp; rfl)); (case hp => exact (Reps.one (show Kd.M (Kd.int .i64) _ _ _ 7 [.int .i64 7] from rfl) (Reps.none _ _))); intro v145 w18 ho19 hb hg_ hnew_; clear hg_ hnew_; (first | rw [← Ny144.out] at ho19 | (simp only [Int.reduceToNat] at ho19; rw [← Ny144.out] at ho19)); have n0_ := Aside0.mk (Kd.R_below (by (with_reducible repeat (first | apply Kd.R_alloc | apply Kd.R_drewN | apply Kd.R_drew)); exact (Kd.R_mono (Kd.R_far (p := ⟨gb143, 9, none⟩) (Kd.R_far (p := ⟨gb143, 8, none⟩) (Kd.R_far (p := ⟨gb143, 7, none⟩) (Kd.R_far (p := ⟨gb143, 6, none⟩) (Kd.R_far (p := ⟨gb143, 5, none⟩) (Kd.R_far (p := ⟨gb143, 4, none⟩) (Kd.R_far (p := ⟨gb143, 3, none⟩) (Kd.R_far (p := ⟨gb143, 2, none⟩) (Kd.R_far (p := ⟨gb143, 1, none⟩) (Kd.R_far (p := ⟨gb143, 0, none⟩) (Kd.R_types HO122.out BK143.out (by decide)) (fun _ hk => hk.2) (.int .i64 t123)) (fun _ hk => hk.2) (.int .i64 t124)) (fun _ hk => hk.2) (.int .i64 t125)) (fun _ hk => hk.2) (.int .i64 t126)) (fun _ hk => hk.2) (.int .i64 t127)) (fun _ hk => hk.2) (.int .i64 t128)) (fun _ hk => hk.2) (.slice Ao14 t129.length co14)) (fun _ hk => hk.2) (.slice Ao15 t132.length co15)) (fun _ hk => hk.2) (.slice Ao16 t135.length co16)) (fun _ hk => hk.2) (.slice Ao17 t138.length co17)) (fun _ h_ => h_.1))) hb); have n1_ := Aside0.mk (Kd.R_elder' (by (with_reducible repeat (first | apply Kd.R_alloc | apply Kd.R_drewN | apply Kd.R_drew)); exact (Kd.R_mono (Kd.R_far (p := ⟨gb143, 9, none⟩) (Kd.R_far (p := ⟨gb143, 8, none⟩) (Kd.R_far (p := ⟨gb143, 7, none⟩) (Kd.R_far (p := ⟨gb143, 6, none⟩) (Kd.R_far (p := ⟨gb143, 5, none⟩) (Kd.R_far (p := ⟨gb143, 4, none⟩) (Kd.R_far (p := ⟨gb143, 3, none⟩) (Kd.R_far (p := ⟨gb143, 2, none⟩) (Kd.R_far (p := ⟨gb143, 1, none⟩) (Kd.R_far (p := ⟨gb143, 0, none⟩) (Kd.R_types HO131.out BK143.out (by decide)) (fun _ hk => hk.2) (.int .i64 t123)) (fun _ hk => hk.2) (.int .i64 t124)) (fun _ hk => hk.2) (.int .i64 t125)) (fun _ hk => hk.2) (.int .i64 t126)) (fun _ hk => hk.2) (.int .i64 t127)) (fun _ hk => hk.2) (.int .i64 t128)) (fun _ hk => hk.2) (.slice Ao14 t129.length co14)) (fun _ hk => hk.2) (.slice Ao15 t132.length co15)) (fun _ hk => hk.2) (.slice Ao16 t135.length co16)) (fun _ hk => hk.2) (.slice Ao17 t138.length co17)) (fun _ h_ => h_.1))) (Kd.R_base ho19) hb); have n2_ := Aside0.mk (Kd.R_below (by (with_reducible repeat (first | apply Kd.R_alloc | apply Kd.R_drewN | apply Kd.R_drew)); exact (Kd.R_mono (Kd.R_far (p := ⟨gb143, 9, none⟩) (Kd.R_far (p := ⟨gb143, 8, none⟩) (Kd.R_far (p := ⟨gb143, 7, none⟩) (Kd.R_far (p := ⟨gb143, 6, none⟩) (Kd.R_far (p := ⟨gb143, 5, none⟩) (Kd.R_far (p := ⟨gb143, 4, none⟩) (Kd.R_far (p := ⟨gb143, 3, none⟩) (Kd.R_far (p := ⟨gb143, 2, none⟩) (Kd.R_far (p := ⟨gb143, 1, none⟩) (Kd.R_far (p := ⟨gb143, 0, none⟩) (Kd.R_types HO134.out BK143.out (by decide)) (fun _ hk => hk.2) (.int .i64 t123)) (fun _ hk => hk.2) (.int .i64 t124)) (fun _ hk => hk.2) (.int .i64 t125)) (fun _ hk => hk.2) (.int .i64 t126)) (fun _ hk => hk.2) (.int .i64 t127)) (fun _ hk => hk.2) (.int .i64 t128)) (fun _ hk => hk.2) (.slice Ao14 t129.length co14)) (fun _ hk => hk.2) (.slice Ao15 t132.length co15)) (fun _ hk => hk.2) (.slice Ao16 t135.length co16)) (fun _ hk => hk.2) (.slice Ao17 t138.length co17)) (fun _ h_ => h_.1))) hb); have n3_ := Aside0.mk (Kd.R_below (by (with_reducible repeat (first | apply Kd.R_alloc | apply Kd.R_drewN | apply Kd.R_drew)); exact (Kd.R_mono (Kd.R_far (p := ⟨gb143, 9, none⟩) (Kd.R_far (p := ⟨gb143, 8, none⟩) (Kd.R_far (p := ⟨gb143, 7, none⟩) (Kd.R_far (p := ⟨gb143, 6, none⟩) (Kd.R_far (p := ⟨gb143, 5, none⟩) (Kd.R_far (p := ⟨gb143, 4, none⟩) (Kd.R_far (p := ⟨gb143, 3, none⟩) (Kd.R_far (p := ⟨gb143, 2, none⟩) (Kd.R_far (p := ⟨gb143, 1, none⟩) (Kd.R_far (p := ⟨gb143, 0, none⟩) (Kd.R_types HO137.out BK143.out (by decide)) (fun _ hk => hk.2) (.int .i64 t123)) (fun _ hk => hk.2) (.int .i64 t124)) (fun _ hk => hk.2) (.int .i64 t125)) (fun _ hk => hk.2) (.int .i64 t126)) (fun _ hk => hk.2) (.int .i64 t127)) (fun _ hk => hk.2) (.int .i64 t128)) (fun _ hk => hk.2) (.slice Ao14 t129.length co14)) (fun _ hk => hk.2) (.slice Ao15 t132.length co15)) (fun _ hk => hk.2) (.slice Ao16 t135.length co16)) (fun _ hk => hk.2) (.slice Ao17 t138.length co17)) (fun _ h_ => h_.1))) hb); have n4_ := Aside0.mk (Kd.R_below (by (with_reducible repeat (first | apply Kd.R_alloc | apply Kd.R_drewN | apply Kd.R_drew)); exact (Kd.R_mono (Kd.R_far (p := ⟨gb143, 9, none⟩) (Kd.R_far (p := ⟨gb143, 8, none⟩) (Kd.R_far (p := ⟨gb143, 7, none⟩) (Kd.R_far (p := ⟨gb143, 6, none⟩) (Kd.R_far (p := ⟨gb143, 5, none⟩) (Kd.R_far (p := ⟨gb143, 4, none⟩) (Kd.R_far (p := ⟨gb143, 3, none⟩) (Kd.R_far (p := ⟨gb143, 2, none⟩) (Kd.R_far (p := ⟨gb143, 1, none⟩) (Kd.R_far (p := ⟨gb143, 0, none⟩) (Kd.R_types HO140.out BK143.out (by decide)) (fun _ hk => hk.2) (.int .i64 t123)) (fun _ hk => hk.2) (.int .i64 t124)) (fun _ hk => hk.2) (.int .i64 t125)) (fun _ hk => hk.2) (.int .i64 t126)) (fun _ hk => hk.2) (.int .i64 t127)) (fun _ hk => hk.2) (.int .i64 t128)) (fun _ hk => hk.2) (.slice Ao14 t129.length co14)) (fun _ hk => hk.2) (.slice Ao15 t132.length co15)) (fun _ hk => hk.2) (.slice Ao16 t135.length co16)) (fun _ hk => hk.2) (.slice Ao17 t138.length co17)) (fun _ h_ => h_.1))) hb); have n5_ := Aside0.mk (Kd.R_lower (Kd.R_new' ho19 (Kd.R_lt (by (with_reducible repeat (first | apply Kd.R_alloc | apply Kd.R_drewN | apply Kd.R_drew)); exact (Kd.R_mono (Kd.R_far (p := ⟨gb143, 9, none⟩) (Kd.R_far (p := ⟨gb143, 8, none⟩) (Kd.R_far (p := ⟨gb143, 7, none⟩) (Kd.R_far (p := ⟨gb143, 6, none⟩) (Kd.R_far (p := ⟨gb143, 5, none⟩) (Kd.R_far (p := ⟨gb143, 4, none⟩) (Kd.R_far (p := ⟨gb143, 3, none⟩) (Kd.R_far (p := ⟨gb143, 2, none⟩) (Kd.R_far (p := ⟨gb143, 1, none⟩) (Kd.R_far (p := ⟨gb143, 0, none⟩) (Kd.R_types HO131.out BK143.out (by decide)) (fun _ hk => hk.2) (.int .i64 t123)) (fun _ hk => hk.2) (.int .i64 t124)) (fun _ hk => hk.2) (.int .i64 t125)) (fun _ hk => hk.2) (.int .i64 t126)) (fun _ hk => hk.2) (.int .i64 t127)) (fun _ hk => hk.2) (.int .i64 t128)) (fun _ hk => hk.2) (.slice Ao14 t129.length co14)) (fun _ hk => hk.2) (.slice Ao15 t132.length co15)) (fun _ hk => hk.2) (.slice Ao16 t135.length co16)) (fun _ hk => hk.2) (.slice Ao17 t138.length co17)) (fun _ h_ => h_.1))))) (below_size (by repeat (first | (with_reducible first | exact HB.out | apply bwA | apply bwN | apply bw1 | refine bwS ?_ GE143.out) | exact HB.out)))); have n6_ := Aside0.mk (blk_below (g := gb143) (o := .cells #[.int .i64 t123, .int .i64 t124, .int .i64 t125, .int .i64 t126, .int .i64 t127, .int .i64 t128, .slice Ao14 t129.length co14, .slice Ao15 t132.length co15, .slice Ao16 t135.length co16, .slice Ao17 t138.length co17] 30 (0, 0)) (by (with_reducible repeat (first | refine blk_drewN ?_ _ | refine blk_drew ?_ | refine blk_alloc ?_ _)); refine blk_put (cs := #[.int .i64 t123, .int .i64 t124, .int .i64 t125, .int .i64 t126, .int .i64 t127, .int .i64 t128, .slice Ao14 t129.length co14, .slice Ao15 t132.length co15, .slice Ao16 t135.length co16, .slice none 0 0]) ?_ 9 _ rfl; (with_reducible repeat (first | refine blk_drewN ?_ _ | refine blk_drew ?_ | refine blk_alloc ?_ _)); refine blk_put (cs := #[.int .i64 t123, .int .i64 t124, .int .i64 t125, .int .i64 t126, .int .i64 t127, .int .i64 t128, .slice Ao14 t129.length co14, .slice Ao15 t132.length co15, .slice none 0 0, .slice none 0 0]) ?_ 8 _ rfl; (with_reducible repeat (first | refine blk_drewN ?_ _ | refine blk_drew ?_ | refine blk_alloc ?_ _)); refine blk_put (cs := #[.int .i64 t123, .int .i64 t124, .int .i64 t125, .int .i64 t126, .int .i64 t127, .int .i64 t128, .slice Ao14 t129.length co14, .slice none 0 0, .slice none 0 0, .slice none 0 0]) ?_ 7 _ rfl; (with_reducible repeat (first | refine blk_drewN ?_ _ | refine blk_drew ?_ | refine blk_alloc ?_ _)); refine blk_put (cs := #[.int .i64 t123, .int .i64 t124, .int .i64 t125, .int .i64 t126, .int .i64 t127, .int .i64 t128, .slice none 0 0, .slice none 0 0, .slice none 0 0, .slice none 0 0]) ?_ 6 _ rfl; (with_reducible repeat (first | refine blk_drewN ?_ _ | refine blk_drew ?_ | refine blk_alloc ?_ _)); refine blk_put (cs := #[.int .i64 t123, .int .i64 t124, .int .i64 t125, .int .i64 t126, .int .i64 t127, .int .i64 0, .slice none 0 0, .slice none 0 0, .slice none 0 0, .slice none 0 0]) ?_ 5 _ rfl; (with_reducible repeat (first | refine blk_drewN ?_ _ | refine blk_drew ?_ | refine blk_alloc ?_ _)); refine blk_put (cs := #[.int .i64 t123, .int .i64 t124, .int .i64 t125, .int .i64 t126, .int .i64 0, .int .i64 0, .slice none 0 0, .slice none 0 0, .slice none 0 0, .slice none 0 0]) ?_ 4 _ rfl; (with_reducible repeat (first | refine blk_drewN ?_ _ | refine blk_drew ?_ | refine blk_alloc ?_ _)); refine blk_put (cs := #[.int .i64 t123, .int .i64 t124, .int .i64 t125, .int .i64 0, .int .i64 0, .int .i64 0, .slice none 0 0, .slice none 0 0, .slice none 0 0, .slice none 0 0]) ?_ 3 _ rfl; (with_reducible repeat (first | refine blk_drewN ?_ _ | refine blk_drew ?_ | refine blk_alloc ?_ _)); refine blk_put (cs := #[.int .i64 t123, .int .i64 t124, .int .i64 0, .int .i64 0, .int .i64 0, .int .i64 0, .slice none 0 0, .slice none 0 0, .slice none 0 0, .slice none 0 0]) ?_ 2 _ rfl; (with_reducible repeat (first | refine blk_drewN ?_ _ | refine blk_drew ?_ | refine blk_alloc ?_ _)); refine blk_put (cs := #[.int .i64 t123, .int .i64 0, .int .i64 0, .int .i64 0, .int .i64 0, .int .i64 0, .slice none 0 0, .slice none 0 0, .slice none 0 0, .slice none 0 0]) ?_ 1 _ rfl; (with_reducible repeat (first | refine blk_drewN ?_ _ | refine blk_drew ?_ | refine blk_alloc ?_ _)); refine blk_put (cs := #[.int .i64 0, .int .i64 0, .int .i64 0, .int .i64 0, .int .i64 0, .int .i64 0, .slice none 0 0, .slice none 0 0, .slice none 0 0, .slice none 0 0]) ?_ 0 _ rfl; (with_reducible repeat (first | refine blk_drewN ?_ _ | refine blk_drew ?_ | refine blk_alloc ?_ _)); exact BK143.out) hb); have n7_ := Aside0.mk (below_step (by repeat (first | (with_reducible first | exact HB.out | apply bwA | apply bwN | apply bw1 | refine bwS ?_ GE143.out) | exact HB.out)) hb); clear HO122; clear HO131; clear HO134; clear HO137; clear HO140; clear BK143; clear HB; have HO122 := n0_; have HO131 := n1_; have HO134 := n2_; have HO137 := n3_; have HO140 := n4_; have HO146 := n5_; have BK143 := n6_; have HB := n7_; clear n0_ n1_ n2_ n3_ n4_ n5_ n6_ n7_; clear hb ho19; obtain ⟨Ao20, co20, eo20⟩ := Kd.R_slice HO146.out; subst eo20) | (go_at_call 19; (with_reducible refine (quarrelref01_Vals.calls k _ _ t129 _ _ y144 true _ ?side1 ?side2 ?side3 ?side4 A5.out).mono ?_); (case side1 => repeat (first | exact (Kd.R_reads' HO131.out).2.2 | (with_reducible refine Kd.C_alloc ?_ _) | (with_reducible refine Kd.C_drewN ?_ _) | (with_reducible refine Kd.C_drew ?_))); (case side2 => exact (Kd.R_reads' HO131.out).2.1); (case side3 => repeat (first | exact (Kd.R_reads' HO146.out).2.2 | (with_reducible refine Kd.C_alloc ?_ _) | (with_reducible refine Kd.C_drewN ?_ _) | (with_reducible refine Kd.C_drew ?_))); (case side4 => exact (Kd.R_reads' HO146.out).2.1); rintro e w' ⟨rfl, ⟨nd, rfl⟩⟩; obtain ⟨hcz21_0, hcz21_1, hcz21_2, hcz21_3, hcz21_4, hcz21_5, hcz21_6, hcz21_7, hcz21_8, hcz21_9, hfz21_0, hfz21_1, hfz21_2, hfz21_3, hfz21_4, hfz21_5, hfz21_6, hfz21_7, hfz21_8, hfz21_9⟩ := cf10 BK143.out))
      go_ret
      exact ⟨by first | rfl | (simp [errW_none, errW_some] <;> rfl) | (simp [*, errW_none, errW_some] <;> rfl), by repeat (first | (with_reducible first | exact HB.out | apply bwA | apply bwN | apply bw1 | refine bwS ?_ GE143.out) | exact HB.out)⟩
     ·rw [if_neg c7] at H
      have c7b0 : ((t135.length : Int) == 1) = false := beq_eq_false_iff_ne.mpr c7
      have c7b1 : ((t135.length : Int) != 1) = true := bne_iff_ne.mpr c7
      obtain rfl := Option.some.inj H
      go_enter Try.func9, Try.ntmps9
      go_wp2_with (first | ((with_reducible refine gate_dst (N := 5) rfl ?_); (try (refine gate_guard (by rfl) ?_; dsimp only)); refine Kd.R_lit (Kd.int .u8) _ 5 ?hg (N := 5) ?hd (xs := ([1, 1, 0, 9, 5, 1, 2, 7, 0, 0] : List Int)) (inner := [.int .u8 1, .int .u8 1, .int .u8 0, .int .u8 9, .int .u8 5, .int .u8 1, .int .u8 2, .int .u8 7, .int .u8 0, .int .u8 0]) (ok := fun _ => True) (okp := fun _ => True) ?hr ?hp (fun _ hk => hk) trivial (Below.refl _ _) (Nat.le_refl _) (by simp) ?_; (case hd => rfl); (case hg => rfl); (case hr => first | (go_simp; done) | (go_simp; rfl)); (case hp => exact (Reps.one (show Kd.M (Kd.int .u8) _ _ _ 1 [.int .u8 1] from rfl) (Reps.one (show Kd.M (Kd.int .u8) _ _ _ 1 [.int .u8 1] from rfl) (Reps.one (show Kd.M (Kd.int .u8) _ _ _ 0 [.int .u8 0] from rfl) (Reps.one (show Kd.M (Kd.int .u8) _ _ _ 9 [.int .u8 9] from rfl) (Reps.one (show Kd.M (Kd.int .u8) _ _ _ 5 [.int .u8 5] from rfl) (Reps.one (show Kd.M (Kd.int .u8) _ _ _ 1 [.int .u8 1] from rfl) (Reps.one (show Kd.M (Kd.int .u8) _ _ _ 2 [.int .u8 2] from rfl) (Reps.one (show Kd.M (Kd.int .u8) _ _ _ 7 [.int .u8 7] from rfl) (Reps.one (show Kd.M (Kd.int .u8) _ _ _ 0 [.int .u8 0] from rfl) (Reps.one (show Kd.M (Kd.int .u8) _ _ _ 0 [.int .u8 0] from rfl) (Reps.none _ _)))))))))))); intro v121 w22 ho23 hb hg_ hnew_; clear hg_ hnew_; (first | rw [← Ny120.out] at ho23 | (simp only [Int.reduceToNat] at ho23; rw [← Ny120.out] at ho23)); have n0_ := Aside0.mk (Kd.R_lower ho23 (below_size (by repeat (first | (with_reducible first | exact HB.out | apply bwA | apply bwN | apply bw1) | exact HB.out)))); have n1_ := Aside0.mk (below_step (by repeat (first | (with_reducible first | exact HB.out | apply bwA | apply bwN | apply bw1) | exact HB.out)) hb); clear HB; have HO122 := n0_; have HB := n1_; clear n0_ n1_; clear hb ho23; obtain ⟨Ao24, co24, eo24⟩ := Kd.R_slice HO122.out; subst eo24) | ((with_reducible refine gate_callee (f := 10) rfl ?_); refine goesL_ (some 6) rfl rfl Try.func10 (by kernel_rfl) rfl #[.slice Ao24 y120.length co24] rfl (by (try simp only [List.map_toArray, List.map_cons, List.map_nil]); first | done | rfl | (simp only [List.length_drop, List.length_take]; rfl)) ?_; (with_reducible refine (script_Get.calls k _ _ y120 t123 t124 t125 t126 t127 t128 t129 t132 t135 t138 t141 t142 _ ?side1 ?side2 A1.out).mono ?_); (case side1 => repeat (first | exact (Kd.R_reads' HO122.out).2.2 | (with_reducible refine Kd.C_alloc ?_ _) | (with_reducible refine Kd.C_drewN ?_ _) | (with_reducible refine Kd.C_drew ?_))); (case side2 => exact (Kd.R_reads' HO122.out).2.1); rintro e w25 ⟨v130, v133, v136, v139, rfl, ho0, ho1, ho2, ho3, hb⟩; refine ⟨_, rfl, ?_⟩; have n0_ := Aside0.mk (Kd.R_elder' (by (with_reducible repeat (first | apply Kd.R_alloc | apply Kd.R_drewN | apply Kd.R_drew)); exact HO122.out) (Kd.R_base ho1) hb); have n1_ := Aside0.mk (Kd.R_lower ho0 (below_size (by repeat (first | (with_reducible first | exact HB.out | apply bwA | apply bwN | apply bw1) | exact HB.out)))); have n2_ := Aside0.mk (Kd.R_lower (Kd.R_new' ho1 (Kd.R_lt (by (with_reducible repeat (first | apply Kd.R_alloc | apply Kd.R_drewN | apply Kd.R_drew)); exact HO122.out))) (below_size (by repeat (first | (with_reducible first | exact HB.out | apply bwA | apply bwN | apply bw1) | exact HB.out)))); have n3_ := Aside0.mk (Kd.R_lower ho2 (below_size (by repeat (first | (with_reducible first | exact HB.out | apply bwA | apply bwN | apply bw1) | exact HB.out)))); have n4_ := Aside0.mk (Kd.R_lower ho3 (below_size (by repeat (first | (with_reducible first | exact HB.out | apply bwA | apply bwN | apply bw1) | exact HB.out)))); have n5_ := Aside0.mk (below_step (by repeat (first | (with_reducible first | exact HB.out | apply bwA | apply bwN | apply bw1) | exact HB.out)) hb); clear HO122; clear HB; have HO122 := n0_; have HO131 := n1_; have HO134 := n2_; have HO137 := n3_; have HO140 := n4_; have HB := n5_; clear n0_ n1_ n2_ n3_ n4_ n5_; (try clear hb); (try clear hb2); (try clear hk); (try clear hi); (try clear ho0); (try clear ho1); (try clear ho2); (try clear ho3)) | ((with_reducible refine gate_dst (N := 1) rfl ?_); (try (refine gate_guard (by rfl) ?_; dsimp only)); refine box_event ?hg (N := 1) ?hd (cs := #[.int .i64 0, .int .i64 0, .int .i64 0, .int .i64 0, .int .i64 0, .int .i64 0, .slice none 0 0, .slice none 0 0, .slice none 0 0, .slice none 0 0]) (t := 30) ?hr ?_; (case hd => rfl); (case hg => rfl); (case hr => first | (go_simp; done) | (go_simp; rfl)); intro gb143 hg w26 hbox hb; have n0_ := Aside0.mk (Kd.R_below (by (with_reducible repeat (first | apply Kd.R_alloc | apply Kd.R_drewN | apply Kd.R_drew)); exact HO122.out) hb); have n1_ := Aside0.mk (Kd.R_below (by (with_reducible repeat (first | apply Kd.R_alloc | apply Kd.R_drewN | apply Kd.R_drew)); exact HO131.out) hb); have n2_ := Aside0.mk (Kd.R_below (by (with_reducible repeat (first | apply Kd.R_alloc | apply Kd.R_drewN | apply Kd.R_drew)); exact HO134.out) hb); have n3_ := Aside0.mk (Kd.R_below (by (with_reducible repeat (first | apply Kd.R_alloc | apply Kd.R_drewN | apply Kd.R_drew)); exact HO137.out) hb); have n4_ := Aside0.mk (Kd.R_below (by (with_reducible repeat (first | apply Kd.R_alloc | apply Kd.R_drewN | apply Kd.R_drew)); exact HO140.out) hb); have n5_ := Aside0.mk (below_step (by repeat (first | (with_reducible first | exact HB.out | apply bwA | apply bwN | apply bw1) | exact HB.out)) hb); have n6_ := Aside0.mk (hbox); have n7_ := Aside0.mk ((by rw [hg]; exact (below_size (by repeat (first | (with_reducible first | exact HB.out | apply bwA | apply bwN | apply bw1) | exact HB.out))) : w.heap.size ≤ gb143)); have n8_ := Aside0.mk ((by rw [hg]; exact (below_size (by repeat (first | (with_reducible first | exact HB.out | apply bwA | apply bwN | apply bw1) | exact HB.out))) : w.heap.size ≤ gb143)); clear HO122; clear HO131; clear HO134; clear HO137; clear HO140; clear HB; have HO122 := n0_; have HO131 := n1_; have HO134 := n2_; have HO137 := n3_; have HO140 := n4_; have HB := n5_; have BK143 := n6_; have GW143 := n7_; have GE143 := n8_; clear n0_ n1_ n2_ n3_ n4_ n5_ n6_ n7_ n8_; clear hb hbox hg; obtain ⟨hcz27_0, hcz27_1, hcz27_2, hcz27_3, hcz27_4, hcz27_5, hcz27_6, hcz27_7, hcz27_8, hcz27_9, hfz27_0, hfz27_1, hfz27_2, hfz27_3, hfz27_4, hfz27_5, hfz27_6, hfz27_7, hfz27_8, hfz27_9⟩ := cf10 BK143.out; obtain ⟨Ao28, co28, eo28⟩ := Kd.R_slice HO131.out; subst eo28; obtain ⟨Ao29, co29, eo29⟩ := Kd.R_slice HO134.out; subst eo29; obtain ⟨Ao30, co30, eo30⟩ := Kd.R_slice HO137.out; subst eo30; obtain ⟨Ao31, co31, eo31⟩ := Kd.R_slice HO140.out; subst eo31) | ((with_reducible refine gate_dst (N := 25) rfl ?_); (try (refine gate_guard (by rfl) ?_; dsimp only)); refine Kd.R_lit (Kd.int .i64) _ 2 ?hg (N := 25) ?hd (xs := ([7] : List Int)) (inner := [.int .i64 7]) (ok := fun _ => True) (okp := fun _ => True) ?hr ?hp (fun _ hk => hk) trivial (Below.refl _ _) (Nat.le_refl _) (by simp) ?_; (case hd => rfl); (case hg => rfl); (case hr => first | (go_simp; done) | (go_simp; rfl)); (case hp => exact (Reps.one (show Kd.M (Kd.int .i64) _ _ _ 7 [.int .i64 7] from rfl) (Reps.none _ _))); intro v145 w32 ho33 hb hg_ hnew_; clear hg_ hnew_; (first | rw [← Ny144.out] at ho33 | (simp only [Int.reduceToNat] at ho33; rw [← Ny144.out] at ho33)); have n0_ := Aside0.mk (Kd.R_below (by (with_reducible repeat (first | apply Kd.R_alloc | apply Kd.R_drewN | apply Kd.R_drew)); exact (Kd.R_mono (Kd.R_far (p := ⟨gb143, 9, none⟩) (Kd.R_far (p := ⟨gb143, 8, none⟩) (Kd.R_far (p := ⟨gb143, 7, none⟩) (Kd.R_far (p := ⟨gb143, 6, none⟩) (Kd.R_far (p := ⟨gb143, 5, none⟩) (Kd.R_far (p := ⟨gb143, 4, none⟩) (Kd.R_far (p := ⟨gb143, 3, none⟩) (Kd.R_far (p := ⟨gb143, 2, none⟩) (Kd.R_far (p := ⟨gb143, 1, none⟩) (Kd.R_far (p := ⟨gb143, 0, none⟩) (Kd.R_types HO122.out BK143.out (by decide)) (fun _ hk => hk.2) (.int .i64 t123)) (fun _ hk => hk.2) (.int .i64 t124)) (fun _ hk => hk.2) (.int .i64 t125)) (fun _ hk => hk.2) (.int .i64 t126)) (fun _ hk => hk.2) (.int .i64 t127)) (fun _ hk => hk.2) (.int .i64 t128)) (fun _ hk => hk.2) (.slice Ao28 t129.length co28)) (fun _ hk => hk.2) (.slice Ao29 t132.length co29)) (fun _ hk => hk.2) (.slice Ao30 t135.length co30)) (fun _ hk => hk.2) (.slice Ao31 t138.length co31)) (fun _ h_ => h_.1))) hb); have n1_ := Aside0.mk (Kd.R_elder' (by (with_reducible repeat (first | apply Kd.R_alloc | apply Kd.R_drewN | apply Kd.R_drew)); exact (Kd.R_mono (Kd.R_far (p := ⟨gb143, 9, none⟩) (Kd.R_far (p := ⟨gb143, 8, none⟩) (Kd.R_far (p := ⟨gb143, 7, none⟩) (Kd.R_far (p := ⟨gb143, 6, none⟩) (Kd.R_far (p := ⟨gb143, 5, none⟩) (Kd.R_far (p := ⟨gb143, 4, none⟩) (Kd.R_far (p := ⟨gb143, 3, none⟩) (Kd.R_far (p := ⟨gb143, 2, none⟩) (Kd.R_far (p := ⟨gb143, 1, none⟩) (Kd.R_far (p := ⟨gb143, 0, none⟩) (Kd.R_types HO131.out BK143.out (by decide)) (fun _ hk => hk.2) (.int .i64 t123)) (fun _ hk => hk.2) (.int .i64 t124)) (fun _ hk => hk.2) (.int .i64 t125)) (fun _ hk => hk.2) (.int .i64 t126)) (fun _ hk => hk.2) (.int .i64 t127)) (fun _ hk => hk.2) (.int .i64 t128)) (fun _ hk => hk.2) (.slice Ao28 t129.length co28)) (fun _ hk => hk.2) (.slice Ao29 t132.length co29)) (fun _ hk => hk.2) (.slice Ao30 t135.length co30)) (fun _ hk => hk.2) (.slice Ao31 t138.length co31)) (fun _ h_ => h_.1))) (Kd.R_base ho33) hb); have n2_ := Aside0.mk (Kd.R_below (by (with_reducible repeat (first | apply Kd.R_alloc | apply Kd.R_drewN | apply Kd.R_drew)); exact (Kd.R_mono (Kd.R_far (p := ⟨gb143, 9, none⟩) (Kd.R_far (p := ⟨gb143, 8, none⟩) (Kd.R_far (p := ⟨gb143, 7, none⟩) (Kd.R_far (p := ⟨gb143, 6, none⟩) (Kd.R_far (p := ⟨gb143, 5, none⟩) (Kd.R_far (p := ⟨gb143, 4, none⟩) (Kd.R_far (p := ⟨gb143, 3, none⟩) (Kd.R_far (p := ⟨gb143, 2, none⟩) (Kd.R_far (p := ⟨gb143, 1, none⟩) (Kd.R_far (p := ⟨gb143, 0, none⟩) (Kd.R_types HO134.out BK143.out (by decide)) (fun _ hk => hk.2) (.int .i64 t123)) (fun _ hk => hk.2) (.int .i64 t124)) (fun _ hk => hk.2) (.int .i64 t125)) (fun _ hk => hk.2) (.int .i64 t126)) (fun _ hk => hk.2) (.int .i64 t127)) (fun _ hk => hk.2) (.int .i64 t128)) (fun _ hk => hk.2) (.slice Ao28 t129.length co28)) (fun _ hk => hk.2) (.slice Ao29 t132.length co29)) (fun _ hk => hk.2) (.slice Ao30 t135.length co30)) (fun _ hk => hk.2) (.slice Ao31 t138.length co31)) (fun _ h_ => h_.1))) hb); have n3_ := Aside0.mk (Kd.R_below (by (with_reducible repeat (first | apply Kd.R_alloc | apply Kd.R_drewN | apply Kd.R_drew)); exact (Kd.R_mono (Kd.R_far (p := ⟨gb143, 9, none⟩) (Kd.R_far (p := ⟨gb143, 8, none⟩) (Kd.R_far (p := ⟨gb143, 7, none⟩) (Kd.R_far (p := ⟨gb143, 6, none⟩) (Kd.R_far (p := ⟨gb143, 5, none⟩) (Kd.R_far (p := ⟨gb143, 4, none⟩) (Kd.R_far (p := ⟨gb143, 3, none⟩) (Kd.R_far (p := ⟨gb143, 2, none⟩) (Kd.R_far (p := ⟨gb143, 1, none⟩) (Kd.R_far (p := ⟨gb143, 0, none⟩) (Kd.R_types HO137.out BK143.out (by decide)) (fun _ hk => hk.2) (.int .i64 t123)) (fun _ hk => hk.2) (.int .i64 t124)) (fun _ hk => hk.2) (.int .i64 t125)) (fun _ hk => hk.2) (.int .i64 t126)) (fun _ hk => hk.2) (.int .i64 t127)) (fun _ hk => hk.2) (.int .i64 t128)) (fun _ hk => hk.2) (.slice Ao28 t129.length co28)) (fun _ hk => hk.2) (.slice Ao29 t132.length co29)) (fun _ hk => hk.2) (.slice Ao30 t135.length co30)) (fun _ hk => hk.2) (.slice Ao31 t138.length co31)) (fun _ h_ => h_.1))) hb); have n4_ := Aside0.mk (Kd.R_below (by (with_reducible repeat (first | apply Kd.R_alloc | apply Kd.R_drewN | apply Kd.R_drew)); exact (Kd.R_mono (Kd.R_far (p := ⟨gb143, 9, none⟩) (Kd.R_far (p := ⟨gb143, 8, none⟩) (Kd.R_far (p := ⟨gb143, 7, none⟩) (Kd.R_far (p := ⟨gb143, 6, none⟩) (Kd.R_far (p := ⟨gb143, 5, none⟩) (Kd.R_far (p := ⟨gb143, 4, none⟩) (Kd.R_far (p := ⟨gb143, 3, none⟩) (Kd.R_far (p := ⟨gb143, 2, none⟩) (Kd.R_far (p := ⟨gb143, 1, none⟩) (Kd.R_far (p := ⟨gb143, 0, none⟩) (Kd.R_types HO140.out BK143.out (by decide)) (fun _ hk => hk.2) (.int .i64 t123)) (fun _ hk => hk.2) (.int .i64 t124)) (fun _ hk => hk.2) (.int .i64 t125)) (fun _ hk => hk.2) (.int .i64 t126)) (fun _ hk => hk.2) (.int .i64 t127)) (fun _ hk => hk.2) (.int .i64 t128)) (fun _ hk => hk.2) (.slice Ao28 t129.length co28)) (fun _ hk => hk.2) (.slice Ao29 t132.length co29)) (fun _ hk => hk.2) (.slice Ao30 t135.length co30)) (fun _ hk => hk.2) (.slice Ao31 t138.length co31)) (fun _ h_ => h_.1))) hb); have n5_ := Aside0.mk (Kd.R_lower (Kd.R_new' ho33 (Kd.R_lt (by (with_reducible repeat (first | apply Kd.R_alloc | apply Kd.R_drewN | apply Kd.R_drew)); exact (Kd.R_mono (Kd.R_far (p := ⟨gb143, 9, none⟩) (Kd.R_far (p := ⟨gb143, 8, none⟩) (Kd.R_far (p := ⟨gb143, 7, none⟩) (Kd.R_far (p := ⟨gb143, 6, none⟩) (Kd.R_far (p := ⟨gb143, 5, none⟩) (Kd.R_far (p := ⟨gb143, 4, none⟩) (Kd.R_far (p := ⟨gb143, 3, none⟩) (Kd.R_far (p := ⟨gb143, 2, none⟩) (Kd.R_far (p := ⟨gb143, 1, none⟩) (Kd.R_far (p := ⟨gb143, 0, none⟩) (Kd.R_types HO131.out BK143.out (by decide)) (fun _ hk => hk.2) (.int .i64 t123)) (fun _ hk => hk.2) (.int .i64 t124)) (fun _ hk => hk.2) (.int .i64 t125)) (fun _ hk => hk.2) (.int .i64 t126)) (fun _ hk => hk.2) (.int .i64 t127)) (fun _ hk => hk.2) (.int .i64 t128)) (fun _ hk => hk.2) (.slice Ao28 t129.length co28)) (fun _ hk => hk.2) (.slice Ao29 t132.length co29)) (fun _ hk => hk.2) (.slice Ao30 t135.length co30)) (fun _ hk => hk.2) (.slice Ao31 t138.length co31)) (fun _ h_ => h_.1))))) (below_size (by repeat (first | (with_reducible first | exact HB.out | apply bwA | apply bwN | apply bw1 | refine bwS ?_ GE143.out) | exact HB.out)))); have n6_ := Aside0.mk (blk_below (g := gb143) (o := .cells #[.int .i64 t123, .int .i64 t124, .int .i64 t125, .int .i64 t126, .int .i64 t127, .int .i64 t128, .slice Ao28 t129.length co28, .slice Ao29 t132.length co29, .slice Ao30 t135.length co30, .slice Ao31 t138.length co31] 30 (0, 0)) (by (with_reducible repeat (first | refine blk_drewN ?_ _ | refine blk_drew ?_ | refine blk_alloc ?_ _)); refine blk_put (cs := #[.int .i64 t123, .int .i64 t124, .int .i64 t125, .int .i64 t126, .int .i64 t127, .int .i64 t128, .slice Ao28 t129.length co28, .slice Ao29 t132.length co29, .slice Ao30 t135.length co30, .slice none 0 0]) ?_ 9 _ rfl; (with_reducible repeat (first | refine blk_drewN ?_ _ | refine blk_drew ?_ | refine blk_alloc ?_ _)); refine blk_put (cs := #[.int .i64 t123, .int .i64 t124, .int .i64 t125, .int .i64 t126, .int .i64 t127, .int .i64 t128, .slice Ao28 t129.length co28, .slice Ao29 t132.length co29, .slice none 0 0, .slice none 0 0]) ?_ 8 _ rfl; (with_reducible repeat (first | refine blk_drewN ?_ _ | refine blk_drew ?_ | refine blk_alloc ?_ _)); refine blk_put (cs := #[.int .i64 t123, .int .i64 t124, .int .i64 t125, .int .i64 t126, .int .i64 t127, .int .i64 t128, .slice Ao28 t129.length co28, .slice none 0 0, .slice none 0 0, .slice none 0 0]) ?_ 7 _ rfl; (with_reducible repeat (first | refine blk_drewN ?_ _ | refine blk_drew ?_ | refine blk_alloc ?_ _)); refine blk_put (cs := #[.int .i64 t123, .int .i64 t124, .int .i64 t125, .int .i64 t126, .int .i64 t127, .int .i64 t128, .slice none 0 0, .slice none 0 0, .slice none 0 0, .slice none 0 0]) ?_ 6 _ rfl; (with_reducible repeat (first | refine blk_drewN ?_ _ | refine blk_drew ?_ | refine blk_alloc ?_ _)); refine blk_put (cs := #[.int .i64 t123, .int .i64 t124, .int .i64 t125, .int .i64 t126, .int .i64 t127, .int .i64 0, .slice none 0 0, .slice none 0 0, .slice none 0 0, .slice none 0 0]) ?_ 5 _ rfl; (with_reducible repeat (first | refine blk_drewN ?_ _ | refine blk_drew ?_ | refine blk_alloc ?_ _)); refine blk_put (cs := #[.int .i64 t123, .int .i64 t124, .int .i64 t125, .int .i64 t126, .int .i64 0, .int .i64 0, .slice none 0 0, .slice none 0 0, .slice none 0 0, .slice none 0 0]) ?_ 4 _ rfl; (with_reducible repeat (first | refine blk_drewN ?_ _ | refine blk_drew ?_ | refine blk_alloc ?_ _)); refine blk_put (cs := #[.int .i64 t123, .int .i64 t124, .int .i64 t125, .int .i64 0, .int .i64 0, .int .i64 0, .slice none 0 0, .slice none 0 0, .slice none 0 0, .slice none 0 0]) ?_ 3 _ rfl; (with_reducible repeat (first | refine blk_drewN ?_ _ | refine blk_drew ?_ | refine blk_alloc ?_ _)); refine blk_put (cs := #[.int .i64 t123, .int .i64 t124, .int .i64 0, .int .i64 0, .int .i64 0, .int .i64 0, .slice none 0 0, .slice none 0 0, .slice none 0 0, .slice none 0 0]) ?_ 2 _ rfl; (with_reducible repeat (first | refine blk_drewN ?_ _ | refine blk_drew ?_ | refine blk_alloc ?_ _)); refine blk_put (cs := #[.int .i64 t123, .int .i64 0, .int .i64 0, .int .i64 0, .int .i64 0, .int .i64 0, .slice none 0 0, .slice none 0 0, .slice none 0 0, .slice none 0 0]) ?_ 1 _ rfl; (with_reducible repeat (first | refine blk_drewN ?_ _ | refine blk_drew ?_ | refine blk_alloc ?_ _)); refine blk_put (cs := #[.int .i64 0, .int .i64 0, .int .i64 0, .int .i64 0, .int .i64 0, .int .i64 0, .slice none 0 0, .slice none 0 0, .slice none 0 0, .slice none 0 0]) ?_ 0 _ rfl; (with_reducible repeat (first | refine blk_drewN ?_ _ | refine blk_drew ?_ | refine blk_alloc ?_ _)); exact BK143.out) hb); have n7_ := Aside0.mk (below_step (by repeat (first | (with_reducible first | exact HB.out | apply bwA | apply bwN | apply bw1 | refine bwS ?_ GE143.out) | exact HB.out)) hb); clear HO122; clear HO131; clear HO134; clear HO137; clear HO140; clear BK143; clear HB; have HO122 := n0_; have HO131 := n1_; have HO134 := n2_; have HO137 := n3_; have HO140 := n4_; have HO146 := n5_; have BK143 := n6_; have HB := n7_; clear n0_ n1_ n2_ n3_ n4_ n5_ n6_ n7_; clear hb ho33; obtain ⟨Ao34, co34, eo34⟩ := Kd.R_slice HO146.out; subst eo34) | (go_at_call 19; (with_reducible refine (quarrelref01_Vals.calls k _ _ t129 _ _ y144 true _ ?side1 ?side2 ?side3 ?side4 A5.out).mono ?_); (case side1 => repeat (first | exact (Kd.R_reads' HO131.out).2.2 | (with_reducible refine Kd.C_alloc ?_ _) | (with_reducible refine Kd.C_drewN ?_ _) | (with_reducible refine Kd.C_drew ?_))); (case side2 => exact (Kd.R_reads' HO131.out).2.1); (case side3 => repeat (first | exact (Kd.R_reads' HO146.out).2.2 | (with_reducible refine Kd.C_alloc ?_ _) | (with_reducible refine Kd.C_drewN ?_ _) | (with_reducible refine Kd.C_drew ?_))); (case side4 => exact (Kd.R_reads' HO146.out).2.1); rintro e w' ⟨rfl, ⟨nd, rfl⟩⟩; obtain ⟨hcz35_0, hcz35_1, hcz35_2, hcz35_3, hcz35_4, hcz35_5, hcz35_6, hcz35_7, hcz35_8, hcz35_9, hfz35_0, hfz35_1, hfz35_2, hfz35_3, hfz35_4, hfz35_5, hfz35_6, hfz35_7, hfz35_8, hfz35_9⟩ := cf10 BK143.out))
      go_ret
      exact ⟨by first | rfl | (simp [errW_none, errW_some] <;> rfl) | (simp [*, errW_none, errW_some] <;> rfl), by repeat (first | (with_reducible first | exact HB.out | apply bwA | apply bwN | apply bw1 | refine bwS ?_ GE143.out) | exact HB.out)⟩
    ·replace c6 := Bool.eq_false_iff.mpr c6
     subst c6
     have H1 : (some false) = some r := by rw [if_neg (show ¬ (false = true) by decide)] at H; exact H
     clear H
     have H := H1
     clear H1
     obtain rfl := Option.some.inj H
     go_enter Try.func9, Try.ntmps9
     go_wp2_with (first | ((with_reducible refine gate_dst (N := 5) rfl ?_); (try (refine gate_guard (by rfl) ?_; dsimp only)); refine Kd.R_lit (Kd.int .u8) _ 5 ?hg (N := 5) ?hd (xs := ([1, 1, 0, 9, 5, 1, 2, 7, 0, 0] : List Int)) (inner := [.int .u8 1, .int .u8 1, .int .u8 0, .int .u8 9, .int .u8 5, .int .u8 1, .int .u8 2, .int .u8 7, .int .u8 0, .int .u8 0]) (ok := fun _ => True) (okp := fun _ => True) ?hr ?hp (fun _ hk => hk) trivial (Below.refl _ _) (Nat.le_refl _) (by simp) ?_; (case hd => rfl); (case hg => rfl); (case hr => first | (go_simp; done) | (go_simp; rfl)); (case hp => exact (Reps.one (show Kd.M (Kd.int .u8) _ _ _ 1 [.int .u8 1] from rfl) (Reps.one (show Kd.M (Kd.int .u8) _ _ _ 1 [.int .u8 1] from rfl) (Reps.one (show Kd.M (Kd.int .u8) _ _ _ 0 [.int .u8 0] from rfl) (Reps.one (show Kd.M (Kd.int .u8) _ _ _ 9 [.int .u8 9] from rfl) (Reps.one (show Kd.M (Kd.int .u8) _ _ _ 5 [.int .u8 5] from rfl) (Reps.one (show Kd.M (Kd.int .u8) _ _ _ 1 [.int .u8 1] from rfl) (Reps.one (show Kd.M (Kd.int .u8) _ _ _ 2 [.int .u8 2] from rfl) (Reps.one (show Kd.M (Kd.int .u8) _ _ _ 7 [.int .u8 7] from rfl) (Reps.one (show Kd.M (Kd.int .u8) _ _ _ 0 [.int .u8 0] from rfl) (Reps.one (show Kd.M (Kd.int .u8) _ _ _ 0 [.int .u8 0] from rfl) (Reps.none _ _)))))))))))); intro v121 w36 ho37 hb hg_ hnew_; clear hg_ hnew_; (first | rw [← Ny120.out] at ho37 | (simp only [Int.reduceToNat] at ho37; rw [← Ny120.out] at ho37)); have n0_ := Aside0.mk (Kd.R_lower ho37 (below_size (by repeat (first | (with_reducible first | exact HB.out | apply bwA | apply bwN | apply bw1) | exact HB.out)))); have n1_ := Aside0.mk (below_step (by repeat (first | (with_reducible first | exact HB.out | apply bwA | apply bwN | apply bw1) | exact HB.out)) hb); clear HB; have HO122 := n0_; have HB := n1_; clear n0_ n1_; clear hb ho37; obtain ⟨Ao38, co38, eo38⟩ := Kd.R_slice HO122.out; subst eo38) | ((with_reducible refine gate_callee (f := 10) rfl ?_); refine goesL_ (some 6) rfl rfl Try.func10 (by kernel_rfl) rfl #[.slice Ao38 y120.length co38] rfl (by (try simp only [List.map_toArray, List.map_cons, List.map_nil]); first | done | rfl | (simp only [List.length_drop, List.length_take]; rfl)) ?_; (with_reducible refine (script_Get.calls k _ _ y120 t123 t124 t125 t126 t127 t128 t129 t132 t135 t138 t141 t142 _ ?side1 ?side2 A1.out).mono ?_); (case side1 => repeat (first | exact (Kd.R_reads' HO122.out).2.2 | (with_reducible refine Kd.C_alloc ?_ _) | (with_reducible refine Kd.C_drewN ?_ _) | (with_reducible refine Kd.C_drew ?_))); (case side2 => exact (Kd.R_reads' HO122.out).2.1); rintro e w39 ⟨v130, v133, v136, v139, rfl, ho0, ho1, ho2, ho3, hb⟩; refine ⟨_, rfl, ?_⟩; have n0_ := Aside0.mk (Kd.R_elder' (by (with_reducible repeat (first | apply Kd.R_alloc | apply Kd.R_drewN | apply Kd.R_drew)); exact HO122.out) (Kd.R_base ho1) hb); have n1_ := Aside0.mk (Kd.R_lower ho0 (below_size (by repeat (first | (with_reducible first | exact HB.out | apply bwA | apply bwN | apply bw1) | exact HB.out)))); have n2_ := Aside0.mk (Kd.R_lower (Kd.R_new' ho1 (Kd.R_lt (by (with_reducible repeat (first | apply Kd.R_alloc | apply Kd.R_drewN | apply Kd.R_drew)); exact HO122.out))) (below_size (by repeat (first | (with_reducible first | exact HB.out | apply bwA | apply bwN | apply bw1) | exact HB.out)))); have n3_ := Aside0.mk (Kd.R_lower ho2 (below_size (by repeat (first | (with_reducible first | exact HB.out | apply bwA | apply bwN | apply bw1) | exact HB.out)))); have n4_ := Aside0.mk (Kd.R_lower ho3 (below_size (by repeat (first | (with_reducible first | exact HB.out | apply bwA | apply bwN | apply bw1) | exact HB.out)))); have n5_ := Aside0.mk (below_step (by repeat (first | (with_reducible first | exact HB.out | apply bwA | apply bwN | apply bw1) | exact HB.out)) hb); clear HO122; clear HB; have HO122 := n0_; have HO131 := n1_; have HO134 := n2_; have HO137 := n3_; have HO140 := n4_; have HB := n5_; clear n0_ n1_ n2_ n3_ n4_ n5_; (try clear hb); (try clear hb2); (try clear hk); (try clear hi); (try clear ho0); (try clear ho1); (try clear ho2); (try clear ho3)) | ((with_reducible refine gate_dst (N := 1) rfl ?_); (try (refine gate_guard (by rfl) ?_; dsimp only)); refine box_event ?hg (N := 1) ?hd (cs := #[.int .i64 0, .int .i64 0, .int .i64 0, .int .i64 0, .int .i64 0, .int .i64 0, .slice none 0 0, .slice none 0 0, .slice none 0 0, .slice none 0 0]) (t := 30) ?hr ?_; (case hd => rfl); (case hg => rfl); (case hr => first | (go_simp; done) | (go_simp; rfl)); intro gb143 hg w40 hbox hb; have n0_ := Aside0.mk (Kd.R_below (by (with_reducible repeat (first | apply Kd.R_alloc | apply Kd.R_drewN | apply Kd.R_drew)); exact HO122.out) hb); have n1_ := Aside0.mk (Kd.R_below (by (with_reducible repeat (first | apply Kd.R_alloc | apply Kd.R_drewN | apply Kd.R_drew)); exact HO131.out) hb); have n2_ := Aside0.mk (Kd.R_below (by (with_reducible repeat (first | apply Kd.R_alloc | apply Kd.R_drewN | apply Kd.R_drew)); exact HO134.out) hb); have n3_ := Aside0.mk (Kd.R_below (by (with_reducible repeat (first | apply Kd.R_alloc | apply Kd.R_drewN | apply Kd.R_drew)); exact HO137.out) hb); have n4_ := Aside0.mk (Kd.R_below (by (with_reducible repeat (first | apply Kd.R_alloc | apply Kd.R_drewN | apply Kd.R_drew)); exact HO140.out) hb); have n5_ := Aside0.mk (below_step (by repeat (first | (with_reducible first | exact HB.out | apply bwA | apply bwN | apply bw1) | exact HB.out)) hb); have n6_ := Aside0.mk (hbox); have n7_ := Aside0.mk ((by rw [hg]; exact (below_size (by repeat (first | (with_reducible first | exact HB.out | apply bwA | apply bwN | apply bw1) | exact HB.out))) : w.heap.size ≤ gb143)); have n8_ := Aside0.mk ((by rw [hg]; exact (below_size (by repeat (first | (with_reducible first | exact HB.out | apply bwA | apply bwN | apply bw1) | exact HB.out))) : w.heap.size ≤ gb143)); clear HO122; clear HO131; clear HO134; clear HO137; clear HO140; clear HB; have HO122 := n0_; have HO131 := n1_; have HO134 := n2_; have HO137 := n3_; have HO140 := n4_; have HB := n5_; have BK143 := n6_; have GW143 := n7_; have GE143 := n8_; clear n0_ n1_ n2_ n3_ n4_ n5_ n6_ n7_ n8_; clear hb hbox hg; obtain ⟨hcz41_0, hcz41_1, hcz41_2, hcz41_3, hcz41_4, hcz41_5, hcz41_6, hcz41_7, hcz41_8, hcz41_9, hfz41_0, hfz41_1, hfz41_2, hfz41_3, hfz41_4, hfz41_5, hfz41_6, hfz41_7, hfz41_8, hfz41_9⟩ := cf10 BK143.out; obtain ⟨Ao42, co42, eo42⟩ := Kd.R_slice HO131.out; subst eo42; obtain ⟨Ao43, co43, eo43⟩ := Kd.R_slice HO134.out; subst eo43; obtain ⟨Ao44, co44, eo44⟩ := Kd.R_slice HO137.out; subst eo44; obtain ⟨Ao45, co45, eo45⟩ := Kd.R_slice HO140.out; subst eo45) | ((with_reducible refine gate_dst (N := 25) rfl ?_); (try (refine gate_guard (by rfl) ?_; dsimp only)); refine Kd.R_lit (Kd.int .i64) _ 2 ?hg (N := 25) ?hd (xs := ([7] : List Int)) (inner := [.int .i64 7]) (ok := fun _ => True) (okp := fun _ => True) ?hr ?hp (fun _ hk => hk) trivial (Below.refl _ _) (Nat.le_refl _) (by simp) ?_; (case hd => rfl); (case hg => rfl); (case hr => first | (go_simp; done) | (go_simp; rfl)); (case hp => exact (Reps.one (show Kd.M (Kd.int .i64) _ _ _ 7 [.int .i64 7] from rfl) (Reps.none _ _))); intro v145 w46 ho47 hb hg_ hnew_; clear hg_ hnew_; (first | rw [← Ny144.out] at ho47 | (simp only [Int.reduceToNat] at ho47; rw [← Ny144.out] at ho47)); have n0_ := Aside0.mk (Kd.R_below (by (with_reducible repeat (first | apply Kd.R_alloc | apply Kd.R_drewN | apply Kd.R_drew)); exact (Kd.R_mono (Kd.R_far (p := ⟨gb143, 9, none⟩) (Kd.R_far (p := ⟨gb143, 8, none⟩) (Kd.R_far (p := ⟨gb143, 7, none⟩) (Kd.R_far (p := ⟨gb143, 6, none⟩) (Kd.R_far (p := ⟨gb143, 5, none⟩) (Kd.R_far (p := ⟨gb143, 4, none⟩) (Kd.R_far (p := ⟨gb143, 3, none⟩) (Kd.R_far (p := ⟨gb143, 2, none⟩) (Kd.R_far (p := ⟨gb143, 1, none⟩) (Kd.R_far (p := ⟨gb143, 0, none⟩) (Kd.R_types HO122.out BK143.out (by decide)) (fun _ hk => hk.2) (.int .i64 t123)) (fun _ hk => hk.2) (.int .i64 t124)) (fun _ hk => hk.2) (.int .i64 t125)) (fun _ hk => hk.2) (.int .i64 t126)) (fun _ hk => hk.2) (.int .i64 t127)) (fun _ hk => hk.2) (.int .i64 t128)) (fun _ hk => hk.2) (.slice Ao42 t129.length co42)) (fun _ hk => hk.2) (.slice Ao43 t132.length co43)) (fun _ hk => hk.2) (.slice Ao44 t135.length co44)) (fun _ hk => hk.2) (.slice Ao45 t138.length co45)) (fun _ h_ => h_.1))) hb); have n1_ := Aside0.mk (Kd.R_elder' (by (with_reducible repeat (first | apply Kd.R_alloc | apply Kd.R_drewN | apply Kd.R_drew)); exact (Kd.R_mono (Kd.R_far (p := ⟨gb143, 9, none⟩) (Kd.R_far (p := ⟨gb143, 8, none⟩) (Kd.R_far (p := ⟨gb143, 7, none⟩) (Kd.R_far (p := ⟨gb143, 6, none⟩) (Kd.R_far (p := ⟨gb143, 5, none⟩) (Kd.R_far (p := ⟨gb143, 4, none⟩) (Kd.R_far (p := ⟨gb143, 3, none⟩) (Kd.R_far (p := ⟨gb143, 2, none⟩) (Kd.R_far (p := ⟨gb143, 1, none⟩) (Kd.R_far (p := ⟨gb143, 0, none⟩) (Kd.R_types HO131.out BK143.out (by decide)) (fun _ hk => hk.2) (.int .i64 t123)) (fun _ hk => hk.2) (.int .i64 t124)) (fun _ hk => hk.2) (.int .i64 t125)) (fun _ hk => hk.2) (.int .i64 t126)) (fun _ hk => hk.2) (.int .i64 t127)) (fun _ hk => hk.2) (.int .i64 t128)) (fun _ hk => hk.2) (.slice Ao42 t129.length co42)) (fun _ hk => hk.2) (.slice Ao43 t132.length co43)) (fun _ hk => hk.2) (.slice Ao44 t135.length co44)) (fun _ hk => hk.2) (.slice Ao45 t138.length co45)) (fun _ h_ => h_.1))) (Kd.R_base ho47) hb); have n2_ := Aside0.mk (Kd.R_below (by (with_reducible repeat (first | apply Kd.R_alloc | apply Kd.R_drewN | apply Kd.R_drew)); exact (Kd.R_mono (Kd.R_far (p := ⟨gb143, 9, none⟩) (Kd.R_far (p := ⟨gb143, 8, none⟩) (Kd.R_far (p := ⟨gb143, 7, none⟩) (Kd.R_far (p := ⟨gb143, 6, none⟩) (Kd.R_far (p := ⟨gb143, 5, none⟩) (Kd.R_far (p := ⟨gb143, 4, none⟩) (Kd.R_far (p := ⟨gb143, 3, none⟩) (Kd.R_far (p := ⟨gb143, 2, none⟩) (Kd.R_far (p := ⟨gb143, 1, none⟩) (Kd.R_far (p := ⟨gb143, 0, none⟩) (Kd.R_types HO134.out BK143.out (by decide)) (fun _ hk => hk.2) (.int .i64 t123)) (fun _ hk => hk.2) (.int .i64 t124)) (fun _ hk => hk.2) (.int .i64 t125)) (fun _ hk => hk.2) (.int .i64 t126)) (fun _ hk => hk.2) (.int .i64 t127)) (fun _ hk => hk.2) (.int .i64 t128)) (fun _ hk => hk.2) (.slice Ao42 t129.length co42)) (fun _ hk => hk.2) (.slice Ao43 t132.length co43)) (fun _ hk => hk.2) (.slice Ao44 t135.length co44)) (fun _ hk => hk.2) (.slice Ao45 t138.length co45)) (fun _ h_ => h_.1))) hb); have n3_ := Aside0.mk (Kd.R_below (by (with_reducible repeat (first | apply Kd.R_alloc | apply Kd.R_drewN | apply Kd.R_drew)); exact (Kd.R_mono (Kd.R_far (p := ⟨gb143, 9, none⟩) (Kd.R_far (p := ⟨gb143, 8, none⟩) (Kd.R_far (p := ⟨gb143, 7, none⟩) (Kd.R_far (p := ⟨gb143, 6, none⟩) (Kd.R_far (p := ⟨gb143, 5, none⟩) (Kd.R_far (p := ⟨gb143, 4, none⟩) (Kd.R_far (p := ⟨gb143, 3, none⟩) (Kd.R_far (p := ⟨gb143, 2, none⟩) (Kd.R_far (p := ⟨gb143, 1, none⟩) (Kd.R_far (p := ⟨gb143, 0, none⟩) (Kd.R_types HO137.out BK143.out (by decide)) (fun _ hk => hk.2) (.int .i64 t123)) (fun _ hk => hk.2) (.int .i64 t124)) (fun _ hk => hk.2) (.int .i64 t125)) (fun _ hk => hk.2) (.int .i64 t126)) (fun _ hk => hk.2) (.int .i64 t127)) (fun _ hk => hk.2) (.int .i64 t128)) (fun _ hk => hk.2) (.slice Ao42 t129.length co42)) (fun _ hk => hk.2) (.slice Ao43 t132.length co43)) (fun _ hk => hk.2) (.slice Ao44 t135.length co44)) (fun _ hk => hk.2) (.slice Ao45 t138.length co45)) (fun _ h_ => h_.1))) hb); have n4_ := Aside0.mk (Kd.R_below (by (with_reducible repeat (first | apply Kd.R_alloc | apply Kd.R_drewN | apply Kd.R_drew)); exact (Kd.R_mono (Kd.R_far (p := ⟨gb143, 9, none⟩) (Kd.R_far (p := ⟨gb143, 8, none⟩) (Kd.R_far (p := ⟨gb143, 7, none⟩) (Kd.R_far (p := ⟨gb143, 6, none⟩) (Kd.R_far (p := ⟨gb143, 5, none⟩) (Kd.R_far (p := ⟨gb143, 4, none⟩) (Kd.R_far (p := ⟨gb143, 3, none⟩) (Kd.R_far (p := ⟨gb143, 2, none⟩) (Kd.R_far (p := ⟨gb143, 1, none⟩) (Kd.R_far (p := ⟨gb143, 0, none⟩) (Kd.R_types HO140.out BK143.out (by decide)) (fun _ hk => hk.2) (.int .i64 t123)) (fun _ hk => hk.2) (.int .i64 t124)) (fun _ hk => hk.2) (.int .i64 t125)) (fun _ hk => hk.2) (.int .i64 t126)) (fun _ hk => hk.2) (.int .i64 t127)) (fun _ hk => hk.2) (.int .i64 t128)) (fun _ hk => hk.2) (.slice Ao42 t129.length co42)) (fun _ hk => hk.2) (.slice Ao43 t132.length co43)) (fun _ hk => hk.2) (.slice Ao44 t135.length co44)) (fun _ hk => hk.2) (.slice Ao45 t138.length co45)) (fun _ h_ => h_.1))) hb); have n5_ := Aside0.mk (Kd.R_lower (Kd.R_new' ho47 (Kd.R_lt (by (with_reducible repeat (first | apply Kd.R_alloc | apply Kd.R_drewN | apply Kd.R_drew)); exact (Kd.R_mono (Kd.R_far (p := ⟨gb143, 9, none⟩) (Kd.R_far (p := ⟨gb143, 8, none⟩) (Kd.R_far (p := ⟨gb143, 7, none⟩) (Kd.R_far (p := ⟨gb143, 6, none⟩) (Kd.R_far (p := ⟨gb143, 5, none⟩) (Kd.R_far (p := ⟨gb143, 4, none⟩) (Kd.R_far (p := ⟨gb143, 3, none⟩) (Kd.R_far (p := ⟨gb143, 2, none⟩) (Kd.R_far (p := ⟨gb143, 1, none⟩) (Kd.R_far (p := ⟨gb143, 0, none⟩) (Kd.R_types HO131.out BK143.out (by decide)) (fun _ hk => hk.2) (.int .i64 t123)) (fun _ hk => hk.2) (.int .i64 t124)) (fun _ hk => hk.2) (.int .i64 t125)) (fun _ hk => hk.2) (.int .i64 t126)) (fun _ hk => hk.2) (.int .i64 t127)) (fun _ hk => hk.2) (.int .i64 t128)) (fun _ hk => hk.2) (.slice Ao42 t129.length co42)) (fun _ hk => hk.2) (.slice Ao43 t132.length co43)) (fun _ hk => hk.2) (.slice Ao44 t135.length co44)) (fun _ hk => hk.2) (.slice Ao45 t138.length co45)) (fun _ h_ => h_.1))))) (below_size (by repeat (first | (with_reducible first | exact HB.out | apply bwA | apply bwN | apply bw1 | refine bwS ?_ GE143.out) | exact HB.out)))); have n6_ := Aside0.mk (blk_below (g := gb143) (o := .cells #[.int .i64 t123, .int .i64 t124, .int .i64 t125, .int .i64 t126, .int .i64 t127, .int .i64 t128, .slice Ao42 t129.length co42, .slice Ao43 t132.length co43, .slice Ao44 t135.length co44, .slice Ao45 t138.length co45] 30 (0, 0)) (by (with_reducible repeat (first | refine blk_drewN ?_ _ | refine blk_drew ?_ | refine blk_alloc ?_ _)); refine blk_put (cs := #[.int .i64 t123, .int .i64 t124, .int .i64 t125, .int .i64 t126, .int .i64 t127, .int .i64 t128, .slice Ao42 t129.length co42, .slice Ao43 t132.length co43, .slice Ao44 t135.length co44, .slice none 0 0]) ?_ 9 _ rfl; (with_reducible repeat (first | refine blk_drewN ?_ _ | refine blk_drew ?_ | refine blk_alloc ?_ _)); refine blk_put (cs := #[.int .i64 t123, .int .i64 t124, .int .i64 t125, .int .i64 t126, .int .i64 t127, .int .i64 t128, .slice Ao42 t129.length co42, .slice Ao43 t132.length co43, .slice none 0 0, .slice none 0 0]) ?_ 8 _ rfl; (with_reducible repeat (first | refine blk_drewN ?_ _ | refine blk_drew ?_ | refine blk_alloc ?_ _)); refine blk_put (cs := #[.int .i64 t123, .int .i64 t124, .int .i64 t125, .int .i64 t126, .int .i64 t127, .int .i64 t128, .slice Ao42 t129.length co42, .slice none 0 0, .slice none 0 0, .slice none 0 0]) ?_ 7 _ rfl; (with_reducible repeat (first | refine blk_drewN ?_ _ | refine blk_drew ?_ | refine blk_alloc ?_ _)); refine blk_put (cs := #[.int .i64 t123, .int .i64 t124, .int .i64 t125, .int .i64 t126, .int .i64 t127, .int .i64 t128, .slice none 0 0, .slice none 0 0, .slice none 0 0, .slice none 0 0]) ?_ 6 _ rfl; (with_reducible repeat (first | refine blk_drewN ?_ _ | refine blk_drew ?_ | refine blk_alloc ?_ _)); refine blk_put (cs := #[.int .i64 t123, .int .i64 t124, .int .i64 t125, .int .i64 t126, .int .i64 t127, .int .i64 0, .slice none 0 0, .slice none 0 0, .slice none 0 0, .slice none 0 0]) ?_ 5 _ rfl; (with_reducible repeat (first | refine blk_drewN ?_ _ | refine blk_drew ?_ | refine blk_alloc ?_ _)); refine blk_put (cs := #[.int .i64 t123, .int .i64 t124, .int .i64 t125, .int .i64 t126, .int .i64 0, .int .i64 0, .slice none 0 0, .slice none 0 0, .slice none 0 0, .slice none 0 0]) ?_ 4 _ rfl; (with_reducible repeat (first | refine blk_drewN ?_ _ | refine blk_drew ?_ | refine blk_alloc ?_ _)); refine blk_put (cs := #[.int .i64 t123, .int .i64 t124, .int .i64 t125, .int .i64 0, .int .i64 0, .int .i64 0, .slice none 0 0, .slice none 0 0, .slice none 0 0, .slice none 0 0]) ?_ 3 _ rfl; (with_reducible repeat (first | refine blk_drewN ?_ _ | refine blk_drew ?_ | refine blk_alloc ?_ _)); refine blk_put (cs := #[.int .i64 t123, .int .i64 t124, .int .i64 0, .int .i64 0, .int .i64 0, .int .i64 0, .slice none 0 0, .slice none 0 0, .slice none 0 0, .slice none 0 0]) ?_ 2 _ rfl; (with_reducible repeat (first | refine blk_drewN ?_ _ | refine blk_drew ?_ | refine blk_alloc ?_ _)); refine blk_put (cs := #[.int .i64 t123, .int .i64 0, .int .i64 0, .int .i64 0, .int .i64 0, .int .i64 0, .slice none 0 0, .slice none 0 0, .slice none 0 0, .slice none 0 0]) ?_ 1 _ rfl; (with_reducible repeat (first | refine blk_drewN ?_ _ | refine blk_drew ?_ | refine blk_alloc ?_ _)); refine blk_put (cs := #[.int .i64 0, .int .i64 0, .int .i64 0, .int .i64 0, .int .i64 0, .int .i64 0, .slice none 0 0, .slice none 0 0, .slice none 0 0, .slice none 0 0]) ?_ 0 _ rfl; (with_reducible repeat (first | refine blk_drewN ?_ _ | refine blk_drew ?_ | refine blk_alloc ?_ _)); exact BK143.out) hb); have n7_ := Aside0.mk (below_step (by repeat (first | (with_reducible first | exact HB.out | apply bwA | apply bwN | apply bw1 | refine bwS ?_ GE143.out) | exact HB.out)) hb); clear HO122; clear HO131; clear HO134; clear HO137; clear HO140; clear BK143; clear HB; have HO122 := n0_; have HO131 := n1_; have HO134 := n2_; have HO137 := n3_; have HO140 := n4_; have HO146 := n5_; have BK143 := n6_; have HB := n7_; clear n0_ n1_ n2_ n3_ n4_ n5_ n6_ n7_; clear hb ho47; obtain ⟨Ao48, co48, eo48⟩ := Kd.R_slice HO146.out; subst eo48) | (go_at_call 19; (with_reducible refine (quarrelref01_Vals.calls k _ _ t129 _ _ y144 false _ ?side1 ?side2 ?side3 ?side4 A5.out).mono ?_); (case side1 => repeat (first | exact (Kd.R_reads' HO131.out).2.2 | (with_reducible refine Kd.C_alloc ?_ _) | (with_reducible refine Kd.C_drewN ?_ _) | (with_reducible refine Kd.C_drew ?_))); (case side2 => exact (Kd.R_reads' HO131.out).2.1); (case side3 => repeat (first | exact (Kd.R_reads' HO146.out).2.2 | (with_reducible refine Kd.C_alloc ?_ _) | (with_reducible refine Kd.C_drewN ?_ _) | (with_reducible refine Kd.C_drew ?_))); (case side4 => exact (Kd.R_reads' HO146.out).2.1); rintro e w' ⟨rfl, ⟨nd, rfl⟩⟩))
     go_ret
     exact ⟨by first | rfl | (simp [errW_none, errW_some] <;> rfl) | (simp [*, errW_none, errW_some] <;> rfl), by repeat (first | (with_reducible first | exact HB.out | apply bwA | apply bwN | apply bw1 | refine bwS ?_ GE143.out) | exact HB.out)⟩
   ·rw [if_neg c4] at H
    have c4b0 : (t123 == 1 && (t124 == 1 && (t125 == 9 && (t126 == 5 && (t127 == 1 && (t128 == 2)))))) = false := by simpa using c4
    (try (have c4b1 : decide (t123 = 1 && (t124 == 1 && (t125 == 9 && (t126 == 5 && (t127 == 1 && (t128 == 2)))))) = false := by simpa using c4))
    (try (have c4b2 : (t123 == 1 && (t124 == 1 && (t125 == 9 && (t126 == 5 && (t127 == 1 && (t128 == 2)))))) = false := by simpa using c4))
    (try (have c4b3 : ¬ (t123 = 1 && (t124 == 1 && (t125 == 9 && (t126 == 5 && (t127 == 1 && (t128 == 2)))))) := by simpa using c4))
    clear c4
    obtain rfl := Option.some.inj H
    go_enter Try.func9, Try.ntmps9
    go_wp2_with (first | ((with_reducible refine gate_dst (N := 5) rfl ?_); (try (refine gate_guard (by rfl) ?_; dsimp only)); refine Kd.R_lit (Kd.int .u8) _ 5 ?hg (N := 5) ?hd (xs := ([1, 1, 0, 9, 5, 1, 2, 7, 0, 0] : List Int)) (inner := [.int .u8 1, .int .u8 1, .int .u8 0, .int .u8 9, .int .u8 5, .int .u8 1, .int .u8 2, .int .u8 7, .int .u8 0, .int .u8 0]) (ok := fun _ => True) (okp := fun _ => True) ?hr ?hp (fun _ hk => hk) trivial (Below.refl _ _) (Nat.le_refl _) (by simp) ?_; (case hd => rfl); (case hg => rfl); (case hr => first | (go_simp; done) | (go_simp; rfl)); (case hp => exact (Reps.one (show Kd.M (Kd.int .u8) _ _ _ 1 [.int .u8 1] from rfl) (Reps.one (show Kd.M (Kd.int .u8) _ _ _ 1 [.int .u8 1] from rfl) (Reps.one (show Kd.M (Kd.int .u8) _ _ _ 0 [.int .u8 0] from rfl) (Reps.one (show Kd.M (Kd.int .u8) _ _ _ 9 [.int .u8 9] from rfl) (Reps.one (show Kd.M (Kd.int .u8) _ _ _ 5 [.int .u8 5] from rfl) (Reps.one (show Kd.M (Kd.int .u8) _ _ _ 1 [.int .u8 1] from rfl) (Reps.one (show Kd.M (Kd.int .u8) _ _ _ 2 [.int .u8 2] from rfl) (Reps.one (show Kd.M (Kd.int .u8) _ _ _ 7 [.int .u8 7] from rfl) (Reps.one (show Kd.M (Kd.int .u8) _ _ _ 0 [.int .u8 0] from rfl) (Reps.one (show Kd.M (Kd.int .u8) _ _ _ 0 [.int .u8 0] from rfl) (Reps.none _ _)))))))))))); intro v121 w49 ho50 hb hg_ hnew_; clear hg_ hnew_; (first | rw [← Ny120.out] at ho50 | (simp only [Int.reduceToNat] at ho50; rw [← Ny120.out] at ho50)); have n0_ := Aside0.mk (Kd.R_lower ho50 (below_size (by repeat (first | (with_reducible first | exact HB.out | apply bwA | apply bwN | apply bw1) | exact HB.out)))); have n1_ := Aside0.mk (below_step (by repeat (first | (with_reducible first | exact HB.out | apply bwA | apply bwN | apply bw1) | exact HB.out)) hb); clear HB; have HO122 := n0_; have HB := n1_; clear n0_ n1_; clear hb ho50; obtain ⟨Ao51, co51, eo51⟩ := Kd.R_slice HO122.out; subst eo51) | ((with_reducible refine gate_callee (f := 10) rfl ?_); refine goesL_ (some 6) rfl rfl Try.func10 (by kernel_rfl) rfl #[.slice Ao51 y120.length co51] rfl (by (try simp only [List.map_toArray, List.map_cons, List.map_nil]); first | done | rfl | (simp only [List.length_drop, List.length_take]; rfl)) ?_; (with_reducible refine (script_Get.calls k _ _ y120 t123 t124 t125 t126 t127 t128 t129 t132 t135 t138 t141 t142 _ ?side1 ?side2 A1.out).mono ?_); (case side1 => repeat (first | exact (Kd.R_reads' HO122.out).2.2 | (with_reducible refine Kd.C_alloc ?_ _) | (with_reducible refine Kd.C_drewN ?_ _) | (with_reducible refine Kd.C_drew ?_))); (case side2 => exact (Kd.R_reads' HO122.out).2.1); rintro e w52 ⟨v130, v133, v136, v139, rfl, ho0, ho1, ho2, ho3, hb⟩; refine ⟨_, rfl, ?_⟩; have n0_ := Aside0.mk (Kd.R_elder' (by (with_reducible repeat (first | apply Kd.R_alloc | apply Kd.R_drewN | apply Kd.R_drew)); exact HO122.out) (Kd.R_base ho1) hb); have n1_ := Aside0.mk (Kd.R_lower ho0 (below_size (by repeat (first | (with_reducible first | exact HB.out | apply bwA | apply bwN | apply bw1) | exact HB.out)))); have n2_ := Aside0.mk (Kd.R_lower (Kd.R_new' ho1 (Kd.R_lt (by (with_reducible repeat (first | apply Kd.R_alloc | apply Kd.R_drewN | apply Kd.R_drew)); exact HO122.out))) (below_size (by repeat (first | (with_reducible first | exact HB.out | apply bwA | apply bwN | apply bw1) | exact HB.out)))); have n3_ := Aside0.mk (Kd.R_lower ho2 (below_size (by repeat (first | (with_reducible first | exact HB.out | apply bwA | apply bwN | apply bw1) | exact HB.out)))); have n4_ := Aside0.mk (Kd.R_lower ho3 (below_size (by repeat (first | (with_reducible first | exact HB.out | apply bwA | apply bwN | apply bw1) | exact HB.out)))); have n5_ := Aside0.mk (below_step (by repeat (first | (with_reducible first | exact HB.out | apply bwA | apply bwN | apply bw1) | exact HB.out)) hb); clear HO122; clear HB; have HO122 := n0_; have HO131 := n1_; have HO134 := n2_; have HO137 := n3_; have HO140 := n4_; have HB := n5_; clear n0_ n1_ n2_ n3_ n4_ n5_; (try clear hb); (try clear hb2); (try clear hk); (try clear hi); (try clear ho0); (try clear ho1); (try clear ho2); (try clear ho3)) | ((with_reducible refine gate_dst (N := 1) rfl ?_); (try (refine gate_guard (by rfl) ?_; dsimp only)); refine box_event ?hg (N := 1) ?hd (cs := #[.int .i64 0, .int .i64 0, .int .i64 0, .int .i64 0, .int .i64 0, .int .i64 0, .slice none 0 0, .slice none 0 0, .slice none 0 0, .slice none 0 0]) (t := 30) ?hr ?_; (case hd => rfl); (case hg => rfl); (case hr => first | (go_simp; done) | (go_simp; rfl)); intro gb143 hg w53 hbox hb; have n0_ := Aside0.mk (Kd.R_below (by (with_reducible repeat (first | apply Kd.R_alloc | apply Kd.R_drewN | apply Kd.R_drew)); exact HO122.out) hb); have n1_ := Aside0.mk (Kd.R_below (by (with_reducible repeat (first | apply Kd.R_alloc | apply Kd.R_drewN | apply Kd.R_drew)); exact HO131.out) hb); have n2_ := Aside0.mk (Kd.R_below (by (with_reducible repeat (first | apply Kd.R_alloc | apply Kd.R_drewN | apply Kd.R_drew)); exact HO134.out) hb); have n3_ := Aside0.mk (Kd.R_below (by (with_reducible repeat (first | apply Kd.R_alloc | apply Kd.R_drewN | apply Kd.R_drew)); exact HO137.out) hb); have n4_ := Aside0.mk (Kd.R_below (by (with_reducible repeat (first | apply Kd.R_alloc | apply Kd.R_drewN | apply Kd.R_drew)); exact HO140.out) hb); have n5_ := Aside0.mk (below_step (by repeat (first | (with_reducible first | exact HB.out | apply bwA | apply bwN | apply bw1) | exact HB.out)) hb); have n6_ := Aside0.mk (hbox); have n7_ := Aside0.mk ((by rw [hg]; exact (below_size (by repeat (first | (with_reducible first | exact HB.out | apply bwA | apply bwN | apply bw1) | exact HB.out))) : w.heap.size ≤ gb143)); have n8_ := Aside0.mk ((by rw [hg]; exact (below_size (by repeat (first | (with_reducible first | exact HB.out | apply bwA | apply bwN | apply bw1) | exact HB.out))) : w.heap.size ≤ gb143)); clear HO122; clear HO131; clear HO134; clear HO137; clear HO140; clear HB; have HO122 := n0_; have HO131 := n1_; have HO134 := n2_; have HO137 := n3_; have HO140 := n4_; have HB := n5_; have BK143 := n6_; have GW143 := n7_; have GE143 := n8_; clear n0_ n1_ n2_ n3_ n4_ n5_ n6_ n7_ n8_; clear hb hbox hg; obtain ⟨hcz54_0, hcz54_1, hcz54_2, hcz54_3, hcz54_4, hcz54_5, hcz54_6, hcz54_7, hcz54_8, hcz54_9, hfz54_0, hfz54_1, hfz54_2, hfz54_3, hfz54_4, hfz54_5, hfz54_6, hfz54_7, hfz54_8, hfz54_9⟩ := cf10 BK143.out; obtain ⟨Ao55, co55, eo55⟩ := Kd.R_slice HO131.out; subst eo55; obtain ⟨Ao56, co56, eo56⟩ := Kd.R_slice HO134.out; subst eo56; obtain ⟨Ao57, co57, eo57⟩ := Kd.R_slice HO137.out; subst eo57; obtain ⟨Ao58, co58, eo58⟩ := Kd.R_slice HO140.out; subst eo58))
    go_ret
    exact ⟨by first | rfl | (simp [errW_none, errW_some] <;> rfl) | (simp [*, errW_none, errW_some] <;> rfl), by repeat (first | (with_reducible first | exact HB.out | apply bwA | apply bwN | apply bw1 | refine bwS ?_ GE143.out) | exact HB.out)⟩
  ·rw [if_neg c3] at H
   have c3b0 : (t141 == (-1)) = false := beq_eq_false_iff_ne.mpr c3
   have c3b1 : (t141 != (-1)) = true := bne_iff_ne.mpr c3
   obtain rfl := Option.some.inj H
   go_enter Try.func9, Try.ntmps9
   go_wp2_with (first | ((with_reducible refine gate_dst (N := 5) rfl ?_); (try (refine gate_guard (by rfl) ?_; dsimp only)); refine Kd.R_lit (Kd.int .u8) _ 5 ?hg (N := 5) ?hd (xs := ([1, 1, 0, 9, 5, 1, 2, 7, 0, 0] : List Int)) (inner := [.int .u8 1, .int .u8 1, .int .u8 0, .int .u8 9, .int .u8 5, .int .u8 1, .int .u8 2, .int .u8 7, .int .u8 0, .int .u8 0]) (ok := fun _ => True) (okp := fun _ => True) ?hr ?hp (fun _ hk => hk) trivial (Below.refl _ _) (Nat.le_refl _) (by simp) ?_; (case hd => rfl); (case hg => rfl); (case hr => first | (go_simp; done) | (go_simp; rfl)); (case hp => exact (Reps.one (show Kd.M (Kd.int .u8) _ _ _ 1 [.int .u8 1] from rfl) (Reps.one (show Kd.M (Kd.int .u8) _ _ _ 1 [.int .u8 1] from rfl) (Reps.one (show Kd.M (Kd.int .u8) _ _ _ 0 [.int .u8 0] from rfl) (Reps.one (show Kd.M (Kd.int .u8) _ _ _ 9 [.int .u8 9] from rfl) (Reps.one (show Kd.M (Kd.int .u8) _ _ _ 5 [.int .u8 5] from rfl) (Reps.one (show Kd.M (Kd.int .u8) _ _ _ 1 [.int .u8 1] from rfl) (Reps.one (show Kd.M (Kd.int .u8) _ _ _ 2 [.int .u8 2] from rfl) (Reps.one (show Kd.M (Kd.int .u8) _ _ _ 7 [.int .u8 7] from rfl) (Reps.one (show Kd.M (Kd.int .u8) _ _ _ 0 [.int .u8 0] from rfl) (Reps.one (show Kd.M (Kd.int .u8) _ _ _ 0 [.int .u8 0] from rfl) (Reps.none _ _)))))))))))); intro v121 w59 ho60 hb hg_ hnew_; clear hg_ hnew_; (first | rw [← Ny120.out] at ho60 | (simp only [Int.reduceToNat] at ho60; rw [← Ny120.out] at ho60)); have n0_ := Aside0.mk (Kd.R_lower ho60 (below_size (by repeat (first | (with_reducible first | exact HB.out | apply bwA | apply bwN | apply bw1) | exact HB.out)))); have n1_ := Aside0.mk (below_step (by repeat (first | (with_reducible first | exact HB.out | apply bwA | apply bwN | apply bw1) | exact HB.out)) hb); clear HB; have HO122 := n0_; have HB := n1_; clear n0_ n1_; clear hb ho60; obtain ⟨Ao61, co61, eo61⟩ := Kd.R_slice HO122.out; subst eo61) | ((with_reducible refine gate_callee (f := 10) rfl ?_); refine goesL_ (some 6) rfl rfl Try.func10 (by kernel_rfl) rfl #[.slice Ao61 y120.length co61] rfl (by (try simp only [List.map_toArray, List.map_cons, List.map_nil]); first | done | rfl | (simp only [List.length_drop, List.length_take]; rfl)) ?_; (with_reducible refine (script_Get.calls k _ _ y120 t123 t124 t125 t126 t127 t128 t129 t132 t135 t138 t141 t142 _ ?side1 ?side2 A1.out).mono ?_); (case side1 => repeat (first | exact (Kd.R_reads' HO122.out).2.2 | (with_reducible refine Kd.C_alloc ?_ _) | (with_reducible refine Kd.C_drewN ?_ _) | (with_reducible refine Kd.C_drew ?_))); (case side2 => exact (Kd.R_reads' HO122.out).2.1); rintro e w62 ⟨v130, v133, v136, v139, rfl, ho0, ho1, ho2, ho3, hb⟩; refine ⟨_, rfl, ?_⟩; have n0_ := Aside0.mk (Kd.R_elder' (by (with_reducible repeat (first | apply Kd.R_alloc | apply Kd.R_drewN | apply Kd.R_drew)); exact HO122.out) (Kd.R_base ho1) hb); have n1_ := Aside0.mk (Kd.R_lower ho0 (below_size (by repeat (first | (with_reducible first | exact HB.out | apply bwA | apply bwN | apply bw1) | exact HB.out)))); have n2_ := Aside0.mk (Kd.R_lower (Kd.R_new' ho1 (Kd.R_lt (by (with_reducible repeat (first | apply Kd.R_alloc | apply Kd.R_drewN | apply Kd.R_drew)); exact HO122.out))) (below_size (by repeat (first | (with_reducible first | exact HB.out | apply bwA | apply bwN | apply bw1) | exact HB.out)))); have n3_ := Aside0.mk (Kd.R_lower ho2 (below_size (by repeat (first | (with_reducible first | exact HB.out | apply bwA | apply bwN | apply bw1) | exact HB.out)))); have n4_ := Aside0.mk (Kd.R_lower ho3 (below_size (by repeat (first | (with_reducible first | exact HB.out | apply bwA | apply bwN | apply bw1) | exact HB.out)))); have n5_ := Aside0.mk (below_step (by repeat (first | (with_reducible first | exact HB.out | apply bwA | apply bwN | apply bw1) | exact HB.out)) hb); clear HO122; clear HB; have HO122 := n0_; have HO131 := n1_; have HO134 := n2_; have HO137 := n3_; have HO140 := n4_; have HB := n5_; clear n0_ n1_ n2_ n3_ n4_ n5_; (try clear hb); (try clear hb2); (try clear hk); (try clear hi); (try clear ho0); (try clear ho1); (try clear ho2); (try clear ho3)) | ((with_reducible refine gate_dst (N := 1) rfl ?_); (try (refine gate_guard (by rfl) ?_; dsimp only)); refine box_event ?hg (N := 1) ?hd (cs := #[.int .i64 0, .int .i64 0, .int .i64 0, .int .i64 0, .int .i64 0, .int .i64 0, .slice none 0 0, .slice none 0 0, .slice none 0 0, .slice none 0 0]) (t := 30) ?hr ?_; (case hd => rfl); (case hg => rfl); (case hr => first | (go_simp; done) | (go_simp; rfl)); intro gb143 hg w63 hbox hb; have n0_ := Aside0.mk (Kd.R_below (by (with_reducible repeat (first | apply Kd.R_alloc | apply Kd.R_drewN | apply Kd.R_drew)); exact HO122.out) hb); have n1_ := Aside0.mk (Kd.R_below (by (with_reducible repeat (first | apply Kd.R_alloc | apply Kd.R_drewN | apply Kd.R_drew)); exact HO131.out) hb); have n2_ := Aside0.mk (Kd.R_below (by (with_reducible repeat (first | apply Kd.R_alloc | apply Kd.R_drewN | apply Kd.R_drew)); exact HO134.out) hb); have n3_ := Aside0.mk (Kd.R_below (by (with_reducible repeat (first | apply Kd.R_alloc | apply Kd.R_drewN | apply Kd.R_drew)); exact HO137.out) hb); have n4_ := Aside0.mk (Kd.R_below (by (with_reducible repeat (first | apply Kd.R_alloc | apply Kd.R_drewN | apply Kd.R_drew)); exact HO140.out) hb); have n5_ := Aside0.mk (below_step (by repeat (first | (with_reducible first | exact HB.out | apply bwA | apply bwN | apply bw1) | exact HB.out)) hb); have n6_ := Aside0.mk (hbox); have n7_ := Aside0.mk ((by rw [hg]; exact (below_size (by repeat (first | (with_reducible first | exact HB.out | apply bwA | apply bwN | apply bw1) | exact HB.out))) : w.heap.size ≤ gb143)); have n8_ := Aside0.mk ((by rw [hg]; exact (below_size (by repeat (first | (with_reducible first | exact HB.out | apply bwA | apply bwN | apply bw1) | exact HB.out))) : w.heap.size ≤ gb143)); clear HO122; clear HO131; clear HO134; clear HO137; clear HO140; clear HB; have HO122 := n0_; have HO131 := n1_; have HO134 := n2_; have HO137 := n3_; have HO140 := n4_; have HB := n5_; have BK143 := n6_; have GW143 := n7_; have GE143 := n8_; clear n0_ n1_ n2_ n3_ n4_ n5_ n6_ n7_ n8_; clear hb hbox hg; obtain ⟨hcz64_0, hcz64_1, hcz64_2, hcz64_3, hcz64_4, hcz64_5, hcz64_6, hcz64_7, hcz64_8, hcz64_9, hfz64_0, hfz64_1, hfz64_2, hfz64_3, hfz64_4, hfz64_5, hfz64_6, hfz64_7, hfz64_8, hfz64_9⟩ := cf10 BK143.out; obtain ⟨Ao65, co65, eo65⟩ := Kd.R_slice HO131.out; subst eo65; obtain ⟨Ao66, co66, eo66⟩ := Kd.R_slice HO134.out; subst eo66; obtain ⟨Ao67, co67, eo67⟩ := Kd.R_slice HO137.out; subst eo67; obtain ⟨Ao68, co68, eo68⟩ := Kd.R_slice HO140.out; subst eo68))
   go_ret
   exact ⟨by first | rfl | (simp [errW_none, errW_some] <;> rfl) | (simp [*, errW_none, errW_some] <;> rfl), by repeat (first | (with_reducible first | exact HB.out | apply bwA | apply bwN | apply bw1 | refine bwS ?_ GE143.out) | exact HB.out)⟩
 ·rw [if_neg c2] at H
  have c2b0 : (t142 == 0) = false := beq_eq_false_iff_ne.mpr c2
  have c2b1 : (t142 != 0) = true := bne_iff_ne.mpr c2
  obtain rfl := Option.some.inj H
  go_enter Try.func9, Try.ntmps9
  go_wp2_with (first | ((with_reducible refine gate_dst (N := 5) rfl ?_); (try (refine gate_guard (by rfl) ?_; dsimp only)); refine Kd.R_lit (Kd.int .u8) _ 5 ?hg (N := 5) ?hd (xs := ([1, 1, 0, 9, 5, 1, 2, 7, 0, 0] : List Int)) (inner := [.int .u8 1, .int .u8 1, .int .u8 0, .int .u8 9, .int .u8 5, .int .u8 1, .int .u8 2, .int .u8 7, .int .u8 0, .int .u8 0]) (ok := fun _ => True) (okp := fun _ => True) ?hr ?hp (fun _ hk => hk) trivial (Below.refl _ _) (Nat.le_refl _) (by simp) ?_; (case hd => rfl); (case hg => rfl); (case hr => first | (go_simp; done) | (go_simp; rfl)); (case hp => exact (Reps.one (show Kd.M (Kd.int .u8) _ _ _ 1 [.int .u8 1] from rfl) (Reps.one (show Kd.M (Kd.int .u8) _ _ _ 1 [.int .u8 1] from rfl) (Reps.one (show Kd.M (Kd.int .u8) _ _ _ 0 [.int .u8 0] from rfl) (Reps.one (show Kd.M (Kd.int .u8) _ _ _ 9 [.int .u8 9] from rfl) (Reps.one (show Kd.M (Kd.int .u8) _ _ _ 5 [.int .u8 5] from rfl) (Reps.one (show Kd.M (Kd.int .u8) _ _ _ 1 [.int .u8 1] from rfl) (Reps.one (show Kd.M (Kd.int .u8) _ _ _ 2 [.int .u8 2] from rfl) (Reps.one (show Kd.M (Kd.int .u8) _ _ _ 7 [.int .u8 7] from rfl) (Reps.one (show Kd.M (Kd.int .u8) _ _ _ 0 [.int .u8 0] from rfl) (Reps.one (show Kd.M (Kd.int .u8) _ _ _ 0 [.int .u8 0] from rfl) (Reps.none _ _)))))))))))); intro v121 w69 ho70 hb hg_ hnew_; clear hg_ hnew_; (first | rw [← Ny120.out] at ho70 | (simp only [Int.reduceToNat] at ho70; rw [← Ny120.out] at ho70)); have n0_ := Aside0.mk (Kd.R_lower ho70 (below_size (by repeat (first | (with_reducible first | exact HB.out | apply bwA | apply bwN | apply bw1) | exact HB.out)))); have n1_ := Aside0.mk (below_step (by repeat (first | (with_reducible first | exact HB.out | apply bwA | apply bwN | apply bw1) | exact HB.out)) hb); clear HB; have HO122 := n0_; have HB := n1_; clear n0_ n1_; clear hb ho70; obtain ⟨Ao71, co71, eo71⟩ := Kd.R_slice HO122.out; subst eo71) | ((with_reducible refine gate_callee (f := 10) rfl ?_); refine goesL_ (some 6) rfl rfl Try.func10 (by kernel_rfl) rfl #[.slice Ao71 y120.length co71] rfl (by (try simp only [List.map_toArray, List.map_cons, List.map_nil]); first | done | rfl | (simp only [List.length_drop, List.length_take]; rfl)) ?_; (with_reducible refine (script_Get.calls k _ _ y120 t123 t124 t125 t126 t127 t128 t129 t132 t135 t138 t141 t142 _ ?side1 ?side2 A1.out).mono ?_); (case side1 => repeat (first | exact (Kd.R_reads' HO122.out).2.2 | (with_reducible refine Kd.C_alloc ?_ _) | (with_reducible refine Kd.C_drewN ?_ _) | (with_reducible refine Kd.C_drew ?_))); (case side2 => exact (Kd.R_reads' HO122.out).2.1); rintro e w72 ⟨v130, v133, v136, v139, rfl, ho0, ho1, ho2, ho3, hb⟩; refine ⟨_, rfl, ?_⟩; have n0_ := Aside0.mk (Kd.R_elder' (by (with_reducible repeat (first | apply Kd.R_alloc | apply Kd.R_drewN | apply Kd.R_drew)); exact HO122.out) (Kd.R_base ho1) hb); have n1_ := Aside0.mk (Kd.R_lower ho0 (below_size (by repeat (first | (with_reducible first | exact HB.out | apply bwA | apply bwN | apply bw1) | exact HB.out)))); have n2_ := Aside0.mk (Kd.R_lower (Kd.R_new' ho1 (Kd.R_lt (by (with_reducible repeat (first | apply Kd.R_alloc | apply Kd.R_drewN | apply Kd.R_drew)); exact HO122.out))) (below_size (by repeat (first | (with_reducible first | exact HB.out | apply bwA | apply bwN | apply bw1) | exact HB.out)))); have n3_ := Aside0.mk (Kd.R_lower ho2 (below_size (by repeat (first | (with_reducible first | exact HB.out | apply bwA | apply bwN | apply bw1) | exact HB.out)))); have n4_ := Aside0.mk (Kd.R_lower ho3 (below_size (by repeat (first | (with_reducible first | exact HB.out | apply bwA | apply bwN | apply bw1) | exact HB.out)))); have n5_ := Aside0.mk (below_step (by repeat (first | (with_reducible first | exact HB.out | apply bwA | apply bwN | apply bw1) | exact HB.out)) hb); clear HO122; clear HB; have HO122 := n0_; have HO131 := n1_; have HO134 := n2_; have HO137 := n3_; have HO140 := n4_; have HB := n5_; clear n0_ n1_ n2_ n3_ n4_ n5_; (try clear hb); (try clear hb2); (try clear hk); (try clear hi); (try clear ho0); (try clear ho1); (try clear ho2); (try clear ho3)) | ((with_reducible refine gate_dst (N := 1) rfl ?_); (try (refine gate_guard (by rfl) ?_; dsimp only)); refine box_event ?hg (N := 1) ?hd (cs := #[.int .i64 0, .int .i64 0, .int .i64 0, .int .i64 0, .int .i64 0, .int .i64 0, .slice none 0 0, .slice none 0 0, .slice none 0 0, .slice none 0 0]) (t := 30) ?hr ?_; (case hd => rfl); (case hg => rfl); (case hr => first | (go_simp; done) | (go_simp; rfl)); intro gb143 hg w73 hbox hb; have n0_ := Aside0.mk (Kd.R_below (by (with_reducible repeat (first | apply Kd.R_alloc | apply Kd.R_drewN | apply Kd.R_drew)); exact HO122.out) hb); have n1_ := Aside0.mk (Kd.R_below (by (with_reducible repeat (first | apply Kd.R_alloc | apply Kd.R_drewN | apply Kd.R_drew)); exact HO131.out) hb); have n2_ := Aside0.mk (Kd.R_below (by (with_reducible repeat (first | apply Kd.R_alloc | apply Kd.R_drewN | apply Kd.R_drew)); exact HO134.out) hb); have n3_ := Aside0.mk (Kd.R_below (by (with_reducible repeat (first | apply Kd.R_alloc | apply Kd.R_drewN | apply Kd.R_drew)); exact HO137.out) hb); have n4_ := Aside0.mk (Kd.R_below (by (with_reducible repeat (first | apply Kd.R_alloc | apply Kd.R_drewN | apply Kd.R_drew)); exact HO140.out) hb); have n5_ := Aside0.mk (below_step (by repeat (first | (with_reducible first | exact HB.out | apply bwA | apply bwN | apply bw1) | exact HB.out)) hb); have n6_ := Aside0.mk (hbox); have n7_ := Aside0.mk ((by rw [hg]; exact (below_size (by repeat (first | (with_reducible first | exact HB.out | apply bwA | apply bwN | apply bw1) | exact HB.out))) : w.heap.size ≤ gb143)); have n8_ := Aside0.mk ((by rw [hg]; exact (below_size (by repeat (first | (with_reducible first | exact HB.out | apply bwA | apply bwN | apply bw1) | exact HB.out))) : w.heap.size ≤ gb143)); clear HO122; clear HO131; clear HO134; clear HO137; clear HO140; clear HB; have HO122 := n0_; have HO131 := n1_; have HO134 := n2_; have HO137 := n3_; have HO140 := n4_; have HB := n5_; have BK143 := n6_; have GW143 := n7_; have GE143 := n8_; clear n0_ n1_ n2_ n3_ n4_ n5_ n6_ n7_ n8_; clear hb hbox hg; obtain ⟨hcz74_0, hcz74_1, hcz74_2, hcz74_3, hcz74_4, hcz74_5, hcz74_6, hcz74_7, hcz74_8, hcz74_9, hfz74_0, hfz74_1, hfz74_2, hfz74_3, hfz74_4, hfz74_5, hfz74_6, hfz74_7, hfz74_8, hfz74_9⟩ := cf10 BK143.out; obtain ⟨Ao75, co75, eo75⟩ := Kd.R_slice HO131.out; subst eo75; obtain ⟨Ao76, co76, eo76⟩ := Kd.R_slice HO134.out; subst eo76; obtain ⟨Ao77, co77, eo77⟩ := Kd.R_slice HO137.out; subst eo77; obtain ⟨Ao78, co78, eo78⟩ := Kd.R_slice HO140.out; subst eo78))
  go_ret
  exact ⟨by first | rfl | (simp [errW_none, errW_some] <;> rfl) | (simp [*, errW_none, errW_some] <;> rfl), by repeat (first | (with_reducible first | exact HB.out | apply bwA | apply bwN | apply bw1 | refine bwS ?_ GE143.out) | exact HB.out)⟩
def quarrelref13_Check.l0 : Nat → List Int → Int → Option (Bool)
  | 0, _, _ => none
  | k + 1, x3, x4 => if x4 < (x3.length : Int) then (if 0 ≤ x4 then (if 0 ≤ (wrap64 (x4 + 1)) then (if (wrap64 (x4 + 1)) < (x3.length : Int) then (if (rd x3 x4) < (rd x3 (wrap64 (x4 + 1))) then (some false) else (if 0 ≤ (wrap64 (x4 + 2)) then (if (wrap64 (x4 + 2)) < (x3.length : Int) then (if (rd x3 x4) > (rd x3 (wrap64 (x4 + 2))) then (some false) else (quarrelref13_Check.l0 k x3 (wrap64 (x4 + 3)))) else (none)) else (none))) else (none)) else (none)) else (none)) else (some true)
def quarrelref13_Check.f (k : Nat) (a0_0 : Int) (a0_1 : Int) (a0_2 : Int) (a0_3 : Int) (a0_4 : Int) (a0_5 : Int) : Option (Bool) := quarrelref13_Check.l0 k (([a0_0, 1, 8, a0_1, 1, 6, a0_2, 1, 4096, a0_3, 0, 255, a0_4, 1, 4, a0_5, 1, 64] : List Int)) 0
theorem quarrelref13_Check.mono_l : ∀ k, (∀ y0 y1, LeO (quarrelref13_Check.l0 k y0 y1) (quarrelref13_Check.l0 (k + 1) y0 y1))
  | 0 => fun _ _ r h => by simp [quarrelref13_Check.l0] at h
  | k + 1 => by
    have ih0 := quarrelref13_Check.mono_l k
    · intro y0 y1
      unfold quarrelref13_Check.l0
      repeat' first
      | (with_reducible exact ih0 _ _)
      | (with_reducible exact LeO.refl _)
      | (with_reducible exact LeO.none _)
      | (with_reducible refine LeO.ite ?_ ?_)
      | (with_reducible refine LeO.bind ?_ (fun _ => ?_))
      | exact ih0 _ _
      | exact LeO.none _
      | refine LeO.ite ?_ ?_
      | refine LeO.bind ?_ (fun _ => ?_)
theorem quarrelref13_Check.mono : ∀ a0 a1 a2 a3 a4 a5 k, LeO (quarrelref13_Check.f k a0 a1 a2 a3 a4 a5) (quarrelref13_Check.f (k + 1) a0 a1 a2 a3 a4 a5) := by
  intro a0 a1 a2 a3 a4 a5 k
  have ih0 := quarrelref13_Check.mono_l k
  unfold quarrelref13_Check.f
  repeat' first
      | (with_reducible exact ih0 _ _)
      | (with_reducible exact LeO.refl _)
      | (with_reducible exact LeO.none _)
      | (with_reducible refine LeO.ite ?_ ?_)
      | (with_reducible refine LeO.bind ?_ (fun _ => ?_))
      | exact ih0 _ _
      | exact LeO.none _
      | refine LeO.ite ?_ ?_
      | refine LeO.bind ?_ (fun _ => ?_)
def quarrelref20_signed.f (a0 : Int) : Option (Int) := if (wrap64 (a0)) > 127 then (some (wrap64 ((wrap64 (a0)) - 256))) else (some (wrap64 (a0)))
def quarrelref11_Ok.j0 : Nat → Int → Bool → Int → Int → Int → Option (Bool)
  | 0, _, _, _, _, _ => none
  | k + 1, x1, x12, x157000, x157001, x157002 => if x12 = true then (some false) else (if x157000 = 3 then (if x157001 = 0 then (if x157002 ≥ (-128) then (some (decide (x157002 ≤ 127))) else (some false)) else (some false)) else (if x157000 = 4 then (if x157001 = 0 then (if x157002 ≥ (-128) then (some (decide (x157002 ≤ 127))) else (some false)) else (some false)) else (if x157001 ≥ 0 then (if x157001 < x1 then (some (x157002 == 0)) else (some false)) else (some false))))
def quarrelref11_Ok.f (k : Nat) (a0_0 : Int) (a0_1 : Int) (a0_2 : Int) (a1 : Int) : Option (Bool) := if a0_0 < 1 then (quarrelref11_Ok.j0 k a1 true a0_0 a0_1 a0_2) else (quarrelref11_Ok.j0 k a1 (decide (a0_0 > 5)) a0_0 a0_1 a0_2)
theorem quarrelref11_Ok.mono_l : ∀ k, (∀ y0 y1 y2 y3 y4, LeO (quarrelref11_Ok.j0 k y0 y1 y2 y3 y4) (quarrelref11_Ok.j0 (k + 1) y0 y1 y2 y3 y4))
  | 0 => fun _ _ _ _ _ r h => by simp [quarrelref11_Ok.j0] at h
  | k + 1 => by
    have ih0 := quarrelref11_Ok.mono_l k
    · intro y0 y1 y2 y3 y4
      unfold quarrelref11_Ok.j0
      repeat' first
      | (with_reducible exact ih0 _ _ _ _ _)
      | (with_reducible exact LeO.refl _)
      | (with_reducible exact LeO.none _)
      | (with_reducible refine LeO.ite ?_ ?_)
      | (with_reducible refine LeO.bind ?_ (fun _ => ?_))
      | exact ih0 _ _ _ _ _
      | exact LeO.none _
      | refine LeO.ite ?_ ?_
      | refine LeO.bind ?_ (fun _ => ?_)
theorem quarrelref11_Ok.mono : ∀ a0 a1 a2 a3 k, LeO (quarrelref11_Ok.f k a0 a1 a2 a3) (quarrelref11_Ok.f (k + 1) a0 a1 a2 a3) := by
  intro a0 a1 a2 a3 k
  have ih0 := quarrelref11_Ok.mono_l k
  unfold quarrelref11_Ok.f
  repeat' first
      | (with_reducible exact ih0 _ _ _ _ _)
      | (with_reducible exact LeO.refl _)
      | (with_reducible exact LeO.none _)
      | (with_reducible refine LeO.ite ?_ ?_)
      | (with_reducible refine LeO.bind ?_ (fun _ => ?_))
      | exact ih0 _ _ _ _ _
      | exact LeO.none _
      | refine LeO.ite ?_ ?_
      | refine LeO.bind ?_ (fun _ => ?_)
end Go.Proofs.Ythfkgnkojhocbaa.S
end
section
namespace Go.Proofs.Ythfkgnkojhocbaa.S
open Go.RowKit Go.Proofs.YthfkgnkojhocbaaW.PrintWords Go.Proofs.YthfkgnkojhocbaaW.PrintLast Go.Proofs.YthfkgnkojhocbaaW.PrintMore
attribute [local go_sem] max2_int min2_int max_two min_two max_three min_three max_four min_four
set_option linter.unusedVariables false
set_option linter.unusedSimpArgs false
theorem eqA80 (d : Nat) (w : World) (x0 y0 : Int) (x1 y1 : Int) (x2 y2 : Int) :
    (Op.equalIn (d + 2) 80 (.agg #[.int .i64 x0, .int .i64 x1, .int .i64 x2]) (.agg #[.int .i64 y0, .int .i64 y1, .int .i64 y2])).run Try.prog w = .ok (x0 == y0 && (x1 == y1 && (x2 == y2))) w := by
  refine eqA_of Try.underlying80 (by kernel_rfl) ?_
  refine eqf_cons (by rfl) (by go_simp; rfl) (by go_simp; rfl) (by go_simp) ?_
  refine eqf_cons (by rfl) (by go_simp; rfl) (by go_simp; rfl) (by go_simp) ?_
  exact eqf_last (by rfl) (by go_simp; rfl) (by go_simp; rfl) (by go_simp)
end Go.Proofs.Ythfkgnkojhocbaa.S
end
section
namespace Go.Proofs.Ythfkgnkojhocbaa.S
open Go.RowKit Go.Proofs.YthfkgnkojhocbaaW.PrintWords Go.Proofs.YthfkgnkojhocbaaW.PrintLast Go.Proofs.YthfkgnkojhocbaaW.PrintMore
attribute [local go_sem] max2_int min2_int max_two min_two max_three min_three max_four min_four
set_option linter.unusedVariables false
set_option linter.unusedSimpArgs false
attribute [local go_sem high] eqA80
def quarrelref01_Ints.l0 : Nat → List Int → List Int → Int → Option (Bool)
  | 0, _, _, _ => none
  | k + 1, x0, x1, x5 => if x5 < (x0.length : Int) then (if 0 ≤ x5 then (if x5 < (x1.length : Int) then (if (rd x0 x5) = (rd x1 x5) then (quarrelref01_Ints.l0 k x0 x1 (wrap64 (x5 + 1))) else (some false)) else (none)) else (none)) else (some true)
def quarrelref01_Ints.f (k : Nat) (l0 : List Int) (l1 : List Int) : Option (Bool) := if (l0.length : Int) = (l1.length : Int) then (quarrelref01_Ints.l0 k l0 l1 0) else (some false)
theorem quarrelref01_Ints.mono_l : ∀ k, (∀ y0 y1 y2, LeO (quarrelref01_Ints.l0 k y0 y1 y2) (quarrelref01_Ints.l0 (k + 1) y0 y1 y2))
  | 0 => fun _ _ _ r h => by simp [quarrelref01_Ints.l0] at h
  | k + 1 => by
    have ih0 := quarrelref01_Ints.mono_l k
    · intro y0 y1 y2
      unfold quarrelref01_Ints.l0
      repeat' first
      | (with_reducible exact ih0 _ _ _)
      | (with_reducible exact LeO.refl _)
      | (with_reducible exact LeO.none _)
      | (with_reducible refine LeO.ite ?_ ?_)
      | (with_reducible refine LeO.bind ?_ (fun _ => ?_))
      | exact ih0 _ _ _
      | exact LeO.none _
      | refine LeO.ite ?_ ?_
      | refine LeO.bind ?_ (fun _ => ?_)
theorem quarrelref01_Ints.mono : ∀ a0 a1 k, LeO (quarrelref01_Ints.f k a0 a1) (quarrelref01_Ints.f (k + 1) a0 a1) := by
  intro a0 a1 k
  have ih0 := quarrelref01_Ints.mono_l k
  unfold quarrelref01_Ints.f
  repeat' first
      | (with_reducible exact ih0 _ _ _)
      | (with_reducible exact LeO.refl _)
      | (with_reducible exact LeO.none _)
      | (with_reducible refine LeO.ite ?_ ?_)
      | (with_reducible refine LeO.bind ?_ (fun _ => ?_))
      | exact ih0 _ _ _
      | exact LeO.none _
      | refine LeO.ite ?_ ?_
      | refine LeO.bind ?_ (fun _ => ?_)
set_option maxHeartbeats 8000000 in
set_option maxRecDepth 100000 in
theorem quarrelref01_Ints.calls (k : Nat) (A0 : Option Addr) (c0 : Nat) (l0 : List Int) (A1 : Option Addr) (c1 : Nat) (l1 : List Int) (r : Bool) (w : World) (hr0 : Kd.C (Kd.int .i64) w A0 l0.length l0) (hc0 : l0.length ≤ c0) (hr1 : Kd.C (Kd.int .i64) w A1 l1.length l1) (hc1 : l1.length ≤ c1) (h : quarrelref01_Ints.f k l0 l1 = some r) :
  Calls Try.prog 28 #[.slice A0 l0.length c0, .slice A1 l1.length c1] w fun e w' => e = .returned (.bool r) ∧ Drawn0 w w' := by
 have HR0 := Aside0.mk hr0
 have HC0 := Aside0.mk hc0
 clear hr0 hc0
 have HR1 := Aside0.mk hr1
 have HC1 := Aside0.mk hc1
 clear hr1 hc1
 have H : (if (l0.length : Int) = (l1.length : Int) then (quarrelref01_Ints.l0 k l0 l1 0) else (some false)) = some r := h
 clear h
 by_cases c3 : (l0.length : Int) = (l1.length : Int)
 ·rw [if_pos c3] at H
  have c3b0 : ((l0.length : Int) == (l1.length : Int)) = true := beq_iff_eq.mpr c3
  have c3b1 : ((l0.length : Int) != (l1.length : Int)) = false := bne_eq_false_iff_eq.mpr c3
  have c3b2 : (l0.length == l1.length) = true := by first | simpa using c3 | (simp at c3 ⊢; omega)
  clear c3
  have H' := Aside0.mk H
  clear H
  go_enter Try.func28, Try.ntmps28
  go_wp2
  repeat (go_quiet (fail); try go_wp2)
  go_loopg [5] k (fun kq v5 w' => ∃ (x5_1 : Int), v5 = .int .i64 x5_1 ∧ Aside0 (quarrelref01_Ints.l0 kq l0 l1 x5_1 = some r) ∧ Aside0 (kq ≤ k) ∧ Drawn0 w w')
  case atStart => exact ⟨(0), (by first | rfl | (simp; done) | (simp [*]; done)), H', ⟨Nat.le_refl _⟩, by repeat (first | exact Drawn0.refl _ | apply Drawn0.step)⟩
  case round =>
   clear H'
   try clear c1
   try clear c3
   try clear c3b0
   try clear c3b1
   try clear c3b2
   obtain ⟨x5_1, rfl, HA, HK1, ⟨m1, rfl⟩⟩ := hrel
   cases gk with
   | zero => exact absurd HA.out (by simp [quarrelref01_Ints.l0])
   | succ k1 =>
    have H := HA.out
    clear HA
    simp only [quarrelref01_Ints.l0] at H
    by_cases c4 : x5_1 < (l0.length : Int)
    ·rw [if_pos c4] at H
     have c4b0 : decide (x5_1 < (l0.length : Int)) = true := decide_eq_true c4
     clear c4
     by_cases c5 : 0 ≤ x5_1
     ·rw [if_pos c5] at H
      have c5b0 : decide (0 ≤ x5_1) = true := decide_eq_true c5
      clear c5
      by_cases c6 : x5_1 < (l1.length : Int)
      ·rw [if_pos c6] at H
       have c6b0 : decide (x5_1 < (l1.length : Int)) = true := decide_eq_true c6
       clear c6
       by_cases c7 : (rd l0 x5_1) = (rd l1 x5_1)
       ·rw [if_pos c7] at H
        have c7b0 : ((rd l0 x5_1) == (rd l1 x5_1)) = true := beq_iff_eq.mpr c7
        have c7b1 : ((rd l0 x5_1) != (rd l1 x5_1)) = false := bne_eq_false_iff_eq.mpr c7
        clear c7
        have H' := Aside0.mk H
        clear H
        have p169 : 0 ≤ (x5_1 : Int) := of_decide_eq_true (by first | (with_reducible assumption) | assumption)
        have q169 : x5_1 < (l0.length : Int) := of_decide_eq_true (by first | (with_reducible assumption) | assumption)
        obtain ⟨ad169, e169, hx169_0⟩ := Kd.at_int HR0.out x5_1 p169 q169
        cases e169
        replace p169 := eq_true p169
        replace q169 := eq_true q169
        have p170 : 0 ≤ (x5_1 : Int) := of_decide_eq_true (by first | (with_reducible assumption) | assumption)
        have q170 : x5_1 < (l1.length : Int) := of_decide_eq_true (by first | (with_reducible assumption) | assumption)
        obtain ⟨ad170, e170, hx170_0⟩ := Kd.at_int HR1.out x5_1 p170 q170
        cases e170
        replace p170 := eq_true p170
        replace q170 := eq_true q170
        go_wp2
        repeat (go_quiet (fail); try go_wp2)
        go_roundg k1
        case measure => have := HK1.out; omega
        case rel => exact ⟨(wrap64 (x5_1 + 1)), (by first | rfl | (simp; done) | (simp [*]; done)), H', ⟨by have := HK1.out; omega⟩, by repeat (first | exact Drawn0.refl _ | apply Drawn0.step)⟩
       ·rw [if_neg c7] at H
        have c7b0 : ((rd l0 x5_1) == (rd l1 x5_1)) = false := beq_eq_false_iff_ne.mpr c7
        have c7b1 : ((rd l0 x5_1) != (rd l1 x5_1)) = true := bne_iff_ne.mpr c7
        obtain rfl := Option.some.inj H
        have p169 : 0 ≤ (x5_1 : Int) := of_decide_eq_true (by first | (with_reducible assumption) | assumption)
        have q169 : x5_1 < (l0.length : Int) := of_decide_eq_true (by first | (with_reducible assumption) | assumption)
        obtain ⟨ad169, e169, hx169_0⟩ := Kd.at_int HR0.out x5_1 p169 q169
        cases e169
        replace p169 := eq_true p169
        replace q169 := eq_true q169
        have p170 : 0 ≤ (x5_1 : Int) := of_decide_eq_true (by first | (with_reducible assumption) | assumption)
        have q170 : x5_1 < (l1.length : Int) := of_decide_eq_true (by first | (with_reducible assumption) | assumption)
        obtain ⟨ad170, e170, hx170_0⟩ := Kd.at_int HR1.out x5_1 p170 q170
        cases e170
        replace p170 := eq_true p170
        replace q170 := eq_true q170
        go_wp2
        repeat (go_quiet (fail); try go_wp2)
        go_ret
        exact ⟨by first | rfl | (simp; done) | (simp [*]; done), by repeat (first | exact Drawn0.refl _ | apply Drawn0.step)⟩
      ·rw [if_neg c6] at H
       exact absurd H (by simp)
     ·rw [if_neg c5] at H
      exact absurd H (by simp)
    ·rw [if_neg c4] at H
     have c4b0 : decide (x5_1 < (l0.length : Int)) = false := decide_eq_false c4
     clear c4
     obtain rfl := Option.some.inj H
     go_wp2
     repeat (go_quiet (fail); try go_wp2)
     go_ret
     exact ⟨by first | rfl | (simp; done) | (simp [*]; done), by repeat (first | exact Drawn0.refl _ | apply Drawn0.step)⟩
 ·rw [if_neg c3] at H
  have c3b0 : ((l0.length : Int) == (l1.length : Int)) = false := beq_eq_false_iff_ne.mpr c3
  have c3b1 : ((l0.length : Int) != (l1.length : Int)) = true := bne_iff_ne.mpr c3
  have c3b2 : (l0.length == l1.length) = false := by first | simpa using c3 | (simp at c3 ⊢; omega)
  obtain rfl := Option.some.inj H
  go_enter Try.func28, Try.ntmps28
  go_wp2
  repeat (go_quiet (fail); try go_wp2)
  go_ret
  exact ⟨by first | rfl | (simp; done) | (simp [*]; done), by repeat (first | exact Drawn0.refl _ | apply Drawn0.step)⟩
def quarrelref11_Same.l0 : Nat → List (S80) → List (S80) → Int → Option (Bool)
  | 0, _, _, _ => none
  | k + 1, x0, x1, x5 => if x5 < (x0.length : Int) then (if 0 ≤ x5 then (if x5 < (x1.length : Int) then (if (!(((rd_T80 x0 x5).f0) == ((rd_T80 x1 x5).f0)) || (!(((rd_T80 x0 x5).f1) == ((rd_T80 x1 x5).f1)) || (!(((rd_T80 x0 x5).f2) == ((rd_T80 x1 x5).f2))))) = true then (some false) else (quarrelref11_Same.l0 k x0 x1 (wrap64 (x5 + 1)))) else (none)) else (none)) else (some true)
def quarrelref11_Same.f (k : Nat) (l0 : List (S80)) (l1 : List (S80)) : Option (Bool) := if (l0.length : Int) = (l1.length : Int) then (quarrelref11_Same.l0 k l0 l1 0) else (some false)
theorem quarrelref11_Same.mono_l : ∀ k, (∀ y0 y1 y2, LeO (quarrelref11_Same.l0 k y0 y1 y2) (quarrelref11_Same.l0 (k + 1) y0 y1 y2))
  | 0 => fun _ _ _ r h => by simp [quarrelref11_Same.l0] at h
  | k + 1 => by
    have ih0 := quarrelref11_Same.mono_l k
    · intro y0 y1 y2
      unfold quarrelref11_Same.l0
      repeat' first
      | (with_reducible exact ih0 _ _ _)
      | (with_reducible exact LeO.refl _)
      | (with_reducible exact LeO.none _)
      | (with_reducible refine LeO.ite ?_ ?_)
      | (with_reducible refine LeO.bind ?_ (fun _ => ?_))
      | exact ih0 _ _ _
      | exact LeO.none _
      | refine LeO.ite ?_ ?_
      | refine LeO.bind ?_ (fun _ => ?_)
theorem quarrelref11_Same.mono : ∀ a0 a1 k, LeO (quarrelref11_Same.f k a0 a1) (quarrelref11_Same.f (k + 1) a0 a1) := by
  intro a0 a1 k
  have ih0 := quarrelref11_Same.mono_l k
  unfold quarrelref11_Same.f
  repeat' first
      | (with_reducible exact ih0 _ _ _)
      | (with_reducible exact LeO.refl _)
      | (with_reducible exact LeO.none _)
      | (with_reducible refine LeO.ite ?_ ?_)
      | (with_reducible refine LeO.bind ?_ (fun _ => ?_))
      | exact ih0 _ _ _
      | exact LeO.none _
      | refine LeO.ite ?_ ?_
      | refine LeO.bind ?_ (fun _ => ?_)
set_option maxHeartbeats 8000000 in
set_option maxRecDepth 100000 in
theorem quarrelref11_Same.calls (k : Nat) (A0 : Option Addr) (c0 : Nat) (l0 : List (S80)) (A1 : Option Addr) (c1 : Nat) (l1 : List (S80)) (r : Bool) (w : World) (hr0 : Kd.C k80 w A0 l0.length l0) (hc0 : l0.length ≤ c0) (hr1 : Kd.C k80 w A1 l1.length l1) (hc1 : l1.length ≤ c1) (h : quarrelref11_Same.f k l0 l1 = some r) :
  Calls Try.prog 29 #[.slice A0 l0.length c0, .slice A1 l1.length c1] w fun e w' => e = .returned (.bool r) ∧ Drawn0 w w' := by
 have hu80 := Try.underlying80
 have HR0 := Aside0.mk hr0
 have HC0 := Aside0.mk hc0
 clear hr0 hc0
 have HR1 := Aside0.mk hr1
 have HC1 := Aside0.mk hc1
 clear hr1 hc1
 have H : (if (l0.length : Int) = (l1.length : Int) then (quarrelref11_Same.l0 k l0 l1 0) else (some false)) = some r := h
 clear h
 by_cases c3 : (l0.length : Int) = (l1.length : Int)
 ·rw [if_pos c3] at H
  have c3b0 : ((l0.length : Int) == (l1.length : Int)) = true := beq_iff_eq.mpr c3
  have c3b1 : ((l0.length : Int) != (l1.length : Int)) = false := bne_eq_false_iff_eq.mpr c3
  have c3b2 : (l0.length == l1.length) = true := by first | simpa using c3 | (simp at c3 ⊢; omega)
  clear c3
  have H' := Aside0.mk H
  clear H
  go_enter Try.func29, Try.ntmps29
  go_wp2
  repeat (go_quiet (fail); try go_wp2)
  go_loopg [5] k (fun kq v5 w' => ∃ (x5_1 : Int), v5 = .int .i64 x5_1 ∧ Aside0 (quarrelref11_Same.l0 kq l0 l1 x5_1 = some r) ∧ Aside0 (kq ≤ k) ∧ Drawn0 w w')
  case atStart => exact ⟨(0), (by first | rfl | (simp; done) | (simp [*]; done)), H', ⟨Nat.le_refl _⟩, by repeat (first | exact Drawn0.refl _ | apply Drawn0.step)⟩
  case round =>
   clear H'
   try clear c1
   try clear c3
   try clear c3b0
   try clear c3b1
   try clear c3b2
   obtain ⟨x5_1, rfl, HA, HK1, ⟨m1, rfl⟩⟩ := hrel
   cases gk with
   | zero => exact absurd HA.out (by simp [quarrelref11_Same.l0])
   | succ k1 =>
    have H := HA.out
    clear HA
    simp only [quarrelref11_Same.l0] at H
    by_cases c4 : x5_1 < (l0.length : Int)
    ·rw [if_pos c4] at H
     have c4b0 : decide (x5_1 < (l0.length : Int)) = true := decide_eq_true c4
     clear c4
     by_cases c5 : 0 ≤ x5_1
     ·rw [if_pos c5] at H
      have c5b0 : decide (0 ≤ x5_1) = true := decide_eq_true c5
      clear c5
      by_cases c6 : x5_1 < (l1.length : Int)
      ·rw [if_pos c6] at H
       have c6b0 : decide (x5_1 < (l1.length : Int)) = true := decide_eq_true c6
       clear c6
       by_cases c7 : (!(((rd_T80 l0 x5_1).f0) == ((rd_T80 l1 x5_1).f0)) || (!(((rd_T80 l0 x5_1).f1) == ((rd_T80 l1 x5_1).f1)) || (!(((rd_T80 l0 x5_1).f2) == ((rd_T80 l1 x5_1).f2))))) = true
       ·rw [if_pos c7] at H
        have c7b0 : (!(((rd_T80 l0 x5_1).f0) == ((rd_T80 l1 x5_1).f0)) || (!(((rd_T80 l0 x5_1).f1) == ((rd_T80 l1 x5_1).f1)) || (!(((rd_T80 l0 x5_1).f2) == ((rd_T80 l1 x5_1).f2))))) = true := c7
        clear c7
        obtain rfl := Option.some.inj H
        have p171 : 0 ≤ (x5_1 : Int) := of_decide_eq_true (by first | (with_reducible assumption) | assumption)
        have q171 : x5_1 < (l0.length : Int) := of_decide_eq_true (by first | (with_reducible assumption) | assumption)
        obtain ⟨ad171, e171, hx171_0, hx171_1, hx171_2⟩ := at_T80 HR0.out x5_1 p171 q171
        cases e171
        replace p171 := eq_true p171
        replace q171 := eq_true q171
        have p172 : 0 ≤ (x5_1 : Int) := of_decide_eq_true (by first | (with_reducible assumption) | assumption)
        have q172 : x5_1 < (l1.length : Int) := of_decide_eq_true (by first | (with_reducible assumption) | assumption)
        obtain ⟨ad172, e172, hx172_0, hx172_1, hx172_2⟩ := at_T80 HR1.out x5_1 p172 q172
        cases e172
        replace p172 := eq_true p172
        replace q172 := eq_true q172
        go_wp2
        repeat (go_quiet (fail); try go_wp2)
        go_ret
        exact ⟨by first | rfl | (simp; done) | (simp [*]; done), by repeat (first | exact Drawn0.refl _ | apply Drawn0.step)⟩
       ·rw [if_neg c7] at H
        have c7b0 : (!(((rd_T80 l0 x5_1).f0) == ((rd_T80 l1 x5_1).f0)) || (!(((rd_T80 l0 x5_1).f1) == ((rd_T80 l1 x5_1).f1)) || (!(((rd_T80 l0 x5_1).f2) == ((rd_T80 l1 x5_1).f2))))) = false := by simpa using c7
        clear c7
        have H' := Aside0.mk H
        clear H
        have p171 : 0 ≤ (x5_1 : Int) := of_decide_eq_true (by first | (with_reducible assumption) | assumption)
        have q171 : x5_1 < (l0.length : Int) := of_decide_eq_true (by first | (with_reducible assumption) | assumption)
        obtain ⟨ad171, e171, hx171_0, hx171_1, hx171_2⟩ := at_T80 HR0.out x5_1 p171 q171
        cases e171
        replace p171 := eq_true p171
        replace q171 := eq_true q171
        have p172 : 0 ≤ (x5_1 : Int) := of_decide_eq_true (by first | (with_reducible assumption) | assumption)
        have q172 : x5_1 < (l1.length : Int) := of_decide_eq_true (by first | (with_reducible assumption) | assumption)
        obtain ⟨ad172, e172, hx172_0, hx172_1, hx172_2⟩ := at_T80 HR1.out x5_1 p172 q172
        cases e172
        replace p172 := eq_true p172
        replace q172 := eq_true q172
        go_wp2
        repeat (go_quiet (fail); try go_wp2)
        go_roundg k1
        case measure => have := HK1.out; omega
        case rel => exact ⟨(wrap64 (x5_1 + 1)), (by first | rfl | (simp; done) | (simp [*]; done)), H', ⟨by have := HK1.out; omega⟩, by repeat (first | exact Drawn0.refl _ | apply Drawn0.step)⟩
      ·rw [if_neg c6] at H
       exact absurd H (by simp)
     ·rw [if_neg c5] at H
      exact absurd H (by simp)
    ·rw [if_neg c4] at H
     have c4b0 : decide (x5_1 < (l0.length : Int)) = false := decide_eq_false c4
     clear c4
     obtain rfl := Option.some.inj H
     go_wp2
     repeat (go_quiet (fail); try go_wp2)
     go_ret
     exact ⟨by first | rfl | (simp; done) | (simp [*]; done), by repeat (first | exact Drawn0.refl _ | apply Drawn0.step)⟩
 ·rw [if_neg c3] at H
  have c3b0 : ((l0.length : Int) == (l1.length : Int)) = false := beq_eq_false_iff_ne.mpr c3
  have c3b1 : ((l0.length : Int) != (l1.length : Int)) = true := bne_iff_ne.mpr c3
  have c3b2 : (l0.length == l1.length) = false := by first | simpa using c3 | (simp at c3 ⊢; omega)
  obtain rfl := Option.some.inj H
  go_enter Try.func29, Try.ntmps29
  go_wp2
  repeat (go_quiet (fail); try go_wp2)
  go_ret
  exact ⟨by first | rfl | (simp; done) | (simp [*]; done), by repeat (first | exact Drawn0.refl _ | apply Drawn0.step)⟩
end Go.Proofs.Ythfkgnkojhocbaa.S
end
