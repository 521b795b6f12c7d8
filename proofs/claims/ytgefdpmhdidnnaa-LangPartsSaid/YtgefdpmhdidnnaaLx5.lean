/- Walks: what each Go function of this seat that stands here comes to; conditions stand in each contract. Written by a program of this session. -/
import Derived.Test.YtgefdpmhdidnnaaLx0
import Derived.Test.YtgefdpmhdidnnaaLx3
import Derived.Test.YtgefdpmhdidnnaaLx4
import Derived.WalkSpells
import Derived.BigRegion
import Derived.ChangeAlike
import Derived.Deep.RegionWith
import Derived.ChangeMaps4
import Derived.OwnWalk
namespace Go.Proofs.Ytgefdpmhdidnnaa.L
open Go.RowKit Go.Proofs.YtgefdpmhdidnnaaW.PrintWords Go.Proofs.YtgefdpmhdidnnaaW.PrintLast Go.Proofs.YtgefdpmhdidnnaaW.PrintMore
attribute [local go_sem] max2_int min2_int max_two min_two max_three min_three max_four min_four   -- for this text's walks alone
set_option linter.unusedVariables false
set_option linter.unusedSimpArgs false

-- GIVEN
/-! ### lang_Alone: function 11 -/
-- IMPORT Derived.WalkSpells
-- IMPORT Derived.BigRegion
-- IMPORT Derived.ChangeAlike
-- IMPORT Derived.Deep.RegionWith
-- IMPORT Derived.ChangeMaps4
-- IMPORT Derived.OwnWalk
set_option maxHeartbeats 8000000 in
set_option maxRecDepth 100000 in
theorem slices_Clone.calls (A0 : Option Addr) (c0 : Nat) (l0 : List Int) (w : World) (hr0 : Kd.C (Kd.int .i64) w A0 l0.length l0) (hlim : l0.length < 17592186044416) :
    Calls Try.prog 24 #[.slice A0 l0.length c0] w fun e w' => ∃ v0_ : Value, e = .returned v0_ ∧ Kd.R (Kd.int .i64) 2 w' w.heap.size (fun _ => True) v0_ l0 ∧ Below w.heap.size w w' := by
  have heq := fun (W : World) => Lib.run_eql_slice_nil (P := Try.prog) W 23 2 A0 l0.length c0 0 0 Try.underlying23
  cases A0 with
  | none =>
    have hn : l0 = [] := by
      rcases Nat.eq_zero_or_pos l0.length with h | h
      · exact List.eq_nil_of_length_eq_zero h
      · obtain ⟨ad, h', _⟩ := hr0.2.2 h
        cases h'
    subst hn
    clear hr0 hlim
    simp only [Option.isNone_none, List.length_nil] at heq
    go_enter Try.func24, Try.ntmps24
    go_wp2
    go_ret
    exact ⟨_, rfl, Kd.R_nil _ _ _ _ _, Below.refl _ _⟩
  | some ad =>
    simp only [Option.isNone_some] at heq
    have HR1 := Aside0.mk hr0
    have HL := Aside0.mk hlim
    have HB := Aside0.mk (Below.refl w.heap.size w)
    clear hr0 hlim
    go_enter Try.func24, Try.ntmps24
    go_wp2_with (first | ((with_reducible refine gate_dst (N := 5) rfl ?_); refine Kd.R_lit (Kd.int .i64) _ 2 ?hg (N := 5) ?hd (xs := ([] : List Int)) (inner := []) (ok := fun _ => True) (okp := fun _ => True) ?hr ?hp (fun _ hk => hk) trivial (Below.refl _ _) (Nat.le_refl _) (by simp) ?_; (case hd => rfl); (case hg => rfl); (case hr => first | (go_simp; done) | (go_simp; rfl)); (case hp => exact (Reps.none _ _)); intro v113 w4 ho5 hb hg_ hnew_; clear hg_ hnew_; have n0_ := Aside0.mk (Kd.R_lower ho5 (below_size (by repeat (first | (with_reducible first | exact HB.out | apply below_alloc | apply pw_below_drewN | apply below_drew1) | exact HB.out)))); have n1_ := Aside0.mk (below_step (by repeat (first | (with_reducible first | exact HB.out | apply below_alloc | apply pw_below_drewN | apply below_drew1) | exact HB.out)) hb); clear HB; have HO114 := n0_; have HB := n1_; clear n0_ n1_; clear hb ho5) | ((with_reducible refine gate_builtin (b := .append) (xs := #[.tmp 5, .tmp 6]) rfl ?_); at_builtin; refine Kd.R_append_rows (Kd.int .i64) (w0 := w) w.heap.size rfl (.tmp 5) (.tmp 6) 23 2 (.int .i64 0) 8 rfl Try.underlying23 info2 rfl (by decide) (by omega) v113 [] l0 _ _ _ (fun _ => True) (fun _ => False) rfl rfl ?aO ?aR (fun _ _ h => h) (fun _ h => h.elim) ?aF ?aB ?aS ?aL ?_; (case aR => repeat (first | exact (Kd.C_below HR1.out HB.out) | (with_reducible refine Kd.C_alloc ?_ _) | (with_reducible refine Kd.C_drewN ?_ _) | (with_reducible refine Kd.C_drew ?_))); (case aB => exact (by repeat (first | (with_reducible first | exact HB.out | apply below_alloc | apply pw_below_drewN | apply below_drew1) | exact HB.out))); (case aF => exact (fun _ _ => trivial)); (case aO => exact (by (with_reducible repeat (first | apply Kd.R_alloc | apply Kd.R_drewN | apply Kd.R_drew)); exact HO114.out)); (case aS => exact (below_size (by repeat (first | (with_reducible first | exact HB.out | apply below_alloc | apply pw_below_drewN | apply below_drew1) | exact HB.out)))); (case aL => have := HL.out; simp only [List.length_nil]; omega); intro v116 w6 ho hb hg hat; have n0_ := Aside0.mk (hb); have n1_ := Aside0.mk (ho); clear HB; clear HO114; have HB := n0_; have HO117 := n1_; clear n0_ n1_; clear ho hb hg hat))
    go_ret
    exact ⟨_, rfl, by simpa using HO117.out, HB.out⟩

def aggOf (o : S33) : Value := .agg #[.int .i64 o.f0, .int .i64 o.f1, .int .i64 o.f2]


set_option maxHeartbeats 4000000 in
theorem solo_read (g gv n cap : Nat) (sum x f0 f1 f2 : Int) (w : World)
    (hg : w.heap[g]? = some (.cells #[.slice (some ⟨gv, 0, none⟩) n cap, .int .i64 sum] 50 (0, 0))) (h0 : 0 ≤ f1) (h1 : f1 < n)
    (hx : w.cell? ⟨gv, f1.toNat, none⟩ = some (.int .i64 x)) :
    Calls Try.prog 25 #[.pointer (some ⟨g, 0, none⟩), .agg #[.int .i64 f0, .int .i64 f1, .int .i64 f2]] w fun e w' =>
      e = .returned (.tuple #[]) ∧ w' = ((w.setCell ⟨g, 1, none⟩ (.int .i64 x)).alloc (.cells #[.int .i64 f0, .int .i64 f1, .int .i64 f2] 33)).drew := by
  have hu33 := Try.underlying33
  have hu50 := Try.underlying50
  have c0 : w.cell? ⟨g, 0, none⟩ = some (.slice (some ⟨gv, 0, none⟩) n cap) := (blk_cell hg 0).trans rfl
  have c1 : w.cell? ⟨g, 1, none⟩ = some (.int .i64 sum) := (blk_cell hg 1).trans rfl
  have z0 := blk_frozen hg 0
  have z1 := blk_frozen hg 1
  have gl := blk_lt hg
  have gn : g ≠ w.heap.size := by omega
  have vl := World.block_lt_of_cell? w _ hx
  have vn : gv ≠ w.heap.size := by simp at vl; omega
  clear hg
  go_enter Try.func25, Try.ntmps25
  go_wp2
  go_region
  all_goals go_end0
  exact ⟨rfl, rfl⟩

set_option maxHeartbeats 4000000 in
theorem solo_write (g gv n cap : Nat) (sum x f0 f1 f2 : Int) (w : World)
    (hg : w.heap[g]? = some (.cells #[.slice (some ⟨gv, 0, none⟩) n cap, .int .i64 sum] 50 (0, 0))) (h0 : 0 ≤ f1) (h1 : f1 < n)
    (hx : w.cell? ⟨gv, f1.toNat, none⟩ = some (.int .i64 x)) (hz : w.frozen? ⟨gv, f1.toNat, none⟩ = false) :
    Calls Try.prog 26 #[.pointer (some ⟨g, 0, none⟩), .agg #[.int .i64 f0, .int .i64 f1, .int .i64 f2]] w fun e w' =>
      e = .returned (.tuple #[]) ∧ w' = ((w.setCell ⟨gv, f1.toNat, none⟩ (.int .i64 sum)).alloc (.cells #[.int .i64 f0, .int .i64 f1, .int .i64 f2] 33)).drew := by
  have hu33 := Try.underlying33
  have hu50 := Try.underlying50
  have c0 : w.cell? ⟨g, 0, none⟩ = some (.slice (some ⟨gv, 0, none⟩) n cap) := (blk_cell hg 0).trans rfl
  have c1 : w.cell? ⟨g, 1, none⟩ = some (.int .i64 sum) := (blk_cell hg 1).trans rfl
  have z0 := blk_frozen hg 0
  have z1 := blk_frozen hg 1
  have gl := blk_lt hg
  have gn : g ≠ w.heap.size := by omega
  have vl := World.block_lt_of_cell? w _ hx
  have vn : gv ≠ w.heap.size := by simp at vl; omega
  clear hg
  go_enter Try.func26, Try.ntmps26
  go_wp2
  go_region
  all_goals go_end0
  exact ⟨rfl, rfl⟩

def sumP (f0 f2 s : Int) : Int := if f0 = 3 then f2 else if f0 = 4 then wrap64 (s + f2) else s
theorem lang_Sum_f (f0 f1 f2 s : Int) : lang_Sum.f f0 f1 f2 s = some (sumP f0 f2 s) := by
  unfold lang_Sum.f sumP
  split
  · rfl
  · split <;> rfl

/-- What a call that only makes memory leaves, with one store into an elder block. -/
def After (w w' : World) (a : Addr) (u : Value) : Prop := ∃ w1, Below w.heap.size w w1 ∧ w' = w1.setCell a u

set_option maxHeartbeats 4000000 in
theorem solo_reckon (g : Nat) (v : Value) (sum f0 f1 f2 : Int) (w : World)
    (hg : w.heap[g]? = some (.cells #[v, .int .i64 sum] 50 (0, 0))) :
    Calls Try.prog 27 #[.pointer (some ⟨g, 0, none⟩), .agg #[.int .i64 f0, .int .i64 f1, .int .i64 f2]] w fun e w' =>
      e = .returned (.tuple #[]) ∧ After w w' ⟨g, 1, none⟩ (.int .i64 (sumP f0 f2 sum)) := by
  have hu33 := Try.underlying33
  have hu50 := Try.underlying50
  have c1 : w.cell? ⟨g, 1, none⟩ = some (.int .i64 sum) := (blk_cell hg 1).trans rfl
  have z1 := blk_frozen hg 1
  have gl := blk_lt hg
  have gn : g ≠ w.heap.size := by omega
  have H := fun W => lang_Sum.calls f0 f1 f2 sum _ W (lang_Sum_f f0 f1 f2 sum)
  generalize sumP f0 f2 sum = s at H ⊢
  go_enter Try.func27, Try.ntmps27
  go_wp2
  go_region_with (go_at_call 18; refine (H _).mono ?_; rintro e w' ⟨rfl, hb'⟩; have hq1 : w'.cell? ⟨g, 1, none⟩ = some (.int .i64 sum) := (hb'.cell (p := ⟨g, 1, none⟩) (by simp; omega)).trans (by go_simp); have hq2 : w'.frozen? ⟨g, 1, none⟩ = false := (hb'.frozen (p := ⟨g, 1, none⟩) (by simp; omega)).trans (by go_simp))
  all_goals go_end0
  all_goals exact ⟨rfl, _, (((Below.refl _ w).alloc (Nat.le_refl _) _).trans ((below_drew (Below.refl _ _)).trans (hb'.mono (by simp)))), rfl⟩

/-! A map with whole numbers as keys: a new entry; a look-up. -/
section
variable {P : Program} (w : World)
theorem run_ck (k : TypeId) (hk : P.underlying k = some (.int .i64)) (key : Int) (b : Bool) (n : Nat) : (Instr.checkKey b (n + 1) k (.int .i64 key)).run P w = .ok () w := by
  simp [Instr.checkKey, run_underlying hk]
theorem run_mapNew (t k e : TypeId) (ht : P.underlying t = some (.map k e)) (hk : P.underlying k = some (.int .i64)) (gm : Nat) (es : Array MapEntry) (clock : Nat)
    (hh : w.heap[gm]? = some (.map es clock)) (key : Int) (val : Value) (hf : Instr.findNow (.int .i64) (.int .i64 key) es.toList 0 = some none) :
    (Instr.mapUpdate t (.map (some gm)) (.int .i64 key) val).run P w = .ok () (Go.ChangeMaps.setBlock w gm (.map (es.push ⟨.int .i64 key, val, clock⟩) (clock + 1))) := by
  have hc : (Instr.checkKey false 10000 k (.int .i64 key)).run P w = .ok () w := run_ck w k hk key _ 9999
  simp [Instr.mapUpdate, run_underlying ht, hh, hc, Instr.findKey, run_underlying hk, hf, getObj, setObj, Sem.run, Go.ChangeMaps.setBlock]
theorem run_mapLook (t k e : TypeId) (ht : P.underlying t = some (.map k e)) (hk : P.underlying k = some (.int .i64)) (gm : Nat) (es : Array MapEntry) (clock : Nat)
    (hh : w.heap[gm]? = some (.map es clock)) (key : Int) (i : Nat) (v : Value) (hf : Instr.findNow (.int .i64) (.int .i64 key) es.toList 0 = some (some (i, v))) :
    (Instr.lookup t (.map (some gm)) (.int .i64 key) false).run P w = .ok v w := by
  have hc : (Instr.checkKey es.isEmpty 10000 k (.int .i64 key)).run P w = .ok () w := run_ck w k hk key _ 9999
  simp [Instr.lookup, run_underlying ht, hh, hc, Instr.findKey, run_underlying hk, hf, getObj, Sem.run]
theorem run_mapLookNone (t k e : TypeId) (ht : P.underlying t = some (.map k e)) (hk : P.underlying k = some (.int .i64)) (gm : Nat) (es : Array MapEntry) (clock : Nat)
    (hh : w.heap[gm]? = some (.map es clock)) (key : Int) (z : Value) (hz : (zeroValue e).run P w = .ok z w) (hf : Instr.findNow (.int .i64) (.int .i64 key) es.toList 0 = some none) :
    (Instr.lookup t (.map (some gm)) (.int .i64 key) false).run P w = .ok z w := by
  have hc : (Instr.checkKey es.isEmpty 10000 k (.int .i64 key)).run P w = .ok () w := run_ck w k hk key _ 9999
  simp [Instr.lookup, run_underlying ht, hh, hc, Instr.findKey, run_underlying hk, hf, hz, getObj, Sem.run]
end
theorem setBlock_grown (w : World) (g : Nat) (o : Obj) : w.grownBy (Go.ChangeMaps.setBlock w g o) (some g) :=
  ⟨rfl, rfl, rfl, by simp [Go.ChangeMaps.setBlock], fun i _ hne => by
    simp only [Go.ChangeMaps.setBlock]
    rw [Array.getElem?_setIfInBounds_ne]
    exact fun h => hne (by rw [h])⟩
theorem setBlock_self (w : World) (g : Nat) (o : Obj) (h : g < w.heap.size) : (Go.ChangeMaps.setBlock w g o).heap[g]? = some o := by
  simp [Go.ChangeMaps.setBlock, h]

section
variable {P : Program} {w : World} {ops : Array Oper} {rest : List Oper} {o : Oper} {a : Act} {Q : Exit → Act → World → Prop}
/-- A new entry, as an event: the world behind it is a letter. -/
theorem wpList_mapNew (hg : o.guard = none) (m x v : Operand) (t k e : TypeId) (hop : o.op = Op.insert t m x v) (ht : P.underlying t = some (.map k e)) (hk : P.underlying k = some (.int .i64))
    (gm : Nat) (es : Array MapEntry) (clock : Nat) (hm : a.eval m = .map (some gm)) (key : Int) (hx : a.eval x = .int .i64 key) (val : Value) (hv : a.eval v = val)
    (hf : Instr.findNow (.int .i64) (.int .i64 key) es.toList 0 = some none) (hh : w.heap[gm]? = some (.map es clock))
    (hK : ∀ w', w'.heap[gm]? = some (.map (es.push ⟨.int .i64 key, val, clock⟩) (clock + 1)) → w.grownBy w' (some gm) → wpList P ops Q rest (a.put o.dst undef) w') :
    wpList P ops Q (o :: rest) a w := by
  refine wpList_plain hg fun K' hK' => ?_
  have hrun := run_mapNew (P := P) w t k e ht hk gm es clock hh key val hf
  unfold Oper.wp
  simp [execOp, hop, hm, hx, hv, hrun, Result.andThen]
  exact hK' _ _ (hK _ (setBlock_self w gm _ (blk_lt hh)) (setBlock_grown w gm _))
theorem wpList_mapLook (hg : o.guard = none) (m x : Operand) (t : TypeId) (hop : o.op = Op.lookup t m x false) (gm : Nat) (key : Value) (v : Value)
    (hm : a.eval m = .map (some gm)) (hx : a.eval x = key) (hrun : (Instr.lookup t (.map (some gm)) key false).run P w = .ok v w)
    (hK : wpList P ops Q rest (a.put o.dst v) w) : wpList P ops Q (o :: rest) a w := by
  refine wpList_plain hg fun K' hK' => ?_
  unfold Oper.wp
  simp [execOp, hop, hm, hx, hrun, Result.andThen]
  exact hK' _ _ hK
end

/-! The state of a transaction that is done alone. -/
def E1 (g : Nat) : Array MapEntry := #[⟨.int .i64 1, .func (.func 25) #[.pointer (some ⟨g, 0, none⟩)] #[], 0⟩]
def E2 (g : Nat) : Array MapEntry := (E1 g).push ⟨.int .i64 2, .func (.func 26) #[.pointer (some ⟨g, 0, none⟩)] #[], 1⟩
def E3 (g : Nat) : Array MapEntry := (E2 g).push ⟨.int .i64 3, .func (.func 27) #[.pointer (some ⟨g, 0, none⟩)] #[], 2⟩
def E4 (g : Nat) : Array MapEntry := (E3 g).push ⟨.int .i64 4, .func (.func 27) #[.pointer (some ⟨g, 0, none⟩)] #[], 3⟩

structure Solo (w W : World) (g gm : Nat) (v : Value) (vs : List Int) (s : Int) : Prop where
  blk : W.heap[g]? = some (.cells #[v, .int .i64 s] 50 (0, 0))
  map : W.heap[gm]? = some (.map (E4 g) 4)
  row : Kd.R (Kd.int .i64) 2 W w.heap.size (fun _ => True) v vs
  bel : Below w.heap.size w W
  ge : w.heap.size ≤ g

section
variable {w W W1 : World} {g gm : Nat} {v : Value} {vs : List Int} {s : Int}
theorem Solo.below (h : Solo w W g gm v vs s) (hb : Below W.heap.size W W1) : Solo w W1 g gm v vs s :=
  ⟨blk_below h.blk hb, blk_below h.map hb, Kd.R_below h.row hb, below_step h.bel hb, h.ge⟩
theorem Solo.sum (h : Solo w W g gm v vs s) (x : Int) : Solo w (W.setCell ⟨g, 1, none⟩ (.int .i64 x)) g gm v vs x :=
  have hne : gm ≠ g := by
    rintro rfl
    have h2 := h.map
    rw [h.blk] at h2
    cases h2
  ⟨blk_set h.blk 1 _, (Below.heap_setCell W ⟨g, 1, none⟩ _ gm hne).trans h.map, Kd.R_set h.row h.blk (by decide) 1 _, below_set h.bel h.ge, h.ge⟩
theorem Solo.val (h : Solo w W g gm v vs s) {gv cap : Nat} (hv : v = .slice (some ⟨gv, 0, none⟩) vs.length cap) (i : Int) (x : Int) (_h0 : 0 ≤ i) (h1 : i < vs.length) :
    Solo w (W.setCell ⟨gv, i.toNat, none⟩ (.int .i64 x)) g gm v (vs.set i.toNat x) s := by
  have hne : some g ≠ v.ownBlock := Kd.R_ne h.row h.blk (by decide)
  obtain ⟨gv', cap', e, hge, hlt, cells, hc⟩ := Kd.R_form h.row (by omega)
  rw [hv] at e
  injection e with e1 _ _
  injection e1 with e1
  injection e1 with e1
  subst e1
  have hgv : gv ≠ g := fun e => hne (by rw [hv, e]; rfl)
  have hgm : gm ≠ gv := by
    rintro rfl
    have h2 := h.map
    rw [hc] at h2
    cases h2
  refine ⟨blk_far h.blk (fun e => hgv e.symm) _, by rw [Below.heap_setCell _ _ _ _ hgm]; exact h.map, ?_, below_set h.bel hge, h.ge⟩
  have := h.row
  rw [hv] at this ⊢
  exact (Kd.R_put this i x).1

theorem Solo.read_ (h : Solo w W g gm v vs s) (f0 f1 f2 : Int) (h0 : 0 ≤ f1) (h1 : f1 < vs.length) :
    Calls Try.prog 25 #[.pointer (some ⟨g, 0, none⟩), .agg #[.int .i64 f0, .int .i64 f1, .int .i64 f2]] W fun e W' => e = .returned (.tuple #[]) ∧ Solo w W' g gm v vs (rd vs f1) := by
  obtain ⟨gv, cap, e, hge, hlt, cells, hc⟩ := Kd.R_form h.row (by omega)
  have hr := h.row
  rw [e] at hr
  obtain ⟨hx, hz⟩ := Kd.R_cell (0 : Int) hr f1 h0 h1
  have hb := h.blk
  rw [e] at hb
  refine (solo_read g gv vs.length cap s (rd vs f1) f0 f1 f2 W hb h0 h1 hx).mono ?_
  rintro e' w' ⟨rfl, rfl⟩
  exact ⟨rfl, (h.sum _).below ((Below.refl _ _).alloc (Nat.le_refl _) _).drew⟩
theorem Solo.write_ (h : Solo w W g gm v vs s) (f0 f1 f2 : Int) (h0 : 0 ≤ f1) (h1 : f1 < vs.length) :
    Calls Try.prog 26 #[.pointer (some ⟨g, 0, none⟩), .agg #[.int .i64 f0, .int .i64 f1, .int .i64 f2]] W fun e W' => e = .returned (.tuple #[]) ∧ Solo w W' g gm v (vs.set f1.toNat s) s := by
  obtain ⟨gv, cap, e, hge, hlt, cells, hc⟩ := Kd.R_form h.row (by omega)
  have hr := h.row
  rw [e] at hr
  obtain ⟨hx, hz⟩ := Kd.R_cell (0 : Int) hr f1 h0 h1
  have hb := h.blk
  rw [e] at hb
  refine (solo_write g gv vs.length cap s (rdOf 0 vs f1) f0 f1 f2 W hb h0 h1 hx hz).mono ?_
  rintro e' w' ⟨rfl, rfl⟩
  exact ⟨rfl, (h.val e f1 s h0 h1).below ((Below.refl _ _).alloc (Nat.le_refl _) _).drew⟩
theorem Solo.reckon_ (h : Solo w W g gm v vs s) (f0 f1 f2 : Int) :
    Calls Try.prog 27 #[.pointer (some ⟨g, 0, none⟩), .agg #[.int .i64 f0, .int .i64 f1, .int .i64 f2]] W fun e W' => e = .returned (.tuple #[]) ∧ Solo w W' g gm v vs (sumP f0 f2 s) := by
  refine (solo_reckon g v s f0 f1 f2 W h.blk).mono ?_
  rintro e' w' ⟨rfl, w1, hb, rfl⟩
  exact ⟨rfl, (h.below hb).sum _⟩
end

def rightB (l0 : List S33) (n : Int) : Bool := decide (1 ≤ l0.length) && decide (l0.length ≤ 8) && l0.all (okB · n)
def stepA (p : List Int × Int) (o : S33) : List Int × Int :=
  if o.f0 = 1 then (p.1, rd p.1 o.f1) else if o.f0 = 2 then (p.1.set o.f1.toNat p.2, p.2) else (p.1, sumP o.f0 o.f2 p.2)
def foldA (l : List S33) (p : List Int × Int) : List Int × Int := l.foldl stepA p
def lang_Alone.f (l0 : List (S33)) (l1 : List Int) : Option (List Int × Int) :=
  if l1.length < 17592186044416 then (if rightB l0 (l1.length : Int) = true then some ((foldA l0 (l1, 0)).1, 0) else some ([], 3)) else none

theorem foldA_len (l : List S33) : ∀ p : List Int × Int, (foldA l p).1.length = p.1.length := by
  induction l with
  | nil => intro p; rfl
  | cons o l ih =>
    intro p
    show (foldA l (stepA p o)).1.length = _
    rw [ih]
    unfold stepA
    split
    · rfl
    · split <;> simp
theorem foldA_snoc (l : List S33) (k : Nat) (hk : k < l.length) (p : List Int × Int) : foldA (l.take (k + 1)) p = stepA (foldA (l.take k) p) l[k] := by
  unfold foldA
  rw [List.take_succ_eq_append_getElem hk, List.foldl_append]
  rfl
theorem okB_range (o : S33) (n : Int) (h : okB o n = true) (h1 : o.f0 = 1 ∨ o.f0 = 2) : 0 ≤ o.f1 ∧ o.f1 < n := by
  unfold okB at h
  rw [if_pos (by omega)] at h
  simp at h
  exact ⟨h.1.1, h.1.2⟩
theorem okB_kind (o : S33) (n : Int) (h : okB o n = true) : o.f0 = 1 ∨ o.f0 = 2 ∨ o.f0 = 3 ∨ o.f0 = 4 ∨ o.f0 = 5 := by
  unfold okB at h
  split at h
  · omega
  · split at h
    · omega
    · cases h

theorem findE (g : Nat) (k : Int) : Instr.findNow (.int .i64) (.int .i64 k) (E4 g).toList 0 =
    (if k = 1 then some (some (0, .func (.func 25) #[.pointer (some ⟨g, 0, none⟩)] #[])) else if k = 2 then some (some (1, .func (.func 26) #[.pointer (some ⟨g, 0, none⟩)] #[]))
      else if k = 3 then some (some (2, .func (.func 27) #[.pointer (some ⟨g, 0, none⟩)] #[])) else if k = 4 then some (some (3, .func (.func 27) #[.pointer (some ⟨g, 0, none⟩)] #[])) else some none) := by
  by_cases h1 : k = 1
  · subst h1; rfl
  by_cases h2 : k = 2
  · subst h2; rfl
  by_cases h3 : k = 3
  · subst h3; rfl
  by_cases h4 : k = 4
  · subst h4; rfl
  have e1 : (k == 1) = false := by simp [h1]
  have e2 : (k == 2) = false := by simp [h2]
  have e3 : (k == 3) = false := by simp [h3]
  have e4 : (k == 4) = false := by simp [h4]
  simp [h1, h2, h3, h4, E4, E3, E2, E1, Instr.findNow, Instr.sameNow, e1, e2, e3, e4]

theorem neq_func (i : Nat) (p : Value) (W : World) : (binOp .neq 51 (.func (.func i) #[p] #[]) .nilFunc).run Try.prog W = .ok (.bool true) W := by kernel_rfl
theorem neq_nil (W : World) : (binOp .neq 51 .nilFunc .nilFunc).run Try.prog W = .ok (.bool false) W := by kernel_rfl
theorem zero51 (W : World) : (zeroValue 51).run Try.prog W = .ok .nilFunc W := by kernel_rfl

theorem map_new (w : World) (o : Obj) : ((w.alloc o).alloc (.map #[] 0)).heap[w.heap.size + 1]? = some (.map #[] 0) := by
  have h := heap_alloc_new (w.alloc o) (.map #[] 0)
  have e : (w.alloc o).heap.size = w.heap.size + 1 := by simp
  rw [e] at h
  exact h
theorem solo_start {w w1 w2 w3 w4 w5 w6 : World} {l1 : List Int} {v : Value} (hb1 : Below w.heap.size w w1) (hb2 : Below w1.heap.size w1 w2) (hv : Kd.R (Kd.int .i64) 2 w2 w1.heap.size (fun _ => True) v l1)
    (hg3 : ((w2.alloc (.cells #[v, .int .i64 0] 50)).alloc (.map #[] 0)).grownBy w3 (some (w2.heap.size + 1))) (hg4 : w3.grownBy w4 (some (w2.heap.size + 1)))
    (hg5 : w4.grownBy w5 (some (w2.heap.size + 1))) (hg6 : w5.grownBy w6 (some (w2.heap.size + 1))) (hm : w6.heap[w2.heap.size + 1]? = some (.map (E4 w2.heap.size) 4)) :
    Solo w w6 w2.heap.size (w2.heap.size + 1) v l1 0 := by
  have hb12 := below_step hb1 hb2
  have s0 : w2.heap.size ≤ ((w2.alloc (.cells #[v, .int .i64 0] 50)).alloc (.map #[] 0)).heap.size := by simp; omega
  have b0 : Below w2.heap.size w2 ((w2.alloc (.cells #[v, .int .i64 0] 50)).alloc (.map #[] 0)) := ((Below.refl _ _).alloc (Nat.le_refl _) _).alloc (by simp) _
  have hr : ∀ k, some (w2.heap.size + 1) = some k → w2.heap.size ≤ k := fun k hk => by injection hk with hk; omega
  have b3 := b0.grown hg3 b0.size hr
  have b4 := b3.grown hg4 b3.size hr
  have b5 := b4.grown hg5 b4.size hr
  have b6 := b5.grown hg6 b5.size hr
  have ne : some w2.heap.size ≠ some (w2.heap.size + 1) := fun h => by injection h with h; omega
  have k0 : ((w2.alloc (.cells #[v, .int .i64 0] 50)).alloc (.map #[] 0)).heap[w2.heap.size]? = some (.cells #[v, .int .i64 0] 50 (0, 0)) := blk_alloc (blk_new w2 _) _
  exact ⟨blk_grown (blk_grown (blk_grown (blk_grown k0 hg3 ne) hg4 ne) hg5 ne) hg6 ne, hm, Kd.R_lower (Kd.R_below hv b6) hb1.size, below_step hb12 b6, hb12.size⟩

set_option maxHeartbeats 8000000 in
set_option maxRecDepth 100000 in
theorem lang_Alone.calls (A0 : Option Addr) (c0 : Nat) (l0 : List (S33)) (A1 : Option Addr) (c1 : Nat) (l1 : List Int) (r1 : List Int) (r2 : Int) (w : World) (hr0 : Kd.C k33 w A0 l0.length l0) (hc0 : l0.length ≤ c0) (hr1 : Kd.C (Kd.int .i64) w A1 l1.length l1) (_hc1 : l1.length ≤ c1) (h : lang_Alone.f l0 l1 = some (r1, r2)) :
    Calls Try.prog 11 #[.slice A0 l0.length c0, .slice A1 l1.length c1] w fun e w' => ∃ v0_ : Value, e = .returned (.tuple #[v0_, .int .i64 r2]) ∧ Kd.R (Kd.int .i64) 2 w' w.heap.size (fun _ => True) v0_ r1 ∧ Below w.heap.size w w' := by
  have hu33 := Try.underlying33
  have hu50 := Try.underlying50
  have hmm := @run_makeMap Try.prog
  unfold lang_Alone.f at h
  by_cases hlim : l1.length < 17592186044416
  · rw [if_pos hlim] at h
    cases hb : rightB l0 (l1.length : Int) with
    | false =>
      rw [hb] at h
      simp at h
      obtain ⟨rfl, rfl⟩ := h
      have HR := lang_Right.calls A0 c0 l0 (l1.length : Int) false w hr0 hc0 (congrArg some hb)
      clear hb hr0 hc0 hr1 hlim
      go_enter Try.func11, Try.ntmps11
      go_wp2_with (go_at_call 17; refine HR.mono ?_; rintro e w1 ⟨rfl, hb1⟩)
      go_ret2
      exact ⟨_, rfl, Kd.R_nil _ _ _ _ _, hb1⟩
    | true =>
      have H := lang_Right.calls A0 c0 l0 (l1.length : Int) true w hr0 hc0 (congrArg some hb)
      have HB0 := Aside0.mk hb
      have HR0 := Aside0.mk hr0
      have HR1 := Aside0.mk hr1
      have HL := Aside0.mk hlim
      rw [hb] at h
      simp at h
      have HE := Aside0.mk h
      clear h hb hr0 hr1 hlim
      go_enter Try.func11, Try.ntmps11
      go_wp2_with (first
        | (go_at_call 17; refine H.mono ?_; rintro e w1 ⟨rfl, hb1⟩)
        | (go_at_call 24; refine (slices_Clone.calls A1 c1 l1 _ (Kd.C_below HR1.out hb1) HL.out).mono ?_; rintro e w2 ⟨v, rfl, hv, hb2⟩; obtain ⟨Av, cv, rfl⟩ := Kd.R_slice hv)
        | ((with_reducible refine gate_ (.insert 52 (.tmp 20) (.const (.int .i64 1)) (.tmp 22)) rfl ?_); refine wpList_mapNew rfl (.tmp 20) _ _ 52 3 51 rfl Try.underlying52 Try.underlying3 (w2.heap.size + 1) #[] 0 rfl 1 rfl _ rfl rfl (map_new w2 _) ?_; intro w3 hm3 hg3)
        | ((with_reducible refine gate_ (.insert 52 (.tmp 20) (.const (.int .i64 2)) (.tmp 24)) rfl ?_); refine wpList_mapNew rfl (.tmp 20) _ _ 52 3 51 rfl Try.underlying52 Try.underlying3 (w2.heap.size + 1) (E1 w2.heap.size) 1 rfl 2 rfl _ rfl rfl hm3 ?_; intro w4 hm4 hg4)
        | ((with_reducible refine gate_ (.insert 52 (.tmp 20) (.const (.int .i64 3)) (.tmp 26)) rfl ?_); refine wpList_mapNew rfl (.tmp 20) _ _ 52 3 51 rfl Try.underlying52 Try.underlying3 (w2.heap.size + 1) (E2 w2.heap.size) 2 rfl 3 rfl _ rfl rfl hm4 ?_; intro w5 hm5 hg5)
        | ((with_reducible refine gate_ (.insert 52 (.tmp 20) (.const (.int .i64 4)) (.tmp 28)) rfl ?_); refine wpList_mapNew rfl (.tmp 20) _ _ 52 3 51 rfl Try.underlying52 Try.underlying3 (w2.heap.size + 1) (E3 w2.heap.size) 3 rfl 4 rfl _ rfl rfl hm5 ?_; intro w6 hm6 hg6))
      have HS0 := Aside0.mk (solo_start hb1 hb2 hv hg3 hg4 hg5 hg6 hm6)
      clear hb1 hb2 hv hg3 hg4 hg5 hg6 hm3 hm4 hm5 hm6 H HL HR1 hmm
      generalize w2.heap.size = g at HS0 ⊢
      go_loopg [32] l0.length (fun gg s32 W => ∃ kk : Nat, kk ≤ l0.length ∧ l0.length - kk ≤ gg ∧ s32 = .int .i64 kk ∧ Aside0 (Solo w W g (g + 1) (.slice Av l1.length cv) (foldA (l0.take kk) (l1, 0)).1 (foldA (l0.take kk) (l1, 0)).2))
      case atStart => exact ⟨0, Nat.zero_le _, by omega, rfl, HS0⟩
      case round =>
        clear HS0
        obtain ⟨kk, hkk, hg, rfl, HS⟩ := hrel
        by_cases hlt : kk < l0.length
        · have hltz : (kk : Int) < (l0.length : Int) := by omega
          have hmax : l0.length ≤ 9223372036854775807 := Kd.C_max HR0.out
          obtain ⟨ad, ea, h0, h1, h2⟩ := at_T33 HR0.out (kk : Int) (by omega) (by omega)
          subst ea
          replace h0 := (HS.out.bel.cell (World.block_lt_of_cell? w _ h0)).trans h0
          replace h1 := (HS.out.bel.cell (World.block_lt_of_cell? w _ h1)).trans h1
          replace h2 := (HS.out.bel.cell (World.block_lt_of_cell? w _ h2)).trans h2
          have hrd : rd_T33 l0 (kk : Int) = l0[kk] := by simp [rd_T33, hlt]
          rw [hrd] at h0 h1 h2
          simp only [Int.toNat_natCast] at h0 h1 h2
          have hok : okB l0[kk] (l1.length : Int) = true := by
            have := HB0.out
            simp only [rightB, Bool.and_eq_true, List.all_eq_true] at this
            exact this.2 _ (List.getElem_mem hlt)
          have hfo := foldA_snoc l0 kk hlt (l1, 0)
          have hfl := foldA_len (l0.take kk) (l1, 0)
          have hkd := okB_kind _ _ hok
          have hrg := okB_range _ _ hok
          clear hrd hok
          generalize foldA (l0.take kk) (l1, 0) = p at HS hfo hfl
          obtain ⟨vs, s⟩ := p
          generalize l0[kk] = x at h0 h1 h2 hfo hkd hrg
          obtain ⟨f0, f1, f2⟩ := x
          simp only at h0 h1 h2 hkd hrg hfl HS
          have HFO := Aside0.mk hfo
          clear hfo
          rw [← hfl] at hrg
          have HFL := Aside0.mk hfl
          clear hfl
          have hnq := neq_func
          have hnn := neq_nil
          rcases hkd with rfl | rfl | rfl | rfl | rfl
          · obtain ⟨hf0, hf1⟩ := hrg (.inl rfl)
            go_wp2_with (first
              | ((with_reducible refine gate_ (.lookup 52 (.tmp 36) (.tmp 38) false) rfl ?_); refine wpList_mapLook rfl _ _ 52 rfl (g + 1) (.int .i64 1) (.func (.func 25) #[.pointer (some ⟨g, 0, none⟩)] #[]) rfl rfl (run_mapLook _ 52 3 51 Try.underlying52 Try.underlying3 (g + 1) (E4 g) 4 (blk_alloc HS.out.map _) 1 0 _ (findE g 1)) ?_)
              | (go_at_call 25; refine ((HS.out.below ((Below.refl _ _).alloc (Nat.le_refl _) _)).read_ 1 f1 f2 hf0 hf1).mono ?_; rintro e w7 ⟨rfl, HS7⟩))
            go_roundg (l0.length - (kk + 1))
            case measure => omega
            case rel => exact ⟨kk + 1, by omega, by omega, by go_num, ⟨by rw [HFO.out]; exact HS7⟩⟩
          · obtain ⟨hf0, hf1⟩ := hrg (.inr rfl)
            go_wp2_with (first
              | ((with_reducible refine gate_ (.lookup 52 (.tmp 36) (.tmp 38) false) rfl ?_); refine wpList_mapLook rfl _ _ 52 rfl (g + 1) (.int .i64 2) (.func (.func 26) #[.pointer (some ⟨g, 0, none⟩)] #[]) rfl rfl (run_mapLook _ 52 3 51 Try.underlying52 Try.underlying3 (g + 1) (E4 g) 4 (blk_alloc HS.out.map _) 2 1 _ (findE g 2)) ?_)
              | (go_at_call 26; refine ((HS.out.below ((Below.refl _ _).alloc (Nat.le_refl _) _)).write_ 2 f1 f2 hf0 hf1).mono ?_; rintro e w7 ⟨rfl, HS7⟩))
            go_roundg (l0.length - (kk + 1))
            case measure => omega
            case rel => exact ⟨kk + 1, by omega, by omega, by go_num, ⟨by rw [HFO.out]; exact HS7⟩⟩
          · clear hrg
            go_wp2_with (first
              | ((with_reducible refine gate_ (.lookup 52 (.tmp 36) (.tmp 38) false) rfl ?_); refine wpList_mapLook rfl _ _ 52 rfl (g + 1) (.int .i64 3) (.func (.func 27) #[.pointer (some ⟨g, 0, none⟩)] #[]) rfl rfl (run_mapLook _ 52 3 51 Try.underlying52 Try.underlying3 (g + 1) (E4 g) 4 (blk_alloc HS.out.map _) 3 2 _ (findE g 3)) ?_)
              | (go_at_call 27; refine ((HS.out.below ((Below.refl _ _).alloc (Nat.le_refl _) _)).reckon_ 3 f1 f2).mono ?_; rintro e w7 ⟨rfl, HS7⟩))
            go_roundg (l0.length - (kk + 1))
            case measure => omega
            case rel => exact ⟨kk + 1, by omega, by omega, by go_num, ⟨by rw [HFO.out]; exact HS7⟩⟩
          · clear hrg
            go_wp2_with (first
              | ((with_reducible refine gate_ (.lookup 52 (.tmp 36) (.tmp 38) false) rfl ?_); refine wpList_mapLook rfl _ _ 52 rfl (g + 1) (.int .i64 4) (.func (.func 27) #[.pointer (some ⟨g, 0, none⟩)] #[]) rfl rfl (run_mapLook _ 52 3 51 Try.underlying52 Try.underlying3 (g + 1) (E4 g) 4 (blk_alloc HS.out.map _) 4 3 _ (findE g 4)) ?_)
              | (go_at_call 27; refine ((HS.out.below ((Below.refl _ _).alloc (Nat.le_refl _) _)).reckon_ 4 f1 f2).mono ?_; rintro e w7 ⟨rfl, HS7⟩))
            go_roundg (l0.length - (kk + 1))
            case measure => omega
            case rel => exact ⟨kk + 1, by omega, by omega, by go_num, ⟨by rw [HFO.out]; exact HS7⟩⟩
          · clear hrg
            go_wp2_with (first
              | ((with_reducible refine gate_ (.lookup 52 (.tmp 36) (.tmp 38) false) rfl ?_); refine wpList_mapLook rfl _ _ 52 rfl (g + 1) (.int .i64 5) .nilFunc rfl rfl (run_mapLookNone _ 52 3 51 Try.underlying52 Try.underlying3 (g + 1) (E4 g) 4 (blk_alloc HS.out.map _) 5 _ (zero51 _) (findE g 5)) ?_))
            go_roundg (l0.length - (kk + 1))
            case measure => omega
            case rel => exact ⟨kk + 1, by omega, by omega, by go_num, ⟨by rw [HFO.out]; exact HS.out.below ((Below.refl _ _).alloc (Nat.le_refl _) _)⟩⟩
        · have hltz : ¬ (kk : Int) < (l0.length : Int) := by omega
          have hke : kk = l0.length := by omega
          subst hke
          rw [List.take_length] at HS
          have hc0 := (blk_cell HS.out.blk 0).trans (show _ = some (Value.slice Av l1.length cv) from rfl)
          go_wp2
          go_ret2
          exact ⟨_, by rw [← HE.out.2]; rfl, by rw [← HE.out.1]; exact HS.out.row, HS.out.bel⟩
  · rw [if_neg hlim] at h
    cases h

end Go.Proofs.Ytgefdpmhdidnnaa.L
