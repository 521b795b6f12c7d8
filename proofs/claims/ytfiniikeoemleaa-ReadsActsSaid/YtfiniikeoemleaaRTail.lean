/- Two builtins at a row of readings: an append that fits, and 'clear' of what lies behind. Conditions: the row. -/
import Derived.Test.YtfiniikeoemleaaRRow
import Derived.Laws.CopyRow
import Derived.Laws.AppendOwn
namespace Go.Proofs.Ytfiniikeoemleaa.R
open Go Go.RowKit Go.Proofs.YtfiniikeoemleaaW.PrintWords Go.Proofs.YtfiniikeoemleaaW.PrintLast Go.Proofs.YtfiniikeoemleaaW.PrintMore
set_option linter.unusedVariables false
set_option linter.unusedSimpArgs false

theorem exec_append {P : Program} {o : Oper} {a : Act} {W w1 : World} {s x : Operand} {t : TypeId} {v u v1 : Value} (ho : o.op = .call { callee := .builtin .append, args := #[s, x], argTypes := #[t, t] }) (hs : a.eval s = v) (hx : a.eval x = u)
    (hr : (Builtin.append_ #[t, t] o.type #[v, u]).run P W = .ok v1 w1) : (execOp a.eval o).run P W = .ok (.value v1) w1 := by
  unfold execOp
  simp only [ho, resolve, invoke, builtin, Sem.run_bind, Sem.run_pure, Result.andThen_ok, List.map_toArray, List.map_cons, List.map_nil, hs, hx, hr]
theorem exec_clear {P : Program} {o : Oper} {a : Act} {W w1 : World} {x : Operand} {t : TypeId} {u v1 : Value} (ho : o.op = .call { callee := .builtin .clear, args := #[x], argTypes := #[t] }) (hx : a.eval x = u)
    (hr : (Builtin.clear_ #[t] o.type #[u]).run P W = .ok v1 w1) : (execOp a.eval o).run P W = .ok (.value v1) w1 := by
  unfold execOp
  simp only [ho, resolve, invoke, builtin, Sem.run_bind, Sem.run_pure, Result.andThen_ok, List.map_toArray, List.map_cons, List.map_nil, hx, hr]
theorem zero30 (w : World) : (zeroValue 30).run Try.prog w = .ok (.agg #[.int .i64 0, .int .i64 0, .int .i64 0]) w := by
  have h : (Try.prog.info? 30).map (fun i => i.zero) = some (some (.agg #[.int .i64 0, .int .i64 0, .int .i64 0])) := by kernel_rfl
  obtain ⟨i, hi, hz⟩ := Option.map_eq_some_iff.1 h
  simp [zeroValue, typeInfo, hi, hz]
/-- 'clear' of the m elements behind a row of the same block: the row stands. -/
theorem clear30 {w : World} {base b n m cap c : Nat} {ok : Nat → Prop} {xs : List S30} (ty : TypeId) (h : Kd.R k30 30 w base ok (.slice (some ⟨b, 0, none⟩) n cap) xs) (hm : n + m ≤ cap) :
    ∃ w', (Builtin.clear_ #[35] ty #[.slice (some ⟨b, n * 3, none⟩) m c]).run Try.prog w = .ok (.tuple #[]) w' ∧ Kd.R k30 30 w' base ok (.slice (some ⟨b, 0, none⟩) n cap) xs ∧ w.grownBy w' (some b) := by
  obtain ⟨hn, _, _⟩ := Kd.R_reads' h
  subst hn
  have hr := raw30 h
  rcases hr.2 with ⟨h', _⟩ | ⟨g', cap', cur, h', hb, hg, hnc, hcm, hcs, htake⟩
  · simp at h'
  · simp only [Value.slice.injEq, Option.some.injEq, Addr.mk.injEq, and_true, true_and] at h'
    obtain ⟨rfl, rfl⟩ := h'
    obtain ⟨zs, hzs⟩ : ∃ zs, zs = (Builtin.zeroCells (Value.cells (.agg #[.int .i64 0, .int .i64 0, .int .i64 0])) m).toList := ⟨_, rfl⟩
    have hzl : zs.length = m * 3 := by
      rw [hzs, Array.length_toList, size_zeroCells]; rfl
    have hz1 : ∀ v ∈ zs, v.oneCell' = true := by
      intro v hv
      rw [hzs] at hv
      simp only [Builtin.zeroCells, Value.cells, Array.mem_toList_iff, Array.mem_map] at hv
      obtain ⟨q, _, hq⟩ := hv
      have h3 : q % 3 = 0 ∨ q % 3 = 1 ∨ q % 3 = 2 := by omega
      rcases h3 with h3 | h3 | h3 <;> simp [h3] at hq <;> subst hq <;> rfl
    have hfit : xs.length * 3 + 0 + zs.length ≤ cur.size := by
      rw [hzl, hcs]; omega
    have hst := run_storeCells_at Try.prog b (xs.length * 3) 30 zs 0 cur w hg hfit hz1
    rw [Nat.add_zero] at hst
    have hsz : (cur.toList.take (xs.length * 3) ++ zs ++ cur.toList.drop (xs.length * 3 + zs.length)).length = cap * 3 := by
      have : cur.toList.length = cap * 3 := by rw [Array.length_toList, hcs]
      simp only [List.length_append, List.length_take, List.length_drop]
      omega
    refine ⟨if m = 0 then w else w.setRow b (cur.toList.take (xs.length * 3) ++ zs ++ cur.toList.drop (xs.length * 3 + zs.length)).toArray, ?_, ?_⟩
    · cases m with
      | zero => simp [Builtin.clear_, run_underlying Try.underlying35]
      | succ m => simp [Builtin.clear_, run_underlying Try.underlying35, zero30, ← hzs, hst]
    · split
      · exact ⟨h, World.grownBy.refl w _⟩
      · refine ⟨unraw30 ⟨hr.1, .inr ⟨b, cap, _, rfl, hb, setRow_heap w b cur _ 30 _ hg, hnc, hcm, ?_, ?_⟩⟩ h.1, ⟨rfl, rfl, rfl, by simp, fun k _ hk => setRow_other w b k _ (fun e => hk (by simp [e]))⟩⟩
        · rw [List.size_toArray, hsz]
        · rw [List.toList_toArray, List.append_assoc, List.take_append_of_le_length (by simp; omega), List.take_take, Nat.min_self, htake]
/-- 'append(s[:i], s[i+1:]..)': the row without its i-th, in its place. -/
theorem append30 {w : World} {base b i c : Nat} {ok : Nat → Prop} {l : List S30} (ty : TypeId) (c2 : Nat) (h : Kd.R k30 30 w base ok (.slice (some ⟨b, 0, none⟩) l.length c) l) (hi : i < l.length) :
    ∃ w', (Builtin.append_ #[35, 35] ty #[.slice (some ⟨b, 0, none⟩) i c, .slice (if c = i + 1 then some ⟨b, 0, none⟩ else some ⟨b, (i + 1) * 3, none⟩) (l.length - (i + 1)) c2]).run Try.prog w = .ok (.slice (some ⟨b, 0, none⟩) (l.eraseIdx i).length c) w' ∧
      Kd.R k30 30 w' base ok (.slice (some ⟨b, 0, none⟩) (l.eraseIdx i).length c) (l.eraseIdx i) ∧ w.grownBy w' (some b) := by
  have hc : l.length ≤ c := (Kd.R_reads' h).2.1
  have hr := raw30 h
  have ht := raw30 (Kd.R_take h (m := i) (by omega))
  rw [List.length_take, Nat.min_eq_left (by omega)] at ht
  obtain ⟨inf, hinf, hsz⟩ := Option.map_eq_some_iff.1 (show (Try.prog.info? 30).map (·.size) = some 3 by kernel_rfl)
  have hf : ∀ (xs : List S30), (xs.flatMap e30).length = xs.length * 3 := fun xs => by
    induction xs with
    | nil => rfl
    | cons x xs ih => rw [List.flatMap_cons, List.length_append, ih, List.length_cons, Nat.succ_mul]; simp [e30]; omega
  have hel : (l.eraseIdx i).length = i + (l.length - (i + 1)) := by rw [List.length_eraseIdx, if_pos hi]; omega
  have hdr : (l.flatMap e30).drop ((i + 1) * 3) = (l.drop (i + 1)).flatMap e30 := by
    have h1 : l.flatMap e30 = (l.take (i + 1)).flatMap e30 ++ (l.drop (i + 1)).flatMap e30 := by rw [← List.flatMap_append, List.take_append_drop]
    rw [h1, List.drop_append, hf, List.length_take, Nat.min_eq_left (by omega), Nat.sub_self, List.drop_zero, List.drop_eq_nil_of_le (by rw [hf, List.length_take, Nat.min_eq_left (by omega)]; omega), List.nil_append]
  have hnews : ∀ (j : Nat) (u : Value), ((l.drop (i + 1)).flatMap e30)[j]? = some u → w.cell? ((⟨b, (i + 1) * 3, none⟩ : Addr).add j) = some u := by
    intro j u hu
    rw [← hdr, List.getElem?_drop] at hu
    have hlt : (i + 1) * 3 + j < l.length * 3 := by
      have := (List.getElem?_eq_some_iff.1 hu).1
      rw [hf] at this
      exact this
    have := World.ownsRow.cellAt hr _ hlt
    rw [hu] at this
    rw [Addr.add_lit]; exact this
  have h1 : ∀ u ∈ (l.drop (i + 1)).flatMap e30, u.oneCell' = true := by
    intro u hu
    rw [List.mem_flatMap] at hu
    obtain ⟨x, _, hx⟩ := hu
    simp [e30] at hx
    rcases hx with rfl | rfl | rfl <;> rfl
  have hnl : ((l.drop (i + 1)).flatMap e30).length = (l.length - (i + 1)) * 3 := by rw [hf, List.length_drop]
  have hers : (l.eraseIdx i).flatMap e30 = (l.take i).flatMap e30 ++ (l.drop (i + 1)).flatMap e30 := by rw [List.eraseIdx_eq_take_drop_succ, List.flatMap_append]
  by_cases hci : c = i + 1
  · have hz : l.length - (i + 1) = 0 := by omega
    rw [if_pos hci]
    obtain ⟨w', h2, h3, h4⟩ := run_append_fits (P := Try.prog) w base 35 ty 30 inf 3 Try.underlying35 hinf hsz b i c _ ht ⟨b, 0, none⟩ (l.length - (i + 1)) c2 ((l.drop (i + 1)).flatMap e30) hnl (fun j u hu => by
      have := (List.getElem?_eq_some_iff.1 hu).1
      rw [hnl, hz] at this
      omega) h1 (by omega)
    rw [← hers, ← hel] at h3
    exact ⟨w', by rw [hel]; exact h2, unraw30 h3 (fun k hk => h.1 k hk), h4⟩
  · rw [if_neg hci]
    obtain ⟨w', h2, h3, h4⟩ := run_append_fits (P := Try.prog) w base 35 ty 30 inf 3 Try.underlying35 hinf hsz b i c _ ht ⟨b, (i + 1) * 3, none⟩ (l.length - (i + 1)) c2 ((l.drop (i + 1)).flatMap e30) hnl hnews h1 (by omega)
    rw [← hers, ← hel] at h3
    exact ⟨w', by rw [hel]; exact h2, unraw30 h3 (fun k hk => h.1 k hk), h4⟩
theorem fr_row {w w' : World} {base b n c : Nat} {ok : Nat → Prop} {xs : List S30} (h : Kd.R k30 30 w base ok (.slice (some ⟨b, 0, none⟩) n c) xs) (hg : w.grownBy w' (some b)) : Fr [30] w w' :=
  (Fr.refl _ _).grown hg (fun k hk => by obtain ⟨cs, hcs⟩ := Kd.R_typed h k hk; exact ⟨cs, 30, _, hcs, by decide⟩)
theorem below_row {w0 w w' : World} {base b n c : Nat} {ok : Nat → Prop} {xs : List S30} (h : Kd.R k30 30 w base ok (.slice (some ⟨b, 0, none⟩) n c) xs) (hb : Below base w0 w) (hs : base ≤ w.heap.size) (hg : w.grownBy w' (some b)) : Below base w0 w' :=
  hb.grown hg hs (fun k hk => Kd.R_base h k hk)
end Go.Proofs.Ytfiniikeoemleaa.R
