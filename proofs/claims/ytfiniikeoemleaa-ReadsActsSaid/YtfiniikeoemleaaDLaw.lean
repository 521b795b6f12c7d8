/- The plain law of ReadsActs: the set's rows are the document's. No condition but short rows. -/
import Derived.Test.YtfiniikeoemleaaDStep
import Derived.Test.YtfiniikeoemleaaRArr
import Derived.Test.YtfiniikeoemleaaRUncl
import Derived.Test.YtfiniikeoemleaaRx4
namespace Go.Proofs.Ytfiniikeoemleaa.R
open Go Go.RowKit Go.Proofs.YtfiniikeoemleaaW.PrintWords Go.Proofs.YtfiniikeoemleaaW.PrintLast Go.Proofs.YtfiniikeoemleaaW.PrintMore
set_option linter.unusedVariables false
set_option linter.unusedSimpArgs false

def c30 (x : S44) : S30 := ⟨x.f0, x.f1, x.f2⟩
def c33 (y : S45) : S33 := ⟨y.f0, y.f1, y.f2, y.f3, y.f4⟩
theorem find_map30 (l : List S44) (o : Int) : find30 (l.map c30) o = find44 l o := by
  unfold find30 find44
  rw [List.findIdx?_map]
  rfl
theorem find_map33 (l : List S45) (o : Int) : find33 (l.map c33) o = find45 l o := by
  unfold find33 find45
  rw [List.findIdx?_map]
  rfl
theorem rd_map30 (l : List S44) (i : Int) : rd_T30 (l.map c30) i = c30 (rd_T44 l i) := by
  unfold rd_T30 rd_T44
  rw [List.getD_eq_getElem?_getD, List.getD_eq_getElem?_getD, List.getElem?_map]
  cases l[i.toNat]? <;> rfl
theorem rd_map33 (l : List S45) (i : Int) : rd_T33 (l.map c33) i = c33 (rd_T45 l i) := by
  unfold rd_T33 rd_T45
  rw [List.getD_eq_getElem?_getD, List.getD_eq_getElem?_getD, List.getElem?_map]
  cases l[i.toNat]? <;> rfl
def addD (ds : List S44) (x : S44) : List S44 := if find44 ds x.f0 = -1 then ds ++ [x] else ds
def dropD (ds : List S44) (o : Int) : List S44 := ds.filter (fun x => !(x.f0 == o))
def putD (es : List S45) (y : S45) : List S45 := if find45 es y.f0 = -1 then es ++ [y] else es.set (find45 es y.f0).toNat y
def OnceD (ds : List S44) : Prop := (ds.map (·.f0)).Nodup
theorem once_map (ds : List S44) : Once30 (ds.map c30) ↔ OnceD ds := by
  unfold Once30 OnceD
  rw [List.map_map]
  exact Iff.rfl
theorem add_map (ds : List S44) (x : S44) : addR (ds.map c30) (c30 x) = (addD ds x).map c30 := by
  unfold addR addD
  rw [show (c30 x).f0 = x.f0 from rfl, find_map30]
  split
  · rw [List.map_append]; rfl
  · rfl
theorem put_map (es : List S45) (y : S45) : putR (es.map c33) (c33 y) = (putD es y).map c33 := by
  unfold putR putD
  rw [show (c33 y).f0 = y.f0 from rfl, find_map33]
  split
  · rw [List.map_append]; rfl
  · rw [List.map_set]
theorem drop_map (ds : List S44) (o : Int) (h : OnceD ds) : dropR (ds.map c30) o = (dropD ds o).map c30 := by
  unfold dropR dropD
  rw [find_map30]
  rcases find44_cases ds o with ⟨hf, ha⟩ | ⟨k, hk, hf, he, hb⟩
  · rw [if_pos hf, List.filter_eq_self.2 (fun x hx => by simp [ha x hx])]
  · rw [if_neg (by omega), hf, Int.toNat_natCast]
    have e1 : ds = ds.take k ++ ([ds[k]] ++ ds.drop (k + 1)) := by
      rw [List.singleton_append, ← List.drop_eq_getElem_cons hk, List.take_append_drop]
    have f1 : (ds.take k).filter (fun x => !(x.f0 == o)) = ds.take k := by
      rw [List.filter_eq_self]
      intro x hx
      obtain ⟨j, hj, rfl⟩ := List.getElem_of_mem hx
      rw [List.getElem_take]
      simp [hb j (by rw [List.length_take] at hj; omega)]
    have f2 : [ds[k]].filter (fun x => !(x.f0 == o)) = [] := by simp [he]
    have f3 : (ds.drop (k + 1)).filter (fun x => !(x.f0 == o)) = ds.drop (k + 1) := by
      rw [List.filter_eq_self]
      intro x hx
      obtain ⟨j, hj, rfl⟩ := List.getElem_of_mem hx
      rw [List.length_drop] at hj
      rw [List.getElem_drop]
      have hne : ds[k + 1 + j].f0 ≠ o := by
        intro e
        unfold OnceD at h
        have e2 : (ds.map (·.f0))[k + 1 + j]'(by simp; omega) = (ds.map (·.f0))[k]'(by simpa using hk) := by simp [e, he]
        have := (List.getElem_inj h).1 e2
        omega
      simp [hne]
    rw [List.eraseIdx_eq_take_drop_succ, ← List.map_take, ← List.map_drop, ← List.map_append]
    congr 1
    conv => rhs; rw [e1, List.filter_append, List.filter_append, f1, f2, f3]
    rfl
theorem addD_once {ds : List S44} {x : S44} (h : OnceD ds) : OnceD (addD ds x) := by
  rw [← once_map] at h ⊢
  rw [← add_map]
  exact addR_once h
theorem dropD_once {ds : List S44} {o : Int} (h : OnceD ds) : OnceD (dropD ds o) := by
  unfold OnceD dropD at *
  exact h.sublist ((List.filter_sublist).map _)
theorem addD_len (ds : List S44) (x : S44) : (addD ds x).length ≤ ds.length + 1 := by unfold addD; split <;> simp
theorem dropD_len (ds : List S44) (o : Int) : (dropD ds o).length ≤ ds.length := List.length_filter_le _ _
theorem putD_len (es : List S45) (y : S45) : (putD es y).length ≤ es.length + 1 := by unfold putD; split <;> simp
theorem has_map33 (es : List S45) (o : Int) : (has33 (es.map c33) o).2 = !(find45 es o == -1) := by
  unfold has33
  rw [find_map33]
  split
  · rename_i h; simp [h]
  · rename_i h; simp [h]
theorem unc_map (ds : List S44) (es : List S45) : (ds.map c30).filter (fun x => !(has33 (es.map c33) x.f0).2) = (ds.filter (fun x => find45 es x.f0 == -1)).map c30 := by
  rw [List.filter_map]
  congr 1
  apply List.filter_congr
  intro x _
  show (!(has33 (es.map c33) x.f0).2) = _
  rw [has_map33]
  simp
/-! ### The same ones -/
theorem readings_l0 (l : List S44) (hl : l.length ≤ 1000) : ∀ (n i : Nat), i ≤ l.length → l.length - i < n → quarrellaw12_readings.l0 n (l.map c30) l (i : Int) = some true
  | 0, _, _, h => absurd h (Nat.not_lt_zero _)
  | n + 1, i, hi, h => by
    unfold quarrellaw12_readings.l0
    rw [rd_map30, List.length_map]
    by_cases hlt : i < l.length
    · rw [if_pos (by omega), if_pos (by omega), if_pos (by omega), if_neg (by simp [c30])]
      have e : wrap64 ((i : Int) + 1) = ((i + 1 : Nat) : Int) := by unfold wrap64; omega
      rw [e]
      exact readings_l0 l hl n (i + 1) hlt (by omega)
    · rw [if_neg (by omega)]
theorem readings_f (l : List S44) (hl : l.length ≤ 1000) : quarrellaw12_readings.f (l.length + 1) (l.map c30) l = some true := by
  unfold quarrellaw12_readings.f
  rw [if_pos (by rw [List.length_map])]
  exact readings_l0 l hl _ 0 (Nat.zero_le _) (by omega)
theorem owns_l0 (l : List S45) (hl : l.length ≤ 1000) : ∀ (n i : Nat), i ≤ l.length → l.length - i < n → quarrellaw12_owns.l0 n (l.map c33) l (i : Int) = some true
  | 0, _, _, h => absurd h (Nat.not_lt_zero _)
  | n + 1, i, hi, h => by
    unfold quarrellaw12_owns.l0
    rw [rd_map33, List.length_map]
    by_cases hlt : i < l.length
    · rw [if_pos (by omega), if_pos (by omega), if_pos (by omega)]
      simp only [quarrellaw12_own.f, Option.bind_some]
      rw [if_neg (by simp [c33])]
      have e : wrap64 ((i : Int) + 1) = ((i + 1 : Nat) : Int) := by unfold wrap64; omega
      rw [e]
      exact owns_l0 l hl n (i + 1) hlt (by omega)
    · rw [if_neg (by omega)]
theorem owns_f (l : List S45) (hl : l.length ≤ 1000) : quarrellaw12_owns.f (l.length + 1) (l.map c33) l = some true := by
  unfold quarrellaw12_owns.f
  rw [if_pos (by rw [List.length_map])]
  exact owns_l0 l hl _ 0 (Nat.zero_le _) (by omega)
theorem readings_same (A0 : Option Addr) (c0 : Nat) (l0 : List S30) (A1 : Option Addr) (c1 : Nat) (l1 : List S44) (w : World) (he : l0 = l1.map c30) (hl : l1.length ≤ 1000) (hr0 : Kd.C k30 w A0 l0.length l0) (hc0 : l0.length ≤ c0) (hr1 : Kd.C k44 w A1 l1.length l1) (hc1 : l1.length ≤ c1) :
    Calls Try.prog 21 #[.slice A0 l0.length c0, .slice A1 l1.length c1] w fun e w' => e = .returned (.bool true) ∧ Below w.heap.size w w' := by
  refine (quarrellaw12_readings.calls (l1.length + 1) A0 c0 l0 A1 c1 l1 true w hr0 hc0 hr1 hc1 (by rw [he]; exact readings_f l1 hl)).mono ?_
  rintro e w' ⟨rfl, hd⟩
  exact ⟨rfl, by obtain ⟨m, rfl⟩ := hd; exact pw_below_drewN (Below.refl _ _) m⟩
theorem owns_same (A0 : Option Addr) (c0 : Nat) (l0 : List S33) (A1 : Option Addr) (c1 : Nat) (l1 : List S45) (w : World) (he : l0 = l1.map c33) (hl : l1.length ≤ 1000) (hr0 : Kd.C k33 w A0 l0.length l0) (hc0 : l0.length ≤ c0) (hr1 : Kd.C k45 w A1 l1.length l1) (hc1 : l1.length ≤ c1) :
    Calls Try.prog 22 #[.slice A0 l0.length c0, .slice A1 l1.length c1] w fun e w' => e = .returned (.bool true) ∧ Below w.heap.size w w' :=
  (quarrellaw12_owns.calls (l1.length + 1) A0 c0 l0 A1 c1 l1 true w hr0 hc0 hr1 hc1 (by rw [he]; exact owns_f l1 hl)).mono fun e w' h => h
/-- What the set answers of an object, and where the document has it. -/
theorem has_rv (ds : List S44) (o : Int) (rv : S30) (rb : Bool) (km : Int) (h1 : has30 (ds.map c30) o = (rv, rb)) (h2 : find44 ds o = km) :
    (km = -1 ∧ rb = false ∧ rv = z30) ∨ ∃ (k : Nat) (hk : k < ds.length), km = k ∧ rb = true ∧ rv = c30 ds[k] := by
  unfold has30 at h1
  rw [find_map30] at h1
  rcases find44_cases ds o with ⟨hf, _⟩ | ⟨k, hk, hf, _, _⟩
  · rw [if_pos hf] at h1
    injection h1 with a b
    exact Or.inl ⟨by omega, b.symm, a.symm⟩
  · rw [if_neg (by omega), hf, rd_map30] at h1
    injection h1 with a b
    refine Or.inr ⟨k, hk, by omega, b.symm, a.symm.trans ?_⟩
    simp [rd_T44, hk]
theorem has_ov (es : List S45) (o : Int) (ov : S33) (ob : Bool) (nm : Int) (h1 : has33 (es.map c33) o = (ov, ob)) (h2 : find45 es o = nm) :
    (nm = -1 ∧ ob = false ∧ ov = z33) ∨ ∃ (k : Nat) (hk : k < es.length), nm = k ∧ ob = true ∧ ov = c33 es[k] := by
  unfold has33 at h1
  rw [find_map33] at h1
  rcases find45_cases es o with ⟨hf, _⟩ | ⟨k, hk, hf, _, _⟩
  · rw [if_pos hf] at h1
    injection h1 with a b
    exact Or.inl ⟨by omega, b.symm, a.symm⟩
  · rw [if_neg (by omega), hf, rd_map33] at h1
    injection h1 with a b
    refine Or.inr ⟨k, hk, by omega, b.symm, a.symm.trans ?_⟩
    simp [rd_T45, hk]
/-- Put, whatever is there. -/
theorem dput_all (base g : Nat) (rs : List S44) (os : List S45) (y : S45) (w : World) (h : IsD base w g rs os) (hbase : base ≤ w.heap.size) (hl : os.length ≤ 1000) :
    Calls Try.prog 17 #[.pointer (some ⟨g, 0, none⟩), .agg #[.int .i64 y.f0, .int .i64 y.f1, .int .i64 y.f2, .int .i64 y.f3, .bool y.f4]] w fun e w' => e = .returned (.tuple #[]) ∧ IsD base w' g rs (putD os y) ∧ Fr [43, 45] w w' ∧ Below base w w' := by
  unfold putD
  rcases find45_cases os y.f0 with ⟨hf, _⟩ | ⟨k, hk, hf, _, _⟩
  · rw [if_pos hf]
    exact dput_miss base g rs os y w h hbase hl hf
  · have hn : ¬ find45 os y.f0 = -1 := by omega
    rw [if_neg hn, hf, Int.toNat_natCast]
    exact dput_hit base g k rs os y w h hbase hk hf
end Go.Proofs.Ytfiniikeoemleaa.R
