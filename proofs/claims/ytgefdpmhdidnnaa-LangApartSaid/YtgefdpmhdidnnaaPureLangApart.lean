/- The pure statement of the law LangApart: a transaction alone changes no object but those that it writes, and objects that it neither reads nor writes play no part. -/
import Derived.Test.YtgefdpmhdidnnaaLSaidLangApart
import Derived.Test.YtgefdpmhdidnnaaLPlain
namespace Go.Proofs.Ytgefdpmhdidnnaa.Pure
open Go.RowKit Go.Proofs.Ytgefdpmhdidnnaa.L Go.Proofs.YtgefdpmhdidnnaaW.PrintWords

def wr (o : Int) (l : List S33) : Bool := l.any fun x => x.f0 == 2 && x.f1 == o
def us (k : Int) (l : List S33) : Bool := l.any fun x => (x.f0 == 2 || x.f0 == 1) && x.f1 == k

theorem rd_set_ne (vs : List Int) (i : Int) (x : Int) (o : Nat) (h0 : 0 ≤ i) (h : i ≠ (o : Int)) : rd (vs.set i.toNat x) (o : Int) = rd vs (o : Int) := by
  unfold rd
  rw [List.getD_eq_getElem?_getD, List.getD_eq_getElem?_getD, List.getElem?_set_ne]
  omega
theorem fold_unwritten (o n : Nat) : ∀ (l : List S33) (p : List Int × Int), (∀ x ∈ l, okB x (n : Int) = true) → wr (o : Int) l = false → rd (foldA l p).1 (o : Int) = rd p.1 (o : Int) := by
  intro l
  induction l with
  | nil => intro p _ _; rfl
  | cons x l ih =>
    intro p hok hw
    have hx := hok x (by simp)
    simp only [wr, List.any_cons, Bool.or_eq_false_iff] at hw
    show rd (foldA l (stepA p x)).1 _ = _
    rw [ih _ (fun y hy => hok y (by simp [hy])) hw.2, stepA_kinds p x n hx]
    by_cases h1 : x.f0 = 1
    · rw [if_pos h1]
    rw [if_neg h1]
    by_cases h2 : x.f0 = 2
    · rw [if_pos h2]
      have hr := okB_range x n hx (.inr h2)
      have hne : x.f1 ≠ (o : Int) := by
        have := hw.1
        simp [h2] at this
        exact this
      exact rd_set_ne _ _ _ _ hr.1 hne
    rw [if_neg h2]
    by_cases h3 : x.f0 = 3
    · rw [if_pos h3]
    rw [if_neg h3]
    by_cases h4 : x.f0 = 4
    · rw [if_pos h4]
    rw [if_neg h4]
theorem fold_unused (k n : Nat) (t : Int) : ∀ (l : List S33) (p : List Int × Int), (∀ x ∈ l, okB x (n : Int) = true) → us (k : Int) l = false → foldA l (p.1.set k t, p.2) = ((foldA l p).1.set k t, (foldA l p).2) := by
  intro l
  induction l with
  | nil => intro p _ _; rfl
  | cons x l ih =>
    intro p hok hu
    have hx := hok x (by simp)
    simp only [us, List.any_cons, Bool.or_eq_false_iff] at hu
    have hs : stepA (p.1.set k t, p.2) x = ((stepA p x).1.set k t, (stepA p x).2) := by
      rw [stepA_kinds _ x n hx, stepA_kinds p x n hx]
      by_cases h1 : x.f0 = 1
      · rw [if_pos h1, if_pos h1]
        have hr := okB_range x n hx (.inl h1)
        have hne : x.f1 ≠ (k : Int) := by
          have := hu.1
          simp [h1] at this
          exact this
        obtain ⟨j, hj⟩ := Int.eq_ofNat_of_zero_le hr.1
        rw [hj]
        have := rd_set_ne p.1 (k : Int) t j (by omega) (by omega)
        rw [Int.toNat_natCast] at this
        rw [this]
      rw [if_neg h1, if_neg h1]
      by_cases h2 : x.f0 = 2
      · rw [if_pos h2, if_pos h2]
        have hr := okB_range x n hx (.inr h2)
        have hne : x.f1 ≠ (k : Int) := by
          have := hu.1
          simp [h2] at this
          exact this
        rw [List.set_comm _ _ (show k ≠ x.f1.toNat by omega)]
      rw [if_neg h2, if_neg h2]
      by_cases h3 : x.f0 = 3
      · rw [if_pos h3, if_pos h3]
      rw [if_neg h3, if_neg h3]
      by_cases h4 : x.f0 = 4
      · rw [if_pos h4, if_pos h4]
      rw [if_neg h4, if_neg h4]
    show foldA l (stepA _ x) = _
    rw [hs, ih _ (fun y hy => hok y (by simp [hy])) hu.2]
    rfl

theorem wr_drop (o : Int) (l : List S33) (i : Nat) (h : i < l.length) : wr o (l.drop i) = (l[i].f0 == 2 && l[i].f1 == o || wr o (l.drop (i + 1))) := by
  unfold wr; rw [List.drop_eq_getElem_cons h, List.any_cons]
theorem us_drop (o : Int) (l : List S33) (i : Nat) (h : i < l.length) : us o (l.drop i) = ((l[i].f0 == 2 || l[i].f0 == 1) && l[i].f1 == o || us o (l.drop (i + 1))) := by
  unfold us; rw [List.drop_eq_getElem_cons h, List.any_cons]

theorem apart_l1 (l : List S33) (vs v : List Int) (t x11 o : Int) (hm : l.length ≤ 9223372036854775807) (k : Nat) : ∀ (d i : Nat) (u w : Bool), i + d = l.length →
    quarrellaw11_LangApart.l1 (k + 1 + d) l vs t v x11 u o w (i : Int) = quarrellaw11_LangApart.l1 (k + 1) l vs t v x11 (u || us x11 (l.drop i)) o (w || wr o (l.drop i)) (l.length : Int) := by
  intro d
  induction d with
  | zero =>
    intro i u w hi
    have hil : i = l.length := by omega
    subst hil
    simp [us, wr]
  | succ d ih =>
    intro i u w hi
    have hl : i < l.length := by omega
    rw [show k + 1 + (d + 1) = (k + 1 + d) + 1 from by omega]
    have hw := wr_drop o l i hl
    have hu := us_drop x11 l i hl
    rw [hw, hu]
    clear hw hu
    simp only [quarrellaw11_LangApart.l1]
    rw [if_pos (show (i : Int) < (l.length : Int) by omega), w1 hl hm, rd_T33_nat l i hl]
    have hgo := fun u w => ih (i + 1) u w (by omega)
    rw [if_pos (show (0 : Int) ≤ (i : Int) by omega), if_pos (show (0 : Int) ≤ (i : Int) by omega)]
    simp only [hgo]
    simp only [quarrellaw11_LangApart.l1]
    generalize l[i] = x
    obtain ⟨a, b, c⟩ := x
    simp only
    generalize us x11 (l.drop (i + 1)) = U
    generalize wr o (l.drop (i + 1)) = V
    have b1 : (a == 1) = decide (a = 1) := rfl
    have b2 : (a == 2) = decide (a = 2) := rfl
    rw [b1, b2]
    cases w <;> cases u <;> by_cases h2 : a = 2 <;> by_cases h1 : a = 1 <;> simp [h1, h2]

theorem apart_l0 (l : List S33) (vs : List Int) (t x11 : Int) (hl0 : l.length ≤ 8) (hv : 1 ≤ vs.length) (hv8 : vs.length ≤ 8) (hok : ∀ x ∈ l, okB x (vs.length : Int) = true) (hr : rightB l (vs.length : Int) = true) (hx0 : 0 ≤ x11) (hx1 : x11 < vs.length) : ∀ (d k o : Nat) (u : Bool), o + d = vs.length → d * 20 + 50 < k →
    (0 < o → u = us x11 l) → (u = true → us x11 l = true) → quarrellaw11_LangApart.l0 k l vs t (foldA l (vs, 0)).1 x11 u (o : Int) = some true := by
  intro d
  have hfl := foldA_len l (vs, 0)
  simp only at hfl
  induction d with
  | zero =>
    intro k o u ho hk hu _
    obtain ⟨k, rfl⟩ : ∃ m, k = m + 1 := ⟨k - 1, by omega⟩
    have hu' := hu (by omega)
    simp only [quarrellaw11_LangApart.l0]
    rw [if_neg (by omega)]
    by_cases h : u = true
    · rw [if_pos h]
    rw [if_neg h]
    have hun : us x11 l = false := by rw [← hu']; simpa using h
    obtain ⟨j, rfl⟩ := Int.eq_ofNat_of_zero_le hx0
    have hf := fold_unused j vs.length t l (vs, 0) hok hun
    simp only at hf
    simp only [Option.bind_some, List.length_nil, Nat.zero_add, List.nil_append, Int.toNat_natCast]
    rw [if_pos (by omega), if_pos (by omega), if_pos (by omega), langAlone_f _ _ (by rw [List.length_set]; omega), List.length_set, if_pos hr, hf]
    simp only [Option.bind_some, if_true, List.length_set]
    rw [if_pos (by rw [hfl]; omega), rd_nat _ j (by rw [List.length_set, hfl]; omega), List.getElem_set_self, if_pos rfl, if_pos (by rw [hfl]; omega), List.set_set, rd_nat _ j (by rw [hfl]; omega), List.set_getElem_self]
    rw [vals_f _ _ (by rw [hfl]; omega) k (by rw [hfl]; omega)]
    simp
  | succ d ih =>
    intro k o u ho hk hu hu1
    obtain ⟨k, rfl⟩ : ∃ m, k = (m + 1 + l.length) + 1 := ⟨k - 2 - l.length, by omega⟩
    simp only [quarrellaw11_LangApart.l0]
    rw [if_pos (by omega)]
    have h1 := apart_l1 l vs (foldA l (vs, 0)).1 t x11 (o : Int) (by omega) k l.length 0 u false (by omega)
    simp only [Int.cast_ofNat_Int, List.drop_zero, Bool.false_or] at h1
    rw [h1]
    clear h1
    simp only [quarrellaw11_LangApart.l1]
    rw [if_neg (by omega)]
    have hu2 : (u || us x11 l) = us x11 l := by
      cases h : u with
      | true => rw [hu1 h]; rfl
      | false => rfl
    rw [hu2, w1 (n := vs.length) (by omega) (by omega)]
    have hnext := ih k (o + 1) (us x11 l) (by omega) (by omega) (fun _ => rfl) (fun h => h)
    by_cases hw : wr (o : Int) l = true
    · rw [if_pos hw]
      exact hnext
    · rw [if_neg hw, if_pos (by omega), if_pos (by omega), if_pos (by omega), if_pos]
      · exact hnext
      · exact fold_unwritten o vs.length l (vs, 0) hok (by simpa using hw)

theorem LangApart : quarrellaw11_LangApart.Pure := by
  intro l vs a2 a3 _ _ _ _ w2 _
  obtain ⟨K, hK⟩ : ∃ K : Nat, 9999 ≤ K := ⟨9999, Nat.le_refl _⟩
  by_cases hlen : l.length ≤ 8
  case neg =>
    refine ⟨K + l.length + 2 + 1, ?_⟩
    unfold quarrellaw11_LangApart.f
    rw [alive_f _ (by omega)]
    simp only [Option.bind_some, if_true]
    by_cases h0 : (vs.length : Int) = 0
    · rw [if_pos h0]
      simp only [quarrellaw11_LangApart.j0, if_true]
    rw [if_neg h0]
    by_cases h1 : (vs.length : Int) > 8
    · rw [if_pos h1]
      simp only [quarrellaw11_LangApart.j0, if_true]
    rw [if_neg h1, right_f l _ (by assumption) _ (by omega)]
    have hr : rightB l (vs.length : Int) = false := by
      unfold rightB
      rw [decide_eq_false hlen]
      simp
    rw [hr]
    simp only [Option.bind_some, quarrellaw11_LangApart.j0]
    simp
  refine ⟨K + 2 + 1, ?_⟩
  unfold quarrellaw11_LangApart.f
  rw [alive_f _ (by omega)]
  simp only [Option.bind_some, if_true]
  by_cases h0 : (vs.length : Int) = 0
  · rw [if_pos h0]
    simp only [quarrellaw11_LangApart.j0, if_true]
  rw [if_neg h0]
  by_cases h1 : (vs.length : Int) > 8
  · rw [if_pos h1]
    simp only [quarrellaw11_LangApart.j0, if_true]
  rw [if_neg h1, right_f l _ (by omega) _ (by omega)]
  simp only [Option.bind_some]
  cases hr : rightB l (vs.length : Int) with
  | false => simp only [quarrellaw11_LangApart.j0]; simp
  | true =>
    have hok : ∀ x ∈ l, okB x (vs.length : Int) = true := by
      simp only [rightB, Bool.and_eq_true, List.all_eq_true] at hr
      exact hr.2
    have hfl := foldA_len l (vs, 0)
    simp only at hfl
    simp only [quarrellaw11_LangApart.j0, Bool.not_true]
    rw [if_neg (by simp), langAlone_f l vs (by omega), if_pos hr]
    simp only [Option.bind_some, if_true, quarrellaw11_LangApart.j1]
    have ew : wrap64 a2 = a2 := by
      simp [Lit.wf, IntKind.min, IntKind.max, IntKind.signed, IntKind.bits] at w2
      unfold wrap64
      omega
    have ha2 : 0 ≤ a2 := by
      simp [Lit.wf, IntKind.min, IntKind.max, IntKind.signed, IntKind.bits] at w2
      omega
    rw [hfl, if_neg (by simp), if_neg h0, ew, Int.tmod_eq_emod_of_nonneg ha2]
    have hm0 := Int.emod_nonneg a2 h0
    have hm1 := Int.emod_lt_of_pos a2 (show (0 : Int) < (vs.length : Int) by omega)
    have := apart_l0 l vs a3 (a2 % (vs.length : Int)) hlen (by omega) (by omega) hok hr hm0 hm1 vs.length (K + 1) 0 false (by omega) (by omega) (by omega) (by simp)
    simpa using this
end Go.Proofs.Ytgefdpmhdidnnaa.Pure
