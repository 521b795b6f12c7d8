/- The pure statement of the law LangLast: what operations of a transaction alone leave is left one by one. -/
import Derived.Test.YtgefdpmhdidnnaaLSaidLangLast
import Derived.Test.YtgefdpmhdidnnaaLPlain
namespace Go.Proofs.Ytgefdpmhdidnnaa.Pure
open Go.RowKit Go.Proofs.Ytgefdpmhdidnnaa.L Go.Proofs.YtgefdpmhdidnnaaW.PrintWords

theorem right_take (l : List S33) (n : Int) (k : Nat) (h1 : 1 ≤ k) (hk : k ≤ l.length) (h : rightB l n = true) : rightB (l.take k) n = true := by
  simp only [rightB, Bool.and_eq_true, List.all_eq_true, decide_eq_true_eq] at h ⊢
  rw [List.length_take]
  exact ⟨⟨by omega, by omega⟩, fun x hx => h.2 x (List.mem_of_mem_take hx)⟩
theorem right_more (l : List S33) (n : Int) (k : Nat) (h1 : 1 ≤ k) (h6 : k < 7) (hk : k ≤ l.length) (h : rightB l n = true) (o : Int) (ho0 : 0 ≤ o) (ho1 : o < n) : rightB (l.take k ++ [⟨3, 0, 3⟩, ⟨1, o, 0⟩]) n = true := by
  have ht := right_take l n k h1 hk h
  simp only [rightB, Bool.and_eq_true, List.all_eq_true, decide_eq_true_eq] at ht ⊢
  rw [List.length_append, List.length_take]
  refine ⟨⟨by omega, by simp; omega⟩, fun x hx => ?_⟩
  rcases List.mem_append.1 hx with hx | hx
  · exact ht.2 x hx
  · simp at hx
    rcases hx with rfl | rfl
    · simp [okB]
    · simp [okB, ho0, ho1]
theorem fold_more (l : List S33) (k : Nat) (p : List Int × Int) (o : Int) : (foldA (l.take k ++ [⟨3, 0, 3⟩, ⟨1, o, 0⟩]) p).1 = (foldA (l.take k) p).1 := by
  unfold foldA
  rw [List.foldl_append]
  rfl
theorem fold_same (l : List S33) (n : Nat) (vs : List Int) (k : Nat) (hk : k < l.length) (hok : okB l[k] (n : Int) = true) (h2 : l[k].f0 ≠ 2) : (foldA (l.take (k + 1)) (vs, 0)).1 = (foldA (l.take k) (vs, 0)).1 := by
  rw [foldA_snoc l k hk, stepA_kinds _ _ n hok]
  by_cases h1 : l[k].f0 = 1
  · rw [if_pos h1]
  rw [if_neg h1, if_neg h2]
  by_cases h3 : l[k].f0 = 3
  · rw [if_pos h3]
  rw [if_neg h3]
  by_cases h4 : l[k].f0 = 4
  · rw [if_pos h4]
  rw [if_neg h4]
theorem alone_take (l : List S33) (vs : List Int) (k : Nat) (h1 : 1 ≤ k) (hk : k ≤ l.length) (h : rightB l (vs.length : Int) = true) (hv : vs.length ≤ 8) : lang_Alone.f (l.take k) vs = some ((foldA (l.take k) (vs, 0)).1, 0) := by
  rw [langAlone_f _ _ (by omega), if_pos (right_take l _ k h1 hk h)]

theorem last_loop (l : List S33) (vs : List Int) (hv : vs.length ≤ 8) (h : rightB l (vs.length : Int) = true) (hl : l.length ≤ 8) (hok : ∀ x ∈ l, okB x (vs.length : Int) = true) : ∀ (d K k : Nat), k + d = l.length + 1 → 1 ≤ k → d * 5 + 30 < K →
    quarrellaw11_LangLast.l0 K l vs (foldA l (vs, 0)).1 (k : Int) = some true := by
  intro d
  induction d with
  | zero =>
    intro K k hk h1 hK
    obtain ⟨K, rfl⟩ : ∃ m, K = m + 1 := ⟨K - 1, by omega⟩
    simp only [quarrellaw11_LangLast.l0]
    rw [if_neg (by omega)]
  | succ d ih =>
    intro K k hk h1 hK
    obtain ⟨K, rfl⟩ : ∃ m, K = m + 5 := ⟨K - 5, by omega⟩
    have hkl : k ≤ l.length := by omega
    have hflk := foldA_len (l.take k) (vs, 0)
    have hvv : ∀ (R : Nat) (a : List Int), a.length = vs.length → 20 < R → quarrelref01_Vals.f R a a = some true := fun R a ha hR => by
      rw [vals_f a a (by omega) R (by omega), decide_eq_true rfl]
    have hm1 : k - 1 < l.length := by omega
    have ew : wrap64 ((k : Int) - 1) = ((k - 1 : Nat) : Int) := by unfold wrap64; omega
    have ew1 : wrap64 ((k : Int) + 1) = ((k + 1 : Nat) : Int) := by unfold wrap64; omega
    have hx := hok _ (List.getElem_mem hm1)
    have hr := okB_range _ _ hx
    have hal := alone_take l vs k h1 hkl h hv
    have hmore := langAlone_f (l.take k ++ [⟨3, 0, 3⟩, ⟨1, l[k - 1].f1, 0⟩]) vs (by omega)
    rw [fold_more] at hmore
    have hnext := ih K (k + 1) (by omega) (by omega) (by omega)
    have hj6 : ∀ b : Bool, (b = true → l[k - 1].f0 = 2 ∧ k < 7) → quarrellaw11_LangLast.j6 (K + 1) l vs (foldA l (vs, 0)).1 (k : Int) (foldA (l.take k) (vs, 0)).1 b l[k - 1].f0 l[k - 1].f1 l[k - 1].f2 = some true := by
      intro b hb
      simp only [quarrellaw11_LangLast.j6]
      rw [ew1]
      by_cases hbt : b = true
      · obtain ⟨hf2, h7⟩ := hb hbt
        have hr2 := hr (.inr hf2)
        rw [if_pos (right_more l _ k h1 h7 hkl h _ hr2.1 hr2.2)] at hmore
        rw [if_pos hbt]
        simp only [Option.bind_some, List.nil_append, List.length_nil, Nat.zero_add]
        rw [if_pos (by omega), if_pos (by omega), Int.toNat_natCast, if_pos (by rw [List.length_take]; omega), if_pos (by rw [List.length_take]; simp; omega), hmore]
        simp only [Option.bind_some, if_true]
        rw [hvv K _ hflk (by omega)]
        simp only [Option.bind_some, if_true]
        exact hnext
      · rw [if_neg hbt]
        exact hnext
    have hj5 : quarrellaw11_LangLast.j5 (K + 2) l vs (foldA l (vs, 0)).1 (k : Int) (foldA (l.take k) (vs, 0)).1 l[k - 1].f0 l[k - 1].f1 l[k - 1].f2 = some true := by
      simp only [quarrellaw11_LangLast.j5]
      by_cases hf2 : l[k - 1].f0 = 2
      · rw [if_pos hf2]
        refine hj6 _ (fun hb => ⟨hf2, ?_⟩)
        have := of_decide_eq_true hb
        omega
      · rw [if_neg hf2]
        exact hj6 false (fun hb => by cases hb)
    have hj4 : quarrellaw11_LangLast.j4 (K + 3) l vs (foldA l (vs, 0)).1 (k : Int) (foldA (l.take k) (vs, 0)).1 false = some true := by
      simp only [quarrellaw11_LangLast.j4]
      rw [ew, if_neg (by simp), if_pos (by omega), if_pos (by omega), rd_T33_nat l (k - 1) hm1]
      by_cases hf2 : l[k - 1].f0 = 2
      · rw [if_pos hf2]
        exact hj5
      · rw [if_neg hf2]
        have hfs := fold_same l vs.length vs (k - 1) hm1 hx hf2
        rw [show k - 1 + 1 = k by omega] at hfs
        by_cases hk1 : (k : Int) > 1
        · rw [if_pos hk1, if_pos (by omega), Int.toNat_natCast, alone_take l vs (k - 1) (by omega) (by omega) h hv]
          simp only [Option.bind_some]
          rw [← hfs, hvv _ _ hflk (by omega)]
          simp only [Option.bind_some, if_true]
          exact hj5
        · rw [if_neg hk1]
          have hk0 : k = 1 := by omega
          have hf0 : (foldA (l.take k) (vs, 0)).1 = vs := by rw [hfs, hk0]; rfl
          have hv0 := hvv (K + 2) vs rfl (by omega)
          rw [hf0, hv0]
          rw [hf0] at hj5
          simp only [Option.bind_some, if_true]
          exact hj5
    have hj3 : quarrellaw11_LangLast.j3 (K + 4) l vs (foldA l (vs, 0)).1 (k : Int) (foldA (l.take k) (vs, 0)).1 false = some true := by
      simp only [quarrellaw11_LangLast.j3]
      rw [if_neg (by simp)]
      by_cases hkL : (k : Int) = (l.length : Int)
      · have hkn : k = l.length := by omega
        have hft : foldA (l.take k) (vs, 0) = foldA l (vs, 0) := by rw [hkn, List.take_length]
        have hq := hvv (K + 3) (foldA l (vs, 0)).1 (foldA_len l (vs, 0)) (by omega)
        rw [hft] at hj4
        rw [if_pos hkL, hft, hq]
        simp only [Option.bind_some, Bool.not_true]
        exact hj4
      · rw [if_neg hkL]
        exact hj4
    simp only [quarrellaw11_LangLast.l0]
    rw [if_pos (by omega), if_pos (by omega), Int.toNat_natCast, hal]
    simp only [Option.bind_some, if_true]
    simp only at hflk
    rw [hflk]
    simp only [bne_self_eq_false]
    exact hj3

theorem LangLast : quarrellaw11_LangLast.Pure := by
  intro l vs hl _ _ _
  obtain ⟨K, hK⟩ : ∃ K : Nat, 9999 + l.length ≤ K := ⟨_, Nat.le_refl _⟩
  refine ⟨K + 2, ?_⟩
  unfold quarrellaw11_LangLast.f
  rw [alive_f _ (by omega)]
  simp only [Option.bind_some, if_true]
  by_cases h0 : (vs.length : Int) < 1
  · rw [if_pos h0]
    simp only [quarrellaw11_LangLast.j0, if_true]
  rw [if_neg h0]
  by_cases h1 : (vs.length : Int) > 8
  · rw [if_pos h1]
    simp only [quarrellaw11_LangLast.j0, if_true]
  rw [if_neg h1, right_f l _ hl _ (by omega)]
  simp only [Option.bind_some]
  cases hr : rightB l (vs.length : Int) with
  | false => simp only [quarrellaw11_LangLast.j0]; simp
  | true =>
    have hr' := hr
    simp only [rightB, Bool.and_eq_true, List.all_eq_true, decide_eq_true_eq] at hr'
    have hfl := foldA_len l (vs, 0)
    simp only at hfl
    simp only [quarrellaw11_LangLast.j0, Bool.not_true]
    rw [if_neg (by simp), langAlone_f l vs (by omega), if_pos hr]
    simp only [Option.bind_some, if_true, quarrellaw11_LangLast.j1]
    rw [hfl, if_neg (by simp)]
    have := last_loop l vs (by omega) hr hr'.1.2 hr'.2 l.length K 1 (by omega) (by omega) (by omega)
    simpa using this
end Go.Proofs.Ytgefdpmhdidnnaa.Pure
