/- Plain laws: what Get, Put and Same come to, of the program and of the reference, over lists of bytes and operations. Conditions: the lists' lengths, below the bounds that stand in each. -/
import Derived.Test.YtgefdpmhdidnnaaLPlain
import Derived.Test.YtgefdpmhdidnnaaLx12
import Derived.Test.YtgefdpmhdidnnaaLx13
import Derived.Test.YtgefdpmhdidnnaaLx14
namespace Go.Proofs.Ytgefdpmhdidnnaa.L
open Go.RowKit Go.Proofs.YtgefdpmhdidnnaaW.PrintWords

/-- A byte's number of two's complement. -/
def sgn (c : Int) : Int := if c > 127 then c - 256 else c
def getL (n : Int) : List Int → Int → List S33 → List S33 × Int × Int
  | [], _, acc => (acc, -1, 0)
  | [_], i, _ => ([], i, 9)
  | [_, _], i, _ => ([], i, 9)
  | a :: b :: c :: t, i, acc => if okB ⟨a, b, sgn c⟩ n = true then getL n t (i + 3) (acc ++ [⟨a, b, sgn c⟩]) else ([], i, 3)

def isBytes (b : List Int) : Prop := ∀ x ∈ b, 0 ≤ x ∧ x ≤ 255
theorem wrap64_in {x : Int} (h : -9223372036854775808 ≤ x ∧ x ≤ 9223372036854775807) : wrap64 x = x := by unfold wrap64; omega
theorem i8_sgn {c : Int} (h : 0 ≤ c ∧ c ≤ 255) : wrap64 (IntKind.i8.wrap c) = sgn c := by
  have e : IntKind.i8.wrap c = sgn c := by
    unfold sgn
    by_cases h1 : c > 127
    · rw [if_pos h1]
      simp [IntKind.wrap, IntKind.signed, IntKind.bits]
      omega
    · rw [if_neg h1]
      simp [IntKind.wrap, IntKind.signed, IntKind.bits]
      omega
  rw [e]
  exact wrap64_in (by unfold sgn; split <;> omega)

theorem drop3 (b : List Int) (i : Nat) (h : i + 2 < b.length) : b.drop i = b[i] :: b[i + 1] :: b[i + 2] :: b.drop (i + 3) := by
  rw [List.drop_eq_getElem_cons (by omega), List.drop_eq_getElem_cons (i := i + 1) (by omega), List.drop_eq_getElem_cons (i := i + 1 + 1) (by omega)]

theorem get_loop (n : Int) (b : List Int) (hb : isBytes b) (hm : b.length < 5864062014805) : ∀ (d k i : Nat) (acc : List S33), i + d = b.length → d < k → acc.length ≤ i →
    lang_Get.l0 k b n acc (i : Int) = some (getL n (b.drop i) (i : Int) acc) := by
  intro d
  induction d using Nat.strongRecOn with
  | _ d ih =>
    intro k i acc hi hk ha
    obtain ⟨k, rfl⟩ : ∃ m, k = m + 1 := ⟨k - 1, by omega⟩
    simp only [lang_Get.l0]
    by_cases h0 : i < b.length
    · rw [if_pos (by omega)]
      have ws : wrap64 ((b.length : Int) - (i : Int)) = ((b.length - i : Nat) : Int) := by rw [wrap64_in (by omega)]; omega
      rw [ws]
      clear ws
      by_cases h3 : b.length - i < 3
      · rw [if_pos (by omega)]
        rcases (show b.length = i + 1 ∨ b.length = i + 2 by omega) with h | h
        · rw [List.drop_eq_getElem_cons h0, List.drop_of_length_le (by omega)]
          rfl
        · rw [List.drop_eq_getElem_cons h0, List.drop_eq_getElem_cons (i := i + 1) (by omega), List.drop_of_length_le (by omega)]
          rfl
      · rw [if_neg (by omega)]
        have e1 : wrap64 ((i : Int) + 1) = ((i + 1 : Nat) : Int) := by rw [wrap64_in (by omega)]; omega
        have e2 : wrap64 ((i : Int) + 2) = ((i + 2 : Nat) : Int) := by rw [wrap64_in (by omega)]; omega
        have e3 : wrap64 ((i : Int) + 3) = ((i + 3 : Nat) : Int) := by rw [wrap64_in (by omega)]; omega
        rw [e1, e2, e3]
        clear e1 e2 e3
        rw [if_pos (by omega), if_pos (by omega), if_pos (by omega), if_pos (by omega), if_pos (by omega)]
        rw [rd_nat b i h0, rd_nat b (i + 1) (by omega), rd_nat b (i + 2) (by omega)]
        have b0 := hb _ (List.getElem_mem h0)
        have b1 := hb _ (List.getElem_mem (show i + 1 < b.length by omega))
        have b2 := hb _ (List.getElem_mem (show i + 2 < b.length by omega))
        rw [i8_sgn b2, wrap64_in (x := b[i]) (by omega), wrap64_in (x := b[i + 1]) (by omega), drop3 b i (by omega)]
        rw [show lang_Ok.f b[i] b[i + 1] (sgn b[i + 2]) n = some (okB ⟨b[i], b[i + 1], sgn b[i + 2]⟩ n) from lang_Ok_f ⟨b[i], b[i + 1], sgn b[i + 2]⟩ n]
        simp only [Option.bind_some, getL]
        by_cases ho : okB ⟨b[i], b[i + 1], sgn b[i + 2]⟩ n = true
        · rw [if_pos ho, if_pos ho, if_pos (by omega), ih (d - 3) (by omega) k (i + 3) _ (by omega) (by omega) (by simp; omega)]
          rfl
        · rw [if_neg ho, if_neg ho]
    · rw [if_neg (by omega), List.drop_of_length_le (by omega)]
      rfl
theorem get_f (n : Int) (b : List Int) (hb : isBytes b) (hm : b.length < 5864062014805) (k : Nat) (hk : b.length < k) : lang_Get.f k b n = some (getL n b 0 []) := by
  unfold lang_Get.f
  have := get_loop n b hb hm b.length k 0 [] (by omega) hk (by simp)
  simpa using this

theorem refGet_loop (n : Int) (b : List Int) (hb : isBytes b) (hm : b.length < 5864062014805) : ∀ (d k i : Nat) (acc : List S33), i + d = b.length → d + 1 < k → acc.length * 3 = i →
    quarrelref11_Get.l0 k b n acc = some (getL n (b.drop i) (i : Int) acc) := by
  intro d
  induction d using Nat.strongRecOn with
  | _ d ih =>
    intro k i acc hi hk ha
    obtain ⟨k, rfl⟩ : ∃ m, k = m + 1 := ⟨k - 1, by omega⟩
    have e0 : wrap64 ((acc.length : Int) * 3) = (i : Int) := by rw [wrap64_in (by omega)]; omega
    simp only [quarrelref11_Get.l0]
    rw [e0]
    clear e0
    by_cases h0 : i < b.length
    · rw [if_pos (by omega)]
      have e1 : wrap64 ((i : Int) + 1) = ((i + 1 : Nat) : Int) := by rw [wrap64_in (by omega)]; omega
      have e2 : wrap64 ((i : Int) + 2) = ((i + 2 : Nat) : Int) := by rw [wrap64_in (by omega)]; omega
      have e3 : wrap64 ((i : Int) + 3) = ((i + 3 : Nat) : Int) := by rw [wrap64_in (by omega)]; omega
      rw [e1, e2, e3]
      clear e1 e2 e3
      by_cases h3 : b.length - i < 3
      · rw [if_pos (by omega)]
        rcases (show b.length = i + 1 ∨ b.length = i + 2 by omega) with h | h
        · rw [List.drop_eq_getElem_cons h0, List.drop_of_length_le (by omega)]
          rfl
        · rw [List.drop_eq_getElem_cons h0, List.drop_eq_getElem_cons (i := i + 1) (by omega), List.drop_of_length_le (by omega)]
          rfl
      · rw [if_neg (by omega)]
        rw [if_pos (by omega), if_pos (by omega)]
        rw [rd_nat b i h0, rd_nat b (i + 1) (by omega), rd_nat b (i + 2) (by omega)]
        have b0 := hb _ (List.getElem_mem h0)
        have b1 := hb _ (List.getElem_mem (show i + 1 < b.length by omega))
        have b2 := hb _ (List.getElem_mem (show i + 2 < b.length by omega))
        rw [wrap64_in (x := b[i + 2]) (by omega), wrap64_in (x := b[i]) (by omega), wrap64_in (x := b[i + 1]) (by omega), wrap64_in (x := b[i + 2] - 256) (by omega), drop3 b i (by omega)]
        have hgo : ∀ c : Int, c = sgn b[i + 2] → ((quarrelref11_Ok.f k b[i] b[i + 1] c n).bind fun t => if t = true then (if acc.length < 5864062014805 then quarrelref11_Get.l0 k b n (acc ++ [⟨b[i], b[i + 1], c⟩]) else none) else some ([], (i : Int), 3)) =
            some (getL n (b[i] :: b[i + 1] :: b[i + 2] :: b.drop (i + 3)) (i : Int) acc) := by
          intro c hc
          subst hc
          rw [show quarrelref11_Ok.f k b[i] b[i + 1] (sgn b[i + 2]) n = some (okB ⟨b[i], b[i + 1], sgn b[i + 2]⟩ n) from refOk_f ⟨b[i], b[i + 1], sgn b[i + 2]⟩ n k (by omega)]
          simp only [Option.bind_some, getL]
          by_cases ho : okB ⟨b[i], b[i + 1], sgn b[i + 2]⟩ n = true
          · rw [if_pos ho, if_pos ho, if_pos (by omega), ih (d - 3) (by omega) k (i + 3) _ (by omega) (by omega) (by simp; omega)]
            rfl
          · rw [if_neg ho, if_neg ho]
        by_cases hs : b[i + 2] > 127
        · rw [if_pos hs, if_pos (by omega), if_pos (by omega), if_pos (by omega)]
          exact hgo _ (by unfold sgn; rw [if_pos hs])
        · rw [if_neg hs, if_pos (by omega), if_pos (by omega), if_pos (by omega)]
          exact hgo _ (by unfold sgn; rw [if_neg hs])
    · rw [if_neg (by omega), List.drop_of_length_le (by omega)]
      rfl
theorem refGet_f (n : Int) (b : List Int) (hb : isBytes b) (hm : b.length < 5864062014805) (k : Nat) (hk : b.length + 1 < k) : quarrelref11_Get.f k b n = some (getL n b 0 []) := by
  unfold quarrelref11_Get.f
  have := refGet_loop n b hb hm b.length k 0 [] (by omega) hk (by simp)
  simpa using this

theorem same_loop (a b : List S33) (hl : a.length = b.length) (hm : a.length ≤ 9223372036854775807) : ∀ (d k i : Nat), i + d = a.length → d < k →
    ∃ r, quarrelref11_Same.l0 k a b (i : Int) = some r ∧ (r = true ↔ a.drop i = b.drop i) := by
  intro d
  induction d with
  | zero =>
    intro k i hi hk
    obtain ⟨k, rfl⟩ : ∃ m, k = m + 1 := ⟨k - 1, by omega⟩
    simp only [quarrelref11_Same.l0]
    rw [if_neg (by omega), List.drop_of_length_le (by omega), List.drop_of_length_le (by omega)]
    exact ⟨true, rfl, by simp⟩
  | succ d ih =>
    intro k i hi hk
    obtain ⟨k, rfl⟩ : ∃ m, k = m + 1 := ⟨k - 1, by omega⟩
    have ha : i < a.length := by omega
    have hb : i < b.length := by omega
    simp only [quarrelref11_Same.l0]
    rw [if_pos (by omega), if_pos (by omega), if_pos (by omega), rd_T33_nat a i ha, rd_T33_nat b i hb, List.drop_eq_getElem_cons ha, List.drop_eq_getElem_cons hb, w1 ha hm]
    obtain ⟨r, hr, hiff⟩ := ih k (i + 1) (by omega) (by omega)
    generalize a[i] = x
    generalize b[i] = y
    obtain ⟨x0, x1, x2⟩ := x
    obtain ⟨y0, y1, y2⟩ := y
    by_cases e : x0 = y0 ∧ x1 = y1 ∧ x2 = y2
    · obtain ⟨rfl, rfl, rfl⟩ := e
      rw [if_neg (by simp)]
      exact ⟨r, hr, by rw [hiff]; simp⟩
    · rw [if_pos (by simp; omega)]
      refine ⟨false, rfl, ?_⟩
      simp
      intro h1 h2 h3
      exact absurd ⟨h1, h2, h3⟩ e
theorem same_f (a b : List S33) (hm : a.length ≤ 9223372036854775807) (k : Nat) (hk : a.length < k) : ∃ r, quarrelref11_Same.f k a b = some r ∧ (r = true ↔ a = b) := by
  unfold quarrelref11_Same.f
  by_cases e : a.length = b.length
  · rw [if_pos (by omega)]
    have := same_loop a b e hm a.length k 0 (by omega) hk
    simpa using this
  · rw [if_neg (by omega)]
    exact ⟨false, rfl, by simp; intro h; exact e (by rw [h])⟩
end Go.Proofs.Ytgefdpmhdidnnaa.L
