/- Whether a table is well-formed: plain, and what the program's wellFormed answers. -/
import Derived.Test.YtppegigcclflbaaTCmd
set_option linter.unusedVariables false
namespace Go.Proofs.Ytppegigcclflbaa.PFnExactApplyCmd
open Go.RowKit Go.Proofs.YtppegigcclflbaaW.PrintWords Go.Proofs.YtppegigcclflbaaW.PrintLast Go.Proofs.YtppegigcclflbaaW.PrintMore
open Go.Proofs.Ytppegigcclflbaa.PStr

def sizesP (p : S157) : Bool := decide (p.f0.size ≤ 64) && decide (p.f1.size ≤ 64)
def pairsOk : List UInt8 → List S157 → Bool
  | _, [] => true
  | prev, p :: ps => decide (prev < p.f0.toList) && (sizesP p && pairsOk p.f0.toList ps)
def sessB (s : S146) : Bool := decide (1 ≤ s.f0 ∧ s.f0 ≤ 8) && (decide (1 ≤ s.f1 ∧ s.f1 ≤ 1073741824) && (decide (1 ≤ s.f2 ∧ s.f2 ≤ 4) && decide (s.f3.size ≤ 64)))
def sessOk : Int → List S146 → Bool
  | _, [] => true
  | prev, s :: ss => decide (prev < s.f0) && (sessB s && sessOk s.f0 ss)
/-- A table is well-formed. -/
def tabOk (P : List S157) (S : List S146) : Bool := decide (P.length ≤ 256) && (pairsOk [] P && sessOk 0 S)

theorem bl (x y : List UInt8) : Op.bytesLess x y = decide (x < y) := bytesLess_eq x y
theorem wfT_l1 : ∀ (m k : Nat) (prev : Int) (S : List S146) (i : Nat), 0 ≤ prev → i + m = S.length → m < k → S.length < 4611686018427387000 → impl_Table_wellFormed.l1 k prev S (S.length : Int) (i : Int) = some (sessOk prev (S.drop i))
  | 0, k + 1, prev, S, i, _, h1, _, _ => by
    rw [impl_Table_wellFormed.l1, if_neg (by omega), List.drop_eq_nil_of_le (by omega)]
    rfl
  | m + 1, k + 1, prev, S, i, h0, h1, h2, h3 => by
    have hi : i < S.length := by omega
    rw [impl_Table_wellFormed.l1, if_pos (by omega), if_pos (by omega), if_pos (by omega), rd146_at hi, within_f, within_f, List.drop_eq_getElem_cons hi, sessOk, sessB]
    by_cases a : S[i].f0 ≤ prev
    · rw [if_pos a, decide_eq_false (show ¬ prev < S[i].f0 by omega)]
      rfl
    rw [if_neg a, decide_eq_true (show prev < S[i].f0 by omega)]
    by_cases b : S[i].f0 > 8
    · rw [if_pos b, decide_eq_false (show ¬ (1 ≤ S[i].f0 ∧ S[i].f0 ≤ 8) by omega)]
      rfl
    rw [if_neg b, decide_eq_true (show 1 ≤ S[i].f0 ∧ S[i].f0 ≤ 8 by omega), Option.bind_some]
    by_cases c : 1 ≤ S[i].f1 ∧ S[i].f1 ≤ 1073741824
    rotate_left
    · rw [decide_eq_false c]
      rfl
    rw [decide_eq_true c, if_pos rfl, Option.bind_some]
    by_cases d : 1 ≤ S[i].f2 ∧ S[i].f2 ≤ 4
    rotate_left
    · rw [decide_eq_false d]
      rfl
    rw [decide_eq_true d, if_pos rfl]
    by_cases e : (S[i].f3.size : Int) > 64
    · rw [if_pos e, decide_eq_false (show ¬ S[i].f3.size ≤ 64 by omega)]
      rfl
    · rw [if_neg e, decide_eq_true (show S[i].f3.size ≤ 64 by omega), w1 (by omega), wfT_l1 m k _ S (i + 1) (by omega) (by omega) (by omega) h3]
      simp
theorem wfT_l0 : ∀ (m k : Nat) (prev : ByteArray) (P : List S157) (S : List S146) (i : Nat), i + m = P.length → m + S.length + 1 < k → P.length < 4611686018427387000 → S.length < 4611686018427387000 → impl_Table_wellFormed.l0 k prev P (P.length : Int) (i : Int) P S = some (pairsOk prev.toList (P.drop i) && sessOk 0 S)
  | 0, k + 1, prev, P, S, i, h1, h2, _, h4 => by
    rw [impl_Table_wellFormed.l0, if_neg (by omega), List.drop_eq_nil_of_le (by omega)]
    have := wfT_l1 S.length k 0 S 0 (by omega) (by omega) (by omega) h4
    rw [List.drop_zero] at this
    exact this
  | m + 1, k + 1, prev, P, S, i, h1, h2, h3, h4 => by
    have hi : i < P.length := by omega
    rw [impl_Table_wellFormed.l0, if_pos (by omega), if_pos (by omega), if_pos (by omega), rd157_at hi, List.drop_eq_getElem_cons hi, pairsOk, sizesP, bl]
    by_cases a : prev.toList < P[i].f0.toList
    rotate_left
    · rw [decide_eq_false a]
      rfl
    rw [decide_eq_true a, if_pos rfl]
    by_cases b : (P[i].f0.size : Int) > 64
    · rw [if_pos b, decide_eq_false (show ¬ P[i].f0.size ≤ 64 by omega)]
      rfl
    rw [if_neg b, decide_eq_true (show P[i].f0.size ≤ 64 by omega)]
    by_cases c : (P[i].f1.size : Int) > 64
    · rw [if_pos c, decide_eq_false (show ¬ P[i].f1.size ≤ 64 by omega)]
      rfl
    · rw [if_neg c, decide_eq_true (show P[i].f1.size ≤ 64 by omega), w1 (by omega), wfT_l0 m k _ P S (i + 1) (by omega) (by omega) h3 h4]
      simp
theorem wfT_f {k : Nat} {P : List S157} {S : List S146} (hk : P.length + S.length + 1 < k) (hP : P.length < 4611686018427387000) (hS : S.length < 4611686018427387000) : impl_Table_wellFormed.f k P S = some (tabOk P S) := by
  unfold impl_Table_wellFormed.f tabOk
  by_cases h : (P.length : Int) > 256
  · rw [if_pos h, decide_eq_false (show ¬ P.length ≤ 256 by omega)]
    rfl
  · rw [if_neg h, decide_eq_true (show P.length ≤ 256 by omega)]
    have := wfT_l0 P.length k ⟨#[]⟩ P S 0 (by omega) hk hP hS
    have e : (⟨#[]⟩ : ByteArray).toList = [] := by rw [ByteArray.toList_eq]
    rw [List.drop_zero, e] at this
    rw [Bool.true_and]
    exact this

/-! ### Step by step, as the reference asks it -/
def stepP (P : List S157) (i : Nat) (h : i < P.length) : Bool := decide (1 ≤ P[i].f0.size) && (sizesP P[i] && (decide (i = 0) || decide ((P[i - 1]'(by omega)).f0.toList < P[i].f0.toList)))
theorem size_pos (s : ByteArray) : 1 ≤ s.size ↔ ([] : List UInt8) < s.toList := by
  rw [ByteArray.toList_eq]
  cases s with
  | mk d =>
    cases d with
    | mk l =>
      show 1 ≤ l.length ↔ [] < l
      cases l with
      | nil => simp
      | cons a l => simp
theorem pairsOk_steps : ∀ (P : List S157) (prev : List UInt8), pairsOk prev P = true ↔ (∀ (i : Nat) (h : i < P.length), sizesP P[i] = true ∧ (if h0 : i = 0 then prev < P[i].f0.toList else (P[i - 1]'(by omega)).f0.toList < P[i].f0.toList))
  | [], prev => by simp [pairsOk]
  | p :: ps, prev => by
    rw [pairsOk, Bool.and_eq_true, Bool.and_eq_true, decide_eq_true_iff, pairsOk_steps ps]
    constructor
    · rintro ⟨h1, h2, h3⟩ i hi
      cases i with
      | zero => exact ⟨h2, by rw [dif_pos rfl]; exact h1⟩
      | succ i =>
        have hi' : i < ps.length := by simpa using hi
        obtain ⟨a, b⟩ := h3 i hi'
        refine ⟨a, ?_⟩
        rw [dif_neg (by omega)]
        cases i with
        | zero => rw [dif_pos rfl] at b; exact b
        | succ i => rw [dif_neg (by omega)] at b; exact b
    · intro h
      have h0 := h 0 (by simp)
      refine ⟨by have := h0.2; rw [dif_pos rfl] at this; exact this, h0.1, fun i hi => ?_⟩
      have hs := h (i + 1) (by simp; exact hi)
      refine ⟨hs.1, ?_⟩
      have h2 := hs.2
      rw [dif_neg (by omega)] at h2
      cases i with
      | zero => rw [dif_pos rfl]; exact h2
      | succ i => rw [dif_neg (by omega)]; exact h2
theorem lt_nil_of_lt {x y : List UInt8} (h : x < y) : [] < y := by
  cases y with
  | nil => exact absurd h (List.not_lt_nil x)
  | cons a l => simp
theorem pairsOk_iff (P : List S157) : pairsOk [] P = true ↔ ∀ (i : Nat) (h : i < P.length), stepP P i h = true := by
  rw [pairsOk_steps]
  constructor
  · intro h i hi
    obtain ⟨a, b⟩ := h i hi
    unfold stepP
    by_cases h0 : i = 0
    · subst h0
      rw [dif_pos rfl] at b
      simp [a, (size_pos _).2 b]
    · rw [dif_neg h0] at b
      simp [a, (size_pos _).2 (lt_nil_of_lt b), b]
  · intro h i hi
    have hs := h i hi
    unfold stepP at hs
    simp only [Bool.and_eq_true, Bool.or_eq_true, decide_eq_true_eq] at hs
    refine ⟨hs.2.1, ?_⟩
    by_cases h0 : i = 0
    · subst h0
      rw [dif_pos rfl]
      exact (size_pos _).1 hs.1
    · rw [dif_neg h0]
      exact hs.2.2.resolve_left h0
def stepS (S : List S146) (i : Nat) (h : i < S.length) : Bool := sessB S[i] && (decide (i = 0) || decide ((S[i - 1]'(by omega)).f0 < S[i].f0))
theorem sessOk_steps : ∀ (S : List S146) (prev : Int), sessOk prev S = true ↔ (∀ (i : Nat) (h : i < S.length), sessB S[i] = true ∧ (if h0 : i = 0 then prev < S[i].f0 else (S[i - 1]'(by omega)).f0 < S[i].f0))
  | [], prev => by simp [sessOk]
  | p :: ps, prev => by
    rw [sessOk, Bool.and_eq_true, Bool.and_eq_true, decide_eq_true_iff, sessOk_steps ps]
    constructor
    · rintro ⟨h1, h2, h3⟩ i hi
      cases i with
      | zero => exact ⟨h2, by rw [dif_pos rfl]; exact h1⟩
      | succ i =>
        have hi' : i < ps.length := by simpa using hi
        obtain ⟨a, b⟩ := h3 i hi'
        refine ⟨a, ?_⟩
        rw [dif_neg (by omega)]
        cases i with
        | zero => rw [dif_pos rfl] at b; exact b
        | succ i => rw [dif_neg (by omega)] at b; exact b
    · intro h
      have h0 := h 0 (by simp)
      refine ⟨by have := h0.2; rw [dif_pos rfl] at this; exact this, h0.1, fun i hi => ?_⟩
      have hs := h (i + 1) (by simp; exact hi)
      refine ⟨hs.1, ?_⟩
      have h2 := hs.2
      rw [dif_neg (by omega)] at h2
      cases i with
      | zero => rw [dif_pos rfl]; exact h2
      | succ i => rw [dif_neg (by omega)]; exact h2
theorem sessB_f0 {s : S146} (h : sessB s = true) : 1 ≤ s.f0 ∧ s.f0 ≤ 8 := by
  unfold sessB at h
  rw [Bool.and_eq_true, decide_eq_true_iff] at h
  exact h.1
theorem sessOk_iff (S : List S146) : sessOk 0 S = true ↔ ∀ (i : Nat) (h : i < S.length), stepS S i h = true := by
  rw [sessOk_steps]
  constructor
  · intro h i hi
    obtain ⟨a, b⟩ := h i hi
    unfold stepS
    by_cases h0 : i = 0
    · rw [a]
      simp [h0]
    · rw [dif_neg h0] at b
      rw [a]
      simp [b]
  · intro h i hi
    have hs := h i hi
    unfold stepS at hs
    simp only [Bool.and_eq_true, Bool.or_eq_true, decide_eq_true_eq] at hs
    refine ⟨hs.1, ?_⟩
    by_cases h0 : i = 0
    · subst h0
      rw [dif_pos rfl]
      have := (sessB_f0 hs.1).1
      omega
    · rw [dif_neg h0]
      exact hs.2.resolve_left h0
theorem sessB_f (s : S146) : spec_l5sessionOk.f s.f0 s.f1 s.f2 s.f3 = some (sessB s) := by
  have l1 : ∀ a b c : Int, spec_l1in.f a b c = some (decide (b ≤ a ∧ a ≤ c)) := by
    intro a b c
    unfold spec_l1in.f
    by_cases h : b ≤ a
    · rw [if_pos h]; simp [h]
    · rw [if_neg h]; simp [h]
  unfold spec_l5sessionOk.f sessB
  rw [l1, l1, l1, Option.bind_some]
  by_cases a : 1 ≤ s.f0 ∧ s.f0 ≤ 8
  rotate_left
  · rw [decide_eq_false a]; rfl
  rw [decide_eq_true a, if_pos rfl, Option.bind_some]
  by_cases b : 1 ≤ s.f1 ∧ s.f1 ≤ 1073741824
  rotate_left
  · rw [decide_eq_false b]; rfl
  rw [decide_eq_true b, if_pos rfl, Option.bind_some]
  by_cases c : 1 ≤ s.f2 ∧ s.f2 ≤ 4
  rotate_left
  · rw [decide_eq_false c]; rfl
  rw [decide_eq_true c, if_pos rfl]
  simp
  omega
/-- A well-formed table is in form. -/
theorem tabOk_sorted {P : List S157} {S : List S146} (h : tabOk P S = true) : SortedP P ∧ SortedS S ∧ P.length ≤ 256 ∧ (∀ q ∈ P, q.f0.size ≤ 64 ∧ q.f1.size ≤ 64) := by
  unfold tabOk at h
  simp only [Bool.and_eq_true, decide_eq_true_eq] at h
  obtain ⟨hl, hp, hs⟩ := h
  refine ⟨?_, ?_, hl, ?_⟩
  · have : ∀ (P : List S157) (prev : List UInt8), pairsOk prev P = true → (∀ q ∈ P, prev < q.f0.toList) ∧ SortedP P := by
      intro P
      induction P with
      | nil => exact fun _ _ => ⟨fun q hq => by (cases hq), List.Pairwise.nil⟩
      | cons p ps ih =>
        intro prev h
        rw [pairsOk, Bool.and_eq_true, Bool.and_eq_true, decide_eq_true_iff] at h
        obtain ⟨a, b⟩ := ih _ h.2.2
        refine ⟨fun q hq => ?_, List.pairwise_cons.2 ⟨a, b⟩⟩
        rcases List.mem_cons.1 hq with rfl | hq
        · exact h.1
        · exact lt_tr h.1 (a q hq)
    exact (this P [] hp).2
  · have : ∀ (S : List S146) (prev : Int), sessOk prev S = true → (∀ q ∈ S, prev < q.f0) ∧ SortedS S := by
      intro S
      induction S with
      | nil => exact fun _ _ => ⟨fun q hq => by (cases hq), ⟨List.Pairwise.nil, fun q hq => by (cases hq)⟩⟩
      | cons p ps ih =>
        intro prev h
        rw [sessOk, Bool.and_eq_true, Bool.and_eq_true, decide_eq_true_iff] at h
        obtain ⟨a, b⟩ := ih _ h.2.2
        refine ⟨fun q hq => ?_, ⟨List.pairwise_cons.2 ⟨a, b.1⟩, fun q hq => ?_⟩⟩
        · rcases List.mem_cons.1 hq with rfl | hq
          · exact h.1
          · have := a q hq; omega
        · rcases List.mem_cons.1 hq with rfl | hq
          · exact sessB_f0 h.2.1
          · exact b.2 q hq
    exact (this S 0 hs).2
  · intro q hq
    obtain ⟨i, hi, rfl⟩ := List.getElem_of_mem hq
    have := ((pairsOk_steps P []).1 hp i hi).1
    unfold sizesP at this
    simpa using this
end Go.Proofs.Ytppegigcclflbaa.PFnExactApplyCmd
