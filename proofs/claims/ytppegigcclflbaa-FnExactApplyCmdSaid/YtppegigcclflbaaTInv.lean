/- The table stays in form under well-formed commands; a log's table. Plain, no program. -/
import Derived.Test.YtppegigcclflbaaTCmd
namespace Go.Proofs.Ytppegigcclflbaa.PFnExactApplyCmd
open Go.RowKit Go.Proofs.YtppegigcclflbaaW.PrintWords Go.Proofs.YtppegigcclflbaaW.PrintLast Go.Proofs.YtppegigcclflbaaW.PrintMore
open Go.Proofs.Ytppegigcclflbaa.PStr

structure TOk (P : List S157) (S : List S146) : Prop where
  p : SortedP P
  s : SortedS S
  l : P.length ≤ 256
  k : ∀ q ∈ P, q.f0.size ≤ 64 ∧ q.f1.size ≤ 64
theorem TOk.nil : TOk [] [] := ⟨List.Pairwise.nil, ⟨List.Pairwise.nil, fun s h => by cases h⟩, by simp, fun q h => by cases h⟩
theorem few_from : ∀ (S : List S146) (a : Int), S.Pairwise (fun a b => a.f0 < b.f0) → (∀ s ∈ S, a ≤ s.f0 ∧ s.f0 ≤ 8) → S.length ≤ (9 - a).toNat
  | [], _, _, _ => by simp
  | s :: S, a, h, hb => by
    have h2 := List.pairwise_cons.1 h
    have hs := hb s List.mem_cons_self
    have := few_from S (s.f0 + 1) h2.2 (fun t ht => ⟨by have := h2.1 t ht; omega, (hb t (List.mem_cons_of_mem _ ht)).2⟩)
    rw [List.length_cons]
    omega
theorem few {S : List S146} (h : SortedS S) : S.length ≤ 8 := few_from S 1 h.1 h.2
theorem parts_le (k : List UInt8) : ∀ P : List S157, (P.filter (fun p => decide (p.f0.toList < k))).length + (P.filter (fun p => decide (k < p.f0.toList))).length + (if (lookP P k).isSome = true then 1 else 0) ≤ P.length
  | [] => by simp [lookP]
  | p :: P => by
    have ih := parts_le k P
    rw [List.filter_cons, List.filter_cons, lookP_cons]
    rcases lt_tri p.f0.toList k with h | h | h
    · have h2 := lt_asym h
      have h3 : ¬ p.f0.toList = k := fun e => lt_irr k (by rw [e] at h; exact h)
      rw [if_pos (decide_eq_true h), if_neg (by rw [decide_eq_true_iff]; exact h2), if_neg h3, List.length_cons, List.length_cons]
      omega
    · have h2 : ¬ p.f0.toList < k := by rw [h]; exact lt_irr k
      have h3 : ¬ k < p.f0.toList := by rw [h]; exact lt_irr k
      rw [if_neg (by rw [decide_eq_true_iff]; exact h2), if_neg (by rw [decide_eq_true_iff]; exact h3), if_pos h, List.length_cons]
      rw [if_pos (show (some p.f1).isSome = true from rfl)]
      omega
    · have h2 := lt_asym h
      have h3 : ¬ p.f0.toList = k := fun e => lt_irr k (by rw [e] at h; exact h)
      rw [if_neg (by rw [decide_eq_true_iff]; exact h2), if_pos (decide_eq_true h), if_neg h3, List.length_cons, List.length_cons]
      omega
theorem with_len (P : List S157) (k : ByteArray) (put : Bool) (v : ByteArray) : (withP P k put v).length + (if (lookP P k.toList).isSome = true then 1 else 0) ≤ P.length + (if put = true then 1 else 0) := by
  have := parts_le k.toList P
  unfold withP
  rw [List.length_append, List.length_append]
  cases put
  · simp only [Bool.false_eq_true, if_false, List.length_nil]
    omega
  · simp only [if_true, List.length_cons, List.length_nil]
    omega
theorem with_mem {P : List S157} {k : ByteArray} {put : Bool} {v : ByteArray} {q : S157} (h : q ∈ withP P k put v) : q = ⟨k, v⟩ ∨ q ∈ P := by
  unfold withP at h
  rcases List.mem_append.1 h with h | h
  · rcases List.mem_append.1 h with h | h
    · exact .inr (List.mem_filter.1 h).1
    · cases put
      · simp at h
      · simp at h
        exact .inl h
  · exact .inr (List.mem_filter.1 h).1
theorem fault_zero {c0 c1 c2 : Int} {key val old : ByteArray} (h : faultC c0 c1 c2 key val old = 0) : (c2 = 0 ∨ (c2 = 1 ∨ c2 = 2 ∨ c2 = 3 ∨ c2 = 4) ∧ 1 ≤ c0 ∧ c0 ≤ 8) ∧ key.size ≤ 64 ∧ val.size ≤ 64 ∧ old.size ≤ 64 := by
  unfold faultC at h
  by_cases h1 : c2 < 0 ∨ c2 > 4
  · rw [if_pos h1] at h
    exact absurd h (by decide)
  · rw [if_neg h1] at h
    by_cases h2 : c2 = 0
    · rw [if_pos h2] at h
      by_cases a0 : c0 ≠ 0
      · rw [if_pos a0] at h; exact absurd h (by decide)
      rw [if_neg a0] at h
      by_cases a1 : c1 ≠ 0
      · rw [if_pos a1] at h; exact absurd h (by decide)
      rw [if_neg a1] at h
      by_cases a2 : key.size ≠ 0
      · rw [if_pos a2] at h; exact absurd h (by decide)
      rw [if_neg a2] at h
      by_cases a3 : val.size ≠ 0
      · rw [if_pos a3] at h; exact absurd h (by decide)
      rw [if_neg a3] at h
      by_cases a4 : old.size ≠ 0
      · rw [if_pos a4] at h; exact absurd h (by decide)
      exact ⟨.inl h2, by omega, by omega, by omega⟩
    · rw [if_neg h2] at h
      by_cases a0 : c0 < 1 ∨ c0 > 8
      · rw [if_pos a0] at h; exact absurd h (by decide)
      rw [if_neg a0] at h
      by_cases a1 : c1 < 1 ∨ c1 > 1073741824
      · rw [if_pos a1] at h; exact absurd h (by decide)
      rw [if_neg a1] at h
      by_cases a2 : key.size < 1 ∨ key.size > 64
      · rw [if_pos a2] at h; exact absurd h (by decide)
      rw [if_neg a2] at h
      by_cases a3 : val.size > (if c2 = 2 ∨ c2 = 4 then 64 else 0)
      · rw [if_pos a3] at h; exact absurd h (by decide)
      rw [if_neg a3] at h
      by_cases a4 : old.size > (if c2 = 4 then 64 else 0)
      · rw [if_pos a4] at h; exact absurd h (by decide)
      have b3 : (if c2 = 2 ∨ c2 = 4 then 64 else 0) ≤ 64 := by split <;> omega
      have b4 : (if c2 = 4 then 64 else 0) ≤ 64 := by split <;> omega
      exact ⟨.inr ⟨by omega, by omega, by omega⟩, by omega, by omega, by omega⟩
theorem change_ok {P : List S157} (hP : SortedP P) (hl : P.length ≤ 256) (hk : ∀ q ∈ P, q.f0.size ≤ 64 ∧ q.f1.size ≤ 64) (c2 : Int) (key val old : ByteArray) (h1 : key.size ≤ 64) (h2 : val.size ≤ 64) :
    SortedP (changeF P c2 key val old).2.2 ∧ (changeF P c2 key val old).2.2.length ≤ 256 ∧ ∀ q ∈ (changeF P c2 key val old).2.2, q.f0.size ≤ 64 ∧ q.f1.size ≤ 64 := by
  have hstay : SortedP P ∧ P.length ≤ 256 ∧ ∀ q ∈ P, q.f0.size ≤ 64 ∧ q.f1.size ≤ 64 := ⟨hP, hl, hk⟩
  have hw : ∀ put, (withP P key put val).length ≤ 256 → SortedP (withP P key put val) ∧ (withP P key put val).length ≤ 256 ∧ ∀ q ∈ withP P key put val, q.f0.size ≤ 64 ∧ q.f1.size ≤ 64 := by
    intro put hle
    refine ⟨sorted_withP hP key put val, hle, fun q hq => ?_⟩
    rcases with_mem hq with rfl | hq
    · exact ⟨h1, h2⟩
    · exact hk q hq
  have ht := with_len P key true val
  have hf : (withP P key false val).length + (if (lookP P key.toList).isSome = true then 1 else 0) ≤ P.length + 0 := with_len P key false val
  rw [if_pos rfl] at ht
  unfold changeF
  cases hl2 : lookP P key.toList with
  | none =>
    simp only
    split
    · split
      · refine hw true ?_
        have : (if (lookP P key.toList).isSome = true then 1 else 0) = 0 := by rw [hl2]; rfl
        omega
      · exact hstay
    · exact hstay
  | some v =>
    have : (if (lookP P key.toList).isSome = true then 1 else 0) = 1 := by rw [hl2]; rfl
    simp only
    split
    · exact hstay
    · split
      · exact hw true (by omega)
      · split
        · exact hw false (by omega)
        · split
          · exact hw true (by omega)
          · exact hstay
theorem apply_ok {P : List S157} {S : List S146} (h : TOk P S) {c0 c1 c2 : Int} {key val old : ByteArray} (hf : faultC c0 c1 c2 key val old = 0) :
    TOk (applyF P S c0 c1 c2 key val old).2.2.2.1 (applyF P S c0 c1 c2 key val old).2.2.2.2 := by
  obtain ⟨hc, h1, h2, _⟩ := fault_zero hf
  unfold applyF
  by_cases a : c2 = 0
  · rw [if_pos a]; exact h
  rw [if_neg a]
  by_cases b : ((lookS S c0).getD z146).f1 > c1
  · rw [if_pos b]; exact h
  rw [if_neg b]
  by_cases c : ((lookS S c0).getD z146).f1 = c1
  · rw [if_pos c]; exact h
  rw [if_neg c]
  obtain ⟨x1, x2, x3⟩ := change_ok h.p h.l h.k c2 key val old h1 h2
  rcases hc with hc | hc
  · exact absurd hc a
  · exact ⟨x1, sorted_withS h.s hc.2, x2, x3⟩

end Go.Proofs.Ytppegigcclflbaa.PFnExactApplyCmd
