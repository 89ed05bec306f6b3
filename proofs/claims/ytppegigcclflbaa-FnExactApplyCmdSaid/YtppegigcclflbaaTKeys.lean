/- The two maps' keys, sorted. -/
import Derived.Test.YtppegigcclflbaaTMaps
namespace Go.Proofs.Ytppegigcclflbaa.PFnExactApplyCmd
open Go.RowKit Go.Proofs.YtppegigcclflbaaW.PrintWords Go.Proofs.YtppegigcclflbaaW.PrintLast Go.Proofs.YtppegigcclflbaaW.PrintMore
open Go.Proofs.Ytppegigcclflbaa.PStr
open Go.Maps (has IsMap)
open Go.Sort Go.Shelf

theorem mem_intKeys {H : Type} {P : Program} {k : TypeId} {R : Value → Option (DataW H × List MemPlace)} {w : World} {b n : Nat} {D : DataW H} (hown : w.ownsMap P k R b n D) (hk : P.underlying k = some (.int .i64)) :
    (intKeys D).Nodup ∧ ∀ x, x ∈ intKeys D ↔ has D (.int .i64 x) = true := by
  obtain ⟨es, hD, hpw, _⟩ := hown.entries (Maps.int_keyed hk)
  obtain ⟨es', hD', hko⟩ := hown.keysOf
  obtain rfl : es = es' := by rw [hD] at hD'; simpa using hD'
  subst hD
  have hki : ∀ p ∈ es, ∃ x, p.1 = .int .i64 x := fun p hp => by obtain ⟨v, hv⟩ := hko p hp; obtain ⟨x, _, hx, _⟩ := Maps.keyOf_i64 hk hv; exact ⟨x, hx⟩
  constructor
  · show (es.map fun p => Go.intOf p.1).Nodup
    refine List.pairwise_map.2 (hpw.imp_of_mem fun {p q} hp' hq' hne e => hne ?_)
    obtain ⟨a, ha⟩ := hki p hp'
    obtain ⟨b, hb⟩ := hki q hq'
    rw [ha, hb] at e ⊢
    exact congrArg _ e
  · intro x
    rw [Maps.has_eq, List.any_eq_true]
    show x ∈ es.map (fun p => Go.intOf p.1) ↔ _
    rw [List.mem_map]
    constructor
    · rintro ⟨p, hp', rfl⟩
      obtain ⟨a, ha⟩ := hki p hp'
      exact ⟨p, hp', by rw [ha]; simp [Lit.sameKey, Go.intOf]⟩
    · rintro ⟨p, hp', hs⟩
      obtain ⟨a, ha⟩ := hki p hp'
      rw [ha] at hs
      exact ⟨p, hp', by rw [ha]; simpa [Lit.sameKey, Go.intOf] using hs⟩
theorem mem_strKeys {H : Type} {P : Program} {k : TypeId} {R : Value → Option (DataW H × List MemPlace)} {w : World} {b n : Nat} {D : DataW H} (hown : w.ownsMap P k R b n D) (hk : P.underlying k = some .string) :
    (strKeys D).Nodup ∧ (∀ x, x ∈ strKeys D ↔ has D (.string x) = true) ∧ (strKeys D).length = Maps.size D := by
  obtain ⟨es, hD, hpw, _⟩ := hown.entries (Maps.string_keyed hk)
  obtain ⟨es', hD', hko⟩ := hown.keysOf
  obtain rfl : es = es' := by rw [hD] at hD'; simpa using hD'
  subst hD
  have hki : ∀ p ∈ es, ∃ x, p.1 = .string x := fun p hp => by obtain ⟨v, hv⟩ := hko p hp; obtain ⟨x, _, hx, _⟩ := Maps.keyOf_str hk hv; exact ⟨x, hx⟩
  refine ⟨?_, ?_, ?_⟩
  · show (es.map fun p => strOf p.1).Nodup
    refine List.pairwise_map.2 (hpw.imp_of_mem fun {p q} hp' hq' hne e => hne ?_)
    obtain ⟨a, ha⟩ := hki p hp'
    obtain ⟨b, hb⟩ := hki q hq'
    rw [ha, hb] at e ⊢
    exact congrArg _ e
  · intro x
    rw [Maps.has_eq, List.any_eq_true]
    show x ∈ es.map (fun p => strOf p.1) ↔ _
    rw [List.mem_map]
    constructor
    · rintro ⟨p, hp', rfl⟩
      obtain ⟨a, ha⟩ := hki p hp'
      exact ⟨p, hp', by rw [ha]; simp [Lit.sameKey, strOf]⟩
    · rintro ⟨p, hp', hs⟩
      obtain ⟨a, ha⟩ := hki p hp'
      rw [ha] at hs
      exact ⟨p, hp', by rw [ha]; simpa [Lit.sameKey, strOf] using hs⟩
  · show (es.map fun p => strOf p.1).length = es.length
    rw [List.length_map]
theorem keysP_nodup {P : List S157} (h : SortedP P) : (P.map fun p => p.f0.toList).Nodup :=
  List.pairwise_map.2 (h.imp (fun {a b} hab (e : a.f0.toList = b.f0.toList) => by rw [e] at hab; exact lt_irr _ hab))
theorem keysP_mem {P : List S157} {k : List UInt8} : k ∈ (P.map fun p => p.f0.toList) ↔ (lookP P k).isSome = true := by
  rw [mem_lookP, List.mem_map]
theorem size_of {W : World} {b n : Nat} {P : List S157} {D : DataW Unit} (hown : W.ownsMap Try.prog 9 (plainElem Try.prog 9) b n D) (hD : ∀ k : List UInt8, has D (.string k) = (lookP P k).isSome) (h : SortedP P) : Maps.size D = P.length := by
  obtain ⟨h1, h2, h3⟩ := mem_strKeys hown Try.underlying9
  have hp : (strKeys D).Perm (P.map fun p => p.f0.toList) := (List.perm_ext_iff_of_nodup h1 (keysP_nodup h)).2 (fun x => by rw [h2, keysP_mem, hD])
  rw [← h3, hp.length_eq, List.length_map]

/-! ### Sorted -/
theorem mergeSort_sorted_str {ss ks : List (List UInt8)} (hp : ss.Perm ks) (hn : ks.Nodup) : (ss.mergeSort (fun x y => decide (x ≤ y))).Pairwise (· < ·) ∧ (∀ x, x ∈ ss.mergeSort (fun x y => decide (x ≤ y)) ↔ x ∈ ks) := by
  have hm : (ss.mergeSort (fun x y => decide (x ≤ y))).Perm ks := (List.mergeSort_perm ss _).trans hp
  have hnd : (ss.mergeSort (fun x y => decide (x ≤ y))).Nodup := (hm.nodup_iff).2 hn
  have hs : (ss.mergeSort (fun x y => decide (x ≤ y))).Pairwise (fun a b => decide (a ≤ b) = true) :=
    List.pairwise_mergeSort (fun a b c h1 h2 => by simp only [decide_eq_true_eq] at *; exact List.le_trans h1 h2) (fun a b => by simp only [Bool.or_eq_true, decide_eq_true_eq]; exact List.le_total a b) ss
  refine ⟨?_, fun x => hm.mem_iff⟩
  have := List.pairwise_and_iff.2 ⟨hs, hnd⟩
  refine this.imp (fun {a b} h => ?_)
  have h1 := of_decide_eq_true h.1
  rcases lt_tri a b with h2 | h2 | h2
  · exact h2
  · exact absurd h2 h.2
  · exact absurd h2 (List.not_lt.2 h1)
/-- The keys of a sorted table, sorted, are its keys. -/
theorem sortedP_keys {P : List S157} {ss : List (List UInt8)} {D : DataW Unit} {W : World} {b n : Nat} (hown : W.ownsMap Try.prog 9 (plainElem Try.prog 9) b n D) (hD : ∀ k : List UInt8, has D (.string k) = (lookP P k).isSome) (h : SortedP P) (hp : ss.Perm (strKeys D)) :
    ss.mergeSort (fun x y => decide (x ≤ y)) = P.map (fun p => p.f0.toList) := by
  obtain ⟨h1, h2, _⟩ := mem_strKeys hown Try.underlying9
  obtain ⟨s1, s2⟩ := mergeSort_sorted_str hp h1
  have hP : (P.map fun p => p.f0.toList).Pairwise (· < ·) := List.pairwise_map.2 h
  have hperm : (ss.mergeSort (fun x y => decide (x ≤ y))).Perm (P.map fun p => p.f0.toList) :=
    (List.perm_ext_iff_of_nodup (s1.imp (fun {a b} h (e : a = b) => by rw [e] at h; exact lt_irr _ h)) (keysP_nodup h)).2 (fun x => by rw [s2, h2, keysP_mem, hD])
  exact List.Perm.eq_of_pairwise (le := (· < ·)) (fun a b _ _ h1 h2 => absurd h2 (lt_asym h1)) s1 hP hperm
theorem mergeSort_sorted_int {ss ks : List Int} (hp : ss.Perm ks) (hn : ks.Nodup) : (ss.mergeSort (fun x y => decide (x ≤ y))).Pairwise (· < ·) ∧ (∀ x, x ∈ ss.mergeSort (fun x y => decide (x ≤ y)) ↔ x ∈ ks) := by
  have hm : (ss.mergeSort (fun x y => decide (x ≤ y))).Perm ks := (List.mergeSort_perm ss _).trans hp
  have hnd : (ss.mergeSort (fun x y => decide (x ≤ y))).Nodup := (hm.nodup_iff).2 hn
  have hs : (ss.mergeSort (fun x y => decide (x ≤ y))).Pairwise (fun a b => decide (a ≤ b) = true) :=
    List.pairwise_mergeSort (fun a b c h1 h2 => by simp only [decide_eq_true_eq] at *; omega) (fun a b => by simp only [Bool.or_eq_true, decide_eq_true_eq]; omega) ss
  refine ⟨?_, fun x => hm.mem_iff⟩
  have := List.pairwise_and_iff.2 ⟨hs, hnd⟩
  exact this.imp (fun {a b} h => by have h1 := of_decide_eq_true h.1; have := h.2; omega)
theorem sortedS_keys {S : List S146} {ss : List Int} {D : DataW Unit} {W : World} {b n : Nat} (hown : W.ownsMap Try.prog 3 sessElem b n D) (hD : ∀ c : Int, has D (.int .i64 c) = (lookS S c).isSome) (h : SortedS S) (hp : ss.Perm (intKeys D)) :
    ss.mergeSort (fun x y => decide (x ≤ y)) = S.map (fun s => s.f0) := by
  obtain ⟨h1, h2⟩ := mem_intKeys hown Try.underlying3
  obtain ⟨s1, s2⟩ := mergeSort_sorted_int hp h1
  have hP : (S.map fun s => s.f0).Pairwise (· < ·) := List.pairwise_map.2 h.1
  have hperm : (ss.mergeSort (fun x y => decide (x ≤ y))).Perm (S.map fun s => s.f0) :=
    (List.perm_ext_iff_of_nodup (s1.imp (fun {a b} h => Int.ne_of_lt h)) (hP.imp (fun {a b} h => Int.ne_of_lt h))).2 (fun x => by rw [s2, h2, hD, mem_lookS, List.mem_map])
  exact List.Perm.eq_of_pairwise (le := (· < ·)) (fun a b _ _ h1 h2 => by omega) s1 hP hperm
end Go.Proofs.Ytppegigcclflbaa.PFnExactApplyCmd
