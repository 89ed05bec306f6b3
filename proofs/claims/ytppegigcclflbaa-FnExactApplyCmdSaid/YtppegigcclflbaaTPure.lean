/- The key store's table as plain lists: pairs by key, sessions by client. -/
import Derived.Test.YtppegigcclflbaaHStr
import Derived.Test.YtppegigcclflbaaPFnExactApplyCmdx
namespace Go.Proofs.Ytppegigcclflbaa.PFnExactApplyCmd
open Go.RowKit Go.Proofs.YtppegigcclflbaaW.PrintWords Go.Proofs.YtppegigcclflbaaW.PrintLast Go.Proofs.YtppegigcclflbaaW.PrintMore
open Go.Proofs.Ytppegigcclflbaa.PStr

theorem wrap64_in (n : Int) (h : -9223372036854775808 ≤ n ∧ n ≤ 9223372036854775807) : wrap64 n = n := by unfold wrap64; omega
theorem w1 {n : Nat} (h : n < 4611686018427387904) : wrap64 ((n : Int) + 1) = ((n + 1 : Nat) : Int) := by
  rw [wrap64_in _ (by omega)]
  omega
theorem rd157_at {xs : List S157} {i : Nat} (h : i < xs.length) : rd_T157 xs (i : Int) = xs[i] := by
  unfold rd_T157
  rw [Int.toNat_natCast, List.getD_eq_getElem?_getD, List.getElem?_eq_getElem h]
  rfl
theorem rd146_at {xs : List S146} {i : Nat} (h : i < xs.length) : rd_T146 xs (i : Int) = xs[i] := by
  unfold rd_T146
  rw [Int.toNat_natCast, List.getD_eq_getElem?_getD, List.getElem?_eq_getElem h]
  rfl

/-! ### Pairs -/
def SortedP (P : List S157) : Prop := P.Pairwise (fun a b => a.f0.toList < b.f0.toList)
def lookP : List S157 → List UInt8 → Option ByteArray
  | [], _ => none
  | p :: ps, k => if p.f0.toList = k then some p.f1 else lookP ps k
def withP (P : List S157) (k : ByteArray) (put : Bool) (v : ByteArray) : List S157 :=
  P.filter (fun p => decide (p.f0.toList < k.toList)) ++ (if put = true then [⟨k, v⟩] else []) ++ P.filter (fun p => decide (k.toList < p.f0.toList))

theorem lookP_append : ∀ (a b : List S157) (k : List UInt8), lookP (a ++ b) k = (lookP a k).or (lookP b k)
  | [], b, k => rfl
  | p :: ps, b, k => by
    show (if p.f0.toList = k then some p.f1 else lookP (ps ++ b) k) = (if p.f0.toList = k then some p.f1 else lookP ps k).or (lookP b k)
    by_cases h : p.f0.toList = k
    · rw [if_pos h, if_pos h]; rfl
    · rw [if_neg h, if_neg h]; exact lookP_append ps b k
theorem lookP_filter_no (f : S157 → Bool) (k : List UInt8) : ∀ (P : List S157), (∀ p, p.f0.toList = k → f p = false) → lookP (P.filter f) k = none
  | [], _ => rfl
  | p :: ps, h => by
    rw [List.filter_cons]
    by_cases hf : f p = true
    · rw [if_pos hf]
      unfold lookP
      rw [if_neg (fun e => by rw [h p e] at hf; exact absurd hf (by decide)), lookP_filter_no f k ps h]
    · rw [if_neg hf]; exact lookP_filter_no f k ps h
theorem lookP_filter_yes (f : S157 → Bool) (k : List UInt8) : ∀ (P : List S157), (∀ p, p.f0.toList = k → f p = true) → lookP (P.filter f) k = lookP P k
  | [], _ => rfl
  | p :: ps, h => by
    rw [List.filter_cons]
    by_cases hf : f p = true
    · rw [if_pos hf]
      unfold lookP
      rw [lookP_filter_yes f k ps h]
    · rw [if_neg hf, lookP_filter_yes f k ps h]
      conv => rhs; unfold lookP
      rw [if_neg (fun e => hf (h p e))]
theorem lookP_same (P : List S157) (k : ByteArray) (put : Bool) (v : ByteArray) : lookP (withP P k put v) k.toList = if put = true then some v else none := by
  unfold withP
  rw [lookP_append, lookP_append, lookP_filter_no _ _ _ (fun p e => decide_eq_false (by rw [e]; exact lt_irr _)), lookP_filter_no _ _ _ (fun p e => decide_eq_false (by rw [e]; exact lt_irr _))]
  cases put
  · rfl
  · simp [lookP]
theorem lookP_other (P : List S157) (k : ByteArray) (put : Bool) (v : ByteArray) {k' : List UInt8} (hk : k' ≠ k.toList) : lookP (withP P k put v) k' = lookP P k' := by
  unfold withP
  rw [lookP_append, lookP_append]
  have hm : lookP (if put = true then [⟨k, v⟩] else []) k' = none := by
    cases put
    · rfl
    · simp [lookP]
      exact fun e => hk (Eq.symm e)
  rw [hm, Option.or_none]
  rcases lt_tri k' k.toList with h | h | h
  · rw [lookP_filter_yes _ _ _ (fun p e => decide_eq_true (by rw [e]; exact h)), lookP_filter_no _ _ _ (fun p e => decide_eq_false (by rw [e]; exact lt_asym h)), Option.or_none]
  · exact absurd h hk
  · rw [lookP_filter_no _ _ _ (fun p e => decide_eq_false (by rw [e]; exact lt_asym h)), lookP_filter_yes _ _ _ (fun p e => decide_eq_true (by rw [e]; exact h)), Option.none_or]
theorem sorted_withP {P : List S157} (h : SortedP P) (k : ByteArray) (put : Bool) (v : ByteArray) : SortedP (withP P k put v) := by
  unfold SortedP withP
  rw [List.pairwise_append, List.pairwise_append]
  refine ⟨⟨List.Pairwise.filter _ h, by cases put <;> simp, fun a ha b hb => ?_⟩, List.Pairwise.filter _ h, fun a ha b hb => ?_⟩
  · cases put
    · simp at hb
    · simp at hb
      subst hb
      exact of_decide_eq_true (List.mem_filter.1 ha).2
  · have h2 : k.toList < b.f0.toList := of_decide_eq_true (List.mem_filter.1 hb).2
    rcases List.mem_append.1 ha with ha | ha
    · exact lt_tr (of_decide_eq_true (List.mem_filter.1 ha).2) h2
    · cases put
      · simp at ha
      · simp at ha
        subst ha
        exact h2
theorem mem_lookP : ∀ {P : List S157} {k : List UInt8}, (lookP P k).isSome = true ↔ ∃ p ∈ P, p.f0.toList = k
  | [], k => by simp [lookP]
  | p :: ps, k => by
    unfold lookP
    by_cases h : p.f0.toList = k
    · rw [if_pos h]; simp [h]
    · rw [if_neg h, mem_lookP]
      simp [h]
theorem lookP_mem {P : List S157} (h : SortedP P) {p : S157} (hp : p ∈ P) : lookP P p.f0.toList = some p.f1 := by
  induction P with
  | nil => simp at hp
  | cons q qs ih =>
    unfold lookP
    rcases List.mem_cons.1 hp with rfl | hp2
    · rw [if_pos rfl]
    · have h2 := (List.pairwise_cons.1 h)
      rw [if_neg (fun e => lt_irr p.f0.toList (by have := h2.1 p hp2; rwa [e] at this)), ih h2.2 hp2]

/-! ### Sessions -/
def SortedS (S : List S146) : Prop := S.Pairwise (fun a b => a.f0 < b.f0) ∧ ∀ s ∈ S, 1 ≤ s.f0 ∧ s.f0 ≤ 8
def lookS : List S146 → Int → Option S146
  | [], _ => none
  | s :: ss, c => if s.f0 = c then some s else lookS ss c
def withS (S : List S146) (x : S146) : List S146 := ([1, 2, 3, 4, 5, 6, 7, 8] : List Int).flatMap (fun c => if c = x.f0 then [x] else S.filter (fun s => decide (s.f0 = c)))
theorem lookS_mem' {S : List S146} (h : S.Pairwise (fun a b => a.f0 < b.f0)) {s : S146} (hs : s ∈ S) : lookS S s.f0 = some s := by
  induction S with
  | nil => simp at hs
  | cons q qs ih =>
    unfold lookS
    rcases List.mem_cons.1 hs with rfl | hp2
    · rw [if_pos rfl]
    · have h2 := (List.pairwise_cons.1 h)
      rw [if_neg (by have := h2.1 s hp2; omega), ih h2.2 hp2]
theorem lookS_mem {S : List S146} (h : SortedS S) {s : S146} (hs : s ∈ S) : lookS S s.f0 = some s := lookS_mem' h.1 hs
theorem mem_lookS : ∀ {S : List S146} {c : Int}, (lookS S c).isSome = true ↔ ∃ s ∈ S, s.f0 = c
  | [], c => by simp [lookS]
  | p :: ps, c => by
    unfold lookS
    by_cases h : p.f0 = c
    · rw [if_pos h]; simp [h]
    · rw [if_neg h, mem_lookS]
      simp [h]
theorem lookS_f0 : ∀ {S : List S146} {c : Int} {s : S146}, lookS S c = some s → s.f0 = c
  | [], c, s, h => by simp [lookS] at h
  | p :: ps, c, s, h => by
    unfold lookS at h
    by_cases h2 : p.f0 = c
    · rw [if_pos h2] at h
      injection h with h
      rw [← h]; exact h2
    · rw [if_neg h2] at h
      exact lookS_f0 h
theorem lookS_in : ∀ {S : List S146} {c : Int} {s : S146}, lookS S c = some s → s ∈ S
  | [], c, s, h => by simp [lookS] at h
  | p :: ps, c, s, h => by
    unfold lookS at h
    by_cases h2 : p.f0 = c
    · rw [if_pos h2] at h
      injection h with h
      rw [h]; exact List.mem_cons_self
    · rw [if_neg h2] at h
      exact List.mem_cons_of_mem _ (lookS_in h)
theorem mem_withS {S : List S146} {x s : S146} (hS : SortedS S) (hx : 1 ≤ x.f0 ∧ x.f0 ≤ 8) : s ∈ withS S x ↔ s = x ∨ (s ∈ S ∧ s.f0 ≠ x.f0) := by
  unfold withS
  rw [List.mem_flatMap]
  constructor
  · rintro ⟨c, _, h⟩
    by_cases hc : c = x.f0
    · rw [if_pos hc] at h
      exact .inl (List.mem_singleton.1 h)
    · rw [if_neg hc, List.mem_filter] at h
      have := of_decide_eq_true h.2
      exact .inr ⟨h.1, by omega⟩
  · have h8 : ∀ c : Int, 1 ≤ c ∧ c ≤ 8 → c ∈ ([1, 2, 3, 4, 5, 6, 7, 8] : List Int) := by
      intro c hc
      have : c = 1 ∨ c = 2 ∨ c = 3 ∨ c = 4 ∨ c = 5 ∨ c = 6 ∨ c = 7 ∨ c = 8 := by omega
      rcases this with rfl | rfl | rfl | rfl | rfl | rfl | rfl | rfl <;> simp
    rintro (rfl | ⟨h, hn⟩)
    · exact ⟨s.f0, h8 _ hx, by rw [if_pos rfl]; exact List.mem_singleton.2 rfl⟩
    · exact ⟨s.f0, h8 _ (hS.2 s h), by rw [if_neg hn, List.mem_filter]; exact ⟨h, decide_eq_true rfl⟩⟩
theorem sorted_withS {S : List S146} {x : S146} (hS : SortedS S) (hx : 1 ≤ x.f0 ∧ x.f0 ≤ 8) : SortedS (withS S x) := by
  refine ⟨?_, fun s hs => ?_⟩
  · unfold withS
    rw [List.pairwise_flatMap]
    have hf : ∀ (c : Int) (s : S146), s ∈ (if c = x.f0 then [x] else S.filter (fun s => decide (s.f0 = c))) → s.f0 = c := by
      intro c s h
      by_cases hc : c = x.f0
      · rw [if_pos hc] at h
        rw [List.mem_singleton.1 h, hc]
      · rw [if_neg hc, List.mem_filter] at h
        exact of_decide_eq_true h.2
    refine ⟨fun c _ => ?_, ?_⟩
    · by_cases hc : c = x.f0
      · rw [if_pos hc]; exact List.pairwise_singleton _ _
      · rw [if_neg hc]; exact List.Pairwise.filter _ hS.1
    · have h8 : ([1, 2, 3, 4, 5, 6, 7, 8] : List Int).Pairwise (· < ·) := by decide
      exact h8.imp (fun {a b} hab s hs t ht => by rw [hf a s hs, hf b t ht]; exact hab)
  · rcases (mem_withS hS hx).1 hs with rfl | ⟨h, _⟩
    · exact hx
    · exact hS.2 s h
theorem lookS_unique {S : List S146} (h : SortedS S) {s : S146} {c : Int} (hs : s ∈ S) (hc : s.f0 = c) : lookS S c = some s := hc ▸ lookS_mem h hs
theorem lookS_none {S : List S146} {c : Int} (h : ∀ s ∈ S, s.f0 ≠ c) : lookS S c = none := by
  cases hl : lookS S c with
  | none => rfl
  | some s => exact absurd (lookS_f0 hl) (h s (lookS_in hl))
theorem lookS_same {S : List S146} {x : S146} (hS : SortedS S) (hx : 1 ≤ x.f0 ∧ x.f0 ≤ 8) : lookS (withS S x) x.f0 = some x :=
  lookS_unique (sorted_withS hS hx) ((mem_withS hS hx).2 (.inl rfl)) rfl
theorem lookS_other {S : List S146} {x : S146} (hS : SortedS S) (hx : 1 ≤ x.f0 ∧ x.f0 ≤ 8) {c : Int} (hc : c ≠ x.f0) : lookS (withS S x) c = lookS S c := by
  cases hl : lookS S c with
  | none =>
    refine lookS_none (fun s hs e => ?_)
    rcases (mem_withS hS hx).1 hs with rfl | ⟨h, _⟩
    · exact hc e.symm
    · rw [lookS_unique hS h e] at hl
      cases hl
  | some s =>
    have h1 := lookS_f0 hl
    exact lookS_unique (sorted_withS hS hx) ((mem_withS hS hx).2 (.inr ⟨lookS_in hl, by omega⟩)) h1
end Go.Proofs.Ytppegigcclflbaa.PFnExactApplyCmd
