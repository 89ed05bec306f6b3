/- Whether a command is well-formed: what the reference's CmdFault and the program's answer. -/
import Derived.Test.YtppegigcclflbaaTApply
import Derived.Test.YtppegigcclflbaaPFnExactApplyCmdx
namespace Go.Proofs.Ytppegigcclflbaa.PFnExactApplyCmd
open Go.RowKit Go.Proofs.YtppegigcclflbaaW.PrintWords Go.Proofs.YtppegigcclflbaaW.PrintLast Go.Proofs.YtppegigcclflbaaW.PrintMore

/-- The number of a command's first broken rule. -/
def faultC (c0 c1 c2 : Int) (key val old : ByteArray) : Int :=
  if c2 < 0 ∨ c2 > 4 then 1
  else if c2 = 0 then (if c0 ≠ 0 then 2 else if c1 ≠ 0 then 3 else if key.size ≠ 0 then 4 else if val.size ≠ 0 then 5 else if old.size ≠ 0 then 6 else 0)
  else if c0 < 1 ∨ c0 > 8 then 2 else if c1 < 1 ∨ c1 > 1073741824 then 3 else if key.size < 1 ∨ key.size > 64 then 4
  else if val.size > (if c2 = 2 ∨ c2 = 4 then 64 else 0) then 5 else if old.size > (if c2 = 4 then 64 else 0) then 6 else 0
def Comes (n : Int) (w : World) (e : Ending) (w' : World) : Prop := e = .returned (.int .i64 n) ∧ Below w.heap.size w w'
theorem ret_b {a b : Bool} (h : a = b) : Ending.returned (.bool a) = .returned (.bool b) := by rw [h]
theorem Comes.mk {n m : Int} {w w' : World} (h : m = n) (hb : Below w.heap.size w w') : Comes n w (.returned (.int .i64 m)) w' := ⟨by rw [h], hb⟩

set_option maxHeartbeats 6400000 in
set_option maxRecDepth 100000 in
theorem spec_CmdFault.calls (c0 c1 c2 : Int) (key val old : ByteArray) (w : World) (hk : key.size ≤ 140737488351232) (hv : val.size ≤ 140737488351232) (ho : old.size ≤ 140737488351232) :
    Calls Try.prog 77 #[.agg #[.int .i64 c0, .int .i64 c1, .int .i64 c2, .string key, .string val, .string old]] w (Comes (faultC c0 c1 c2 key val old) w) := by
  obtain ⟨n, hn⟩ : ∃ n, n = faultC c0 c1 c2 key val old := ⟨_, rfl⟩
  rw [← hn]
  have HN := Aside0.mk hn
  clear hn
  go_enter Try.func77, Try.ntmps77
  go_wp2_with fail
  all_goals
    go_ret
    refine Comes.mk ?_ (below_alloc (Below.refl _ _) _)
    rw [HN.out]
    clear HN
    try simp only [beq_iff_eq, bne_iff_ne, ne_eq, beq_eq_false_iff_ne, bne_eq_false_iff_eq] at *
    unfold faultC
    repeat' split
    all_goals omega

/-! ### The program's -/
theorem broken_l0 : ∀ (m k : Nat) (bs : List Bool) (i : Nat), i + m = bs.length → m < k → bs.length < 1000 → impl_firstBroken.l0 k bs (bs.length : Int) (i : Int) = some (((bs.drop i).idxOf? false).elim 0 (fun j => ((i + j + 1 : Nat) : Int)))
  | 0, k + 1, bs, i, h1, _, _ => by
    rw [impl_firstBroken.l0, if_neg (by omega), List.drop_eq_nil_of_le (by omega)]
    rfl
  | m + 1, k + 1, bs, i, h1, h2, h3 => by
    have hi : i < bs.length := by omega
    have hr : rdOf false bs (i : Int) = bs[i] := by
      unfold rdOf
      rw [Int.toNat_natCast, List.getD_eq_getElem?_getD, List.getElem?_eq_getElem hi]
      rfl
    rw [impl_firstBroken.l0, if_pos (by omega), if_pos (by omega), if_pos (by omega), hr, w1 (by omega), List.drop_eq_getElem_cons hi, List.idxOf?_cons]
    by_cases hb : bs[i] = true
    · rw [if_pos hb, broken_l0 m k bs (i + 1) (by omega) (by omega) h3, hb]
      cases (List.drop (i + 1) bs).idxOf? false with
      | none => rfl
      | some j =>
        simp
        omega
    · rw [if_neg hb, Bool.eq_false_iff.2 hb]
      rfl
theorem broken_f {k : Nat} {bs : List Bool} (hk : bs.length < k) (h : bs.length < 1000) : impl_firstBroken.f k bs = some ((bs.idxOf? false).elim 0 (fun j => ((j + 1 : Nat) : Int))) := by
  have := broken_l0 bs.length k bs 0 (by omega) hk h
  rw [List.drop_zero] at this
  simpa [impl_firstBroken.f] using this
theorem within_f (a b c : Int) : impl_within.f a b c = some (decide (b ≤ a ∧ a ≤ c)) := by
  unfold impl_within.f
  by_cases h : a ≥ b
  · rw [if_pos h]
    congr 1
    rw [Bool.eq_iff_iff, decide_eq_true_iff, decide_eq_true_iff]
    exact ⟨fun h2 => ⟨h, h2⟩, fun h2 => h2.2⟩
  · rw [if_neg h, decide_eq_false (fun h2 => h h2.1)]
theorem empty_size (s : ByteArray) : (s.toList == ([] : List UInt8)) = decide (s.size = 0) := by
  rw [Bool.eq_iff_iff, beq_iff_eq, decide_eq_true_iff, ByteArray.toList_eq]
  cases s with
  | mk d =>
    show d.toList = [] ↔ d.size = 0
    rw [← Array.length_toList, List.length_eq_zero_iff]
theorem six (b0 b1 b2 b3 b4 b5 : Bool) : (([b0, b1, b2, b3, b4, b5].idxOf? false).elim 0 (fun j => ((j + 1 : Nat) : Int)) : Int) = if b0 = false then 1 else if b1 = false then 2 else if b2 = false then 3 else if b3 = false then 4 else if b4 = false then 5 else if b5 = false then 6 else 0 := by
  cases b0 <;> cases b1 <;> cases b2 <;> cases b3 <;> cases b4 <;> cases b5 <;> rfl
theorem beq_false' (a b : Int) : ((a == b) = false) = (a ≠ b) := by simp
theorem impl_CmdFault_j {k : Nat} (hk : 8 < k) (a b c0 c1 c2 : Int) (key val old : ByteArray) : impl_CmdFault.j0 k a b c0 c1 c2 key val old = some (if ¬ (1 ≤ c2 ∧ c2 ≤ 4) then 1 else if ¬ (1 ≤ c0 ∧ c0 ≤ 8) then 2 else if ¬ (1 ≤ c1 ∧ c1 ≤ 1073741824) then 3 else if ¬ (1 ≤ (key.size : Int) ∧ (key.size : Int) ≤ 64) then 4 else if ¬ ((val.size : Int) ≤ a) then 5 else if ¬ ((old.size : Int) ≤ b) then 6 else 0) := by
  obtain ⟨k, rfl⟩ : ∃ m, k = m + 1 := ⟨k - 1, by omega⟩
  rw [impl_CmdFault.j0, within_f, within_f, within_f, within_f]
  simp only [Option.bind_some]
  rw [broken_f (by simp; omega) (by simp), six]
  simp only [Option.bind_some, decide_eq_false_iff_not]
set_option maxHeartbeats 3200000 in
theorem impl_CmdFault_f {k : Nat} (hk : 8 < k) (c0 c1 c2 : Int) (key val old : ByteArray) : impl_CmdFault.f k c0 c1 c2 key val old = some (faultC c0 c1 c2 key val old) := by
  unfold impl_CmdFault.f
  by_cases h0 : c2 = 0
  · rw [if_pos h0, broken_f (by simp; omega) (by simp), six]
    simp only [Option.bind_some, empty_size, decide_eq_false_iff_not, beq_false']
    unfold faultC
    rw [if_neg (show ¬ (c2 < 0 ∨ c2 > 4) by omega), if_pos h0, if_neg (show ¬ (true = false) by decide)]
  · rw [if_neg h0]
    by_cases h4 : c2 = 4
    · rw [if_pos h4, impl_CmdFault_j hk]
      unfold faultC
      congr 1
      subst h4
      rw [if_pos (show (4 : Int) = 2 ∨ (4 : Int) = 4 from Or.inr rfl), if_pos (show (4 : Int) = 4 from rfl)]
      repeat' split
      all_goals omega
    · rw [if_neg h4]
      by_cases h2 : c2 = 2
      · rw [if_pos h2, impl_CmdFault_j hk]
        unfold faultC
        congr 1
        subst h2
        rw [if_pos (show (2 : Int) = 2 ∨ (2 : Int) = 4 from Or.inl rfl), if_neg (show ¬ (2 : Int) = 4 by decide)]
        repeat' split
        all_goals omega
      · rw [if_neg h2, impl_CmdFault_j hk]
        unfold faultC
        congr 1
        rw [if_neg h0, if_neg (show ¬ (c2 = 2 ∨ c2 = 4) by omega), if_neg h4]
        repeat' split
        all_goals omega
end Go.Proofs.Ytppegigcclflbaa.PFnExactApplyCmd
