/- Whether an entry is well-formed. -/
import Derived.Test.YtppegigcclflbaaTCmd
namespace Go.Proofs.Ytppegigcclflbaa.PFnExactApplyCmd
open Go.RowKit Go.Proofs.YtppegigcclflbaaW.PrintWords Go.Proofs.YtppegigcclflbaaW.PrintLast Go.Proofs.YtppegigcclflbaaW.PrintMore
open Go.Proofs.Ytppegigcclflbaa.PStr

def entryB (t c0 c1 c2 : Int) (key val old : ByteArray) : Bool := decide (1 ≤ t ∧ t ≤ 1073741824 ∧ faultC c0 c1 c2 key val old = 0)
set_option maxHeartbeats 3200000 in
set_option maxRecDepth 100000 in
theorem spec_l1entryOk.calls (t c0 c1 c2 : Int) (key val old : ByteArray) (w : World) (hk : key.size ≤ 140737488351232) (hv : val.size ≤ 140737488351232) (ho : old.size ≤ 140737488351232) :
    Calls Try.prog 59 #[.agg #[.int .i64 t, .int .i64 c0, .int .i64 c1, .int .i64 c2, .string key, .string val, .string old]] w fun e w' => e = .returned (.bool (entryB t c0 c1 c2 key val old)) ∧ Below w.heap.size w w' := by
  obtain ⟨b, hb⟩ : ∃ b, b = entryB t c0 c1 c2 key val old := ⟨_, rfl⟩
  rw [← hb]
  have HN := Aside0.mk hb
  clear hb
  by_cases ht : 1 ≤ t ∧ t ≤ 1073741824
  · obtain ⟨h1, h2⟩ := ht
    go_enter Try.func59, Try.ntmps59
    go_wp2_with fail
    refine (spec_CmdFault.calls c0 c1 c2 key val old _ hk hv ho).mono ?_
    rintro e w' ⟨rfl, hB⟩
    go_wp2_with fail
    go_ret
    refine ⟨ret_b ?_, below_then (below_alloc (Below.refl _ _) _) (by simp) hB⟩
    rw [HN.out]
    unfold entryB
    rw [Bool.eq_iff_iff, decide_eq_true_iff, beq_iff_eq]
    exact ⟨fun h => ⟨h1, h2, h⟩, fun h => h.2.2⟩
  · have hf : b = false := by
      rw [HN.out]
      exact decide_eq_false (fun h => ht ⟨h.1, h.2.1⟩)
    rw [hf]
    by_cases h1 : 1 ≤ t
    · have h2 : decide (t ≤ 1073741824) = false := decide_eq_false (fun h => ht ⟨h1, h⟩)
      clear ht hf
      go_enter Try.func59, Try.ntmps59
      go_wp2_with fail
      go_ret
      exact ⟨rfl, below_alloc (Below.refl _ _) _⟩
    · have h2 : decide (1 ≤ t) = false := decide_eq_false h1
      clear ht hf h1
      go_enter Try.func59, Try.ntmps59
      go_wp2_with fail
      go_ret
      exact ⟨rfl, below_alloc (Below.refl _ _) _⟩

theorem impl_entry_f {k : Nat} (hk : 8 < k) (t c0 c1 c2 : Int) (key val old : ByteArray) : impl_Entry_wellFormed.f k t c0 c1 c2 key val old = some (entryB t c0 c1 c2 key val old) := by
  unfold impl_Entry_wellFormed.f entryB
  rw [within_f, impl_CmdFault_f hk, Option.bind_some]
  by_cases ht : 1 ≤ t ∧ t ≤ 1073741824
  · rw [if_pos (decide_eq_true ht), Option.bind_some]
    congr 1
    rw [Bool.eq_iff_iff, decide_eq_true_iff, beq_iff_eq]
    exact ⟨fun h => ⟨ht.1, ht.2, h⟩, fun h => h.2.2⟩
  · rw [if_neg (by rw [decide_eq_true_iff]; exact ht), decide_eq_false (fun h => ht ⟨h.1, h.2.1⟩)]
end Go.Proofs.Ytppegigcclflbaa.PFnExactApplyCmd
