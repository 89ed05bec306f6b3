/- A log's table. Plain, no program. -/
import Derived.Test.YtppegigcclflbaaTInv
import Derived.Test.YtppegigcclflbaaTCmdE
namespace Go.Proofs.Ytppegigcclflbaa.PFnExactApplyCmd
open Go.RowKit Go.Proofs.YtppegigcclflbaaW.PrintWords Go.Proofs.YtppegigcclflbaaW.PrintLast Go.Proofs.YtppegigcclflbaaW.PrintMore
open Go.Proofs.Ytppegigcclflbaa.PStr

/-! ### A log -/
def stepT (T : List S157 × List S146) (e : S103) : List S157 × List S146 := ((applyF T.1 T.2 e.f1.f0 e.f1.f1 e.f1.f2 e.f1.f3 e.f1.f4 e.f1.f5).2.2.2.1, (applyF T.1 T.2 e.f1.f0 e.f1.f1 e.f1.f2 e.f1.f3 e.f1.f4 e.f1.f5).2.2.2.2)
def okE (e : S103) : Bool := entryB e.f0 e.f1.f0 e.f1.f1 e.f1.f2 e.f1.f3 e.f1.f4 e.f1.f5
def foldT (L : List S103) : List S157 × List S146 := L.foldl stepT ([], [])
def upT (n : Nat) (upto : Int) : Nat := (min (max upto 0) (n : Int)).toNat
/-- What a log comes to. -/
def logF (L : List S103) (upto : Int) : List S157 × List S146 := if L.length ≤ 4096 ∧ L.all okE = true then foldT (L.take (upT L.length upto)) else ([], [])
theorem okE_fault {e : S103} (h : okE e = true) : faultC e.f1.f0 e.f1.f1 e.f1.f2 e.f1.f3 e.f1.f4 e.f1.f5 = 0 := (of_decide_eq_true h).2.2
theorem fold_ok : ∀ (L : List S103), L.all okE = true → ∀ T : List S157 × List S146, TOk T.1 T.2 → TOk (L.foldl stepT T).1 (L.foldl stepT T).2
  | [], _, _, h => h
  | e :: L, hL, T, h => by
    simp only [List.all_cons, Bool.and_eq_true] at hL
    exact fold_ok L hL.2 (stepT T e) (apply_ok h (okE_fault hL.1))
theorem foldT_ok {L : List S103} (h : L.all okE = true) : TOk (foldT L).1 (foldT L).2 := fold_ok L h _ TOk.nil
theorem foldT_take {L : List S103} {j : Nat} (hj : j < L.length) : foldT (L.take (j + 1)) = stepT (foldT (L.take j)) L[j] := by
  unfold foldT
  rw [List.take_succ_eq_append_getElem hj, List.foldl_append]
  rfl
theorem all_take {L : List S103} (h : L.all okE = true) (j : Nat) : (L.take j).all okE = true := by
  rw [List.all_eq_true] at h ⊢
  exact fun e he => h e (List.mem_of_mem_take he)
theorem all_at {L : List S103} (h : L.all okE = true) {j : Nat} (hj : j < L.length) : okE L[j] = true := (List.all_eq_true.1 h) _ (List.getElem_mem hj)
theorem all_step {L : List S103} {j : Nat} (hj : j < L.length) (h : (L.take j).all okE = true) (he : okE L[j] = true) : (L.take (j + 1)).all okE = true := by
  rw [List.take_succ_eq_append_getElem hj, List.all_append, h]
  simp [he]
theorem not_all {L : List S103} {j : Nat} (hj : j < L.length) (he : okE L[j] = false) : ¬ L.all okE = true := fun h => by rw [all_at h hj] at he; cases he
theorem upT_le (n : Nat) (u : Int) : upT n u ≤ n := by unfold upT; omega
theorem logF_ok (L : List S103) (upto : Int) : TOk (logF L upto).1 (logF L upto).2 := by
  unfold logF
  by_cases h : L.length ≤ 4096 ∧ L.all okE = true
  · rw [if_pos h]; exact foldT_ok (all_take h.2 _)
  · rw [if_neg h]; exact TOk.nil
end Go.Proofs.Ytppegigcclflbaa.PFnExactApplyCmd
