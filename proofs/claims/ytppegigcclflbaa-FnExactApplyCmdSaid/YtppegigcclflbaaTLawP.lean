/- What the law's small functions answer: marks, equality, copies, sizes. Plain, no program. -/
import Derived.Test.YtppegigcclflbaaTInv
import Derived.Test.YtppegigcclflbaaPFnExactApplyCmdx
namespace Go.Proofs.Ytppegigcclflbaa.PFnExactApplyCmd
open Go.RowKit Go.Proofs.YtppegigcclflbaaW.PrintWords Go.Proofs.YtppegigcclflbaaW.PrintLast Go.Proofs.YtppegigcclflbaaW.PrintMore
open Go.Proofs.Ytppegigcclflbaa.PStr

/-! ### A mark's text -/
theorem size_app (a b : ByteArray) : (a ++ b).size = a.size + b.size := ByteArray.size_append
theorem mt_l0 : ∀ (d k : Nat) (x : Int) (s : ByteArray), 0 ≤ x → x < 10 ^ d → x < 4611686018427387904 → d < k → s.size + d ≤ 1000 → ∃ r, laws_markText.l0 k x s = some r
  | 0, k_, x, s, h0, h1, _, _, h3 => by
    obtain ⟨k, rfl⟩ : ∃ m, k_ = m + 1 := ⟨k_ - 1, by omega⟩
    have : x = 0 := by simp at h1; omega
    rw [laws_markText.l0, if_neg (by omega), if_pos (by omega)]
    exact ⟨_, rfl⟩
  | d + 1, k_, x, s, h0, h1, hb, h2, h3 => by
    obtain ⟨k, rfl⟩ : ∃ m, k_ = m + 1 := ⟨k_ - 1, by omega⟩
    rw [laws_markText.l0]
    by_cases hx : x > 0
    · have h10 : (10 : Int) ^ (d + 1) = 10 ^ d * 10 := Int.pow_succ 10 d
      have hd : Int.tdiv x 10 = x / 10 := Int.tdiv_eq_ediv_of_nonneg h0
      have hs : (strOfNums [(wrap64 (48 + (Int.tmod x 10))) % 256]).size = 1 := rfl
      rw [if_pos hx, Option.bind_some, hs, if_pos (by omega), hd, wrap64_in _ (by omega)]
      exact mt_l0 d k (x / 10) _ (by omega) (by omega) (by omega) (by omega) (by rw [size_app, hs]; omega)
    · rw [if_neg hx, if_pos (by omega)]
      exact ⟨_, rfl⟩
def txt (n : Int) : ByteArray := (laws_markText.f 64 n).getD ⟨#[]⟩
theorem mt_f {k : Nat} {n : Int} (h1 : n < 4611686018427387904) (hk : 64 ≤ k) : laws_markText.f k n = some (txt n) := by
  have h : ∃ r, laws_markText.f 64 n = some r := by
    unfold laws_markText.f
    by_cases h : n ≤ 0
    · rw [if_pos h]; exact ⟨_, rfl⟩
    · rw [if_neg h]
      exact mt_l0 19 64 n ⟨#[]⟩ (by omega) (by omega) h1 (by omega) (by decide)
  obtain ⟨r, hr⟩ := h
  have ht : txt n = r := by unfold txt; rw [hr]; rfl
  rw [ht]
  exact at_rounds (fun k => laws_markText.mono n k) hk hr
theorem w1i {n : Int} (h0 : 0 ≤ n) (h : n < 4611686018427387904) : wrap64 (n + 1) = n + 1 := wrap64_in _ (by omega)

/-! ### Marks -/
def markPs : Int → List S157 → List S157
  | _, [] => []
  | n, _ :: ps => ⟨txt n, txt (n + 1)⟩ :: markPs (n + 2) ps
def markSs : Int → List S146 → List S146
  | _, [] => []
  | n, _ :: ss => ⟨n, n + 1, n + 2, txt (n + 3)⟩ :: markSs (n + 4) ss
theorem markPs_len : ∀ (n : Int) (l : List S157), (markPs n l).length = l.length
  | _, [] => rfl
  | n, _ :: ps => by rw [markPs, List.length_cons, List.length_cons, markPs_len]
theorem markSs_len : ∀ (n : Int) (l : List S146), (markSs n l).length = l.length
  | _, [] => rfl
  | n, _ :: ps => by rw [markSs, List.length_cons, List.length_cons, markSs_len]
theorem set_mid' {α : Type} (a : List α) (x y : α) (b : List α) : (a ++ x :: b).set a.length y = a ++ y :: b := by
  induction a with
  | nil => rfl
  | cons z a ih => simp [ih]
theorem rd157_mid (a : List S157) (x : S157) (b : List S157) : rd_T157 (a ++ x :: b) (a.length : Int) = x := by
  rw [rd157_at (by simp)]
  simp
theorem rd146_mid (a : List S146) (x : S146) (b : List S146) : rd_T146 (a ++ x :: b) (a.length : Int) = x := by
  rw [rd146_at (by simp)]
  simp
theorem markP_l0 : ∀ (rest done : List S157) (k : Nat) (n : Int), 0 ≤ n → n + 2 * (rest.length : Int) < 4611686018427387000 → 64 + rest.length < k → done.length + rest.length < 4611686018427387000 →
    laws_markPairS.l0 k (done ++ rest) n (done.length : Int) = some (n + 2 * (rest.length : Int), done ++ markPs n rest)
  | [], done, k_, n, h0, h1, h2, h3 => by
    obtain ⟨k, rfl⟩ : ∃ m, k_ = m + 1 := ⟨k_ - 1, by omega⟩
    rw [laws_markPairS.l0, if_neg (by simp)]
    simp [markPs]
  | p :: rest, done, k_, n, h0, h1, h2, h3 => by
    obtain ⟨k, rfl⟩ : ∃ m, k_ = m + 1 := ⟨k_ - 1, by omega⟩
    rw [List.length_cons] at h1 h2 h3
    rw [laws_markPairS.l0, if_pos (by simp; omega), mt_f (by omega) (by omega), Option.bind_some, if_pos (by omega), Option.bind_some, w1i h0 (by omega), mt_f (by omega) (by omega), Option.bind_some, w1i (by omega) (by omega), w1 (by omega)]
    simp only [Int.toNat_natCast, set_mid', rd157_mid]
    have ih := markP_l0 rest (done ++ [⟨txt n, txt (n + 1)⟩]) k (n + 2) (by omega) (by omega) (by omega) (by simp; omega)
    rw [List.length_append, List.append_assoc, List.append_assoc] at ih
    rw [show n + 1 + 1 = n + 2 by omega]
    refine ih.trans ?_
    rw [List.length_cons]
    simp only [Option.some.injEq, Prod.mk.injEq]
    exact ⟨by omega, rfl⟩
theorem markP_f {k : Nat} {l : List S157} {n : Int} (h0 : 0 ≤ n) (h1 : n + 2 * (l.length : Int) < 4611686018427387000) (hk : 64 + l.length < k) : laws_markPairS.f k l n = some (n + 2 * (l.length : Int), markPs n l) :=
  markP_l0 l [] k n h0 h1 hk (by simp; omega)
theorem markS_l0 : ∀ (rest done : List S146) (k : Nat) (n : Int), 0 ≤ n → n + 4 * (rest.length : Int) < 4611686018427387000 → 64 + rest.length < k → done.length + rest.length < 4611686018427387000 →
    laws_markSessionS.l0 k (done ++ rest) n (done.length : Int) = some (n + 4 * (rest.length : Int), done ++ markSs n rest)
  | [], done, k_, n, h0, h1, h2, h3 => by
    obtain ⟨k, rfl⟩ : ∃ m, k_ = m + 1 := ⟨k_ - 1, by omega⟩
    rw [laws_markSessionS.l0, if_neg (by simp)]
    simp [markSs]
  | p :: rest, done, k_, n, h0, h1, h2, h3 => by
    obtain ⟨k, rfl⟩ : ∃ m, k_ = m + 1 := ⟨k_ - 1, by omega⟩
    rw [List.length_cons] at h1 h2 h3
    rw [laws_markSessionS.l0, if_pos (by simp; omega), if_pos (by omega)]
    simp only [Option.bind_some, Int.toNat_natCast, set_mid', rd146_mid]
    have e1 : wrap64 (n + 1) = n + 1 := wrap64_in _ (by omega)
    have e2 : wrap64 (n + 1 + 1) = n + 2 := by rw [wrap64_in _ (by omega)]; omega
    have e3 : wrap64 (n + 2 + 1) = n + 3 := by rw [wrap64_in _ (by omega)]; omega
    have e4 : wrap64 (n + 3 + 1) = n + 4 := by rw [wrap64_in _ (by omega)]; omega
    rw [e1, e2, e3, mt_f (by omega) (by omega), Option.bind_some, e4, w1 (by omega)]
    have ih := markS_l0 rest (done ++ [⟨n, n + 1, n + 2, txt (n + 3)⟩]) k (n + 4) (by omega) (by omega) (by omega) (by simp; omega)
    rw [List.length_append, List.append_assoc, List.append_assoc] at ih
    refine ih.trans ?_
    rw [List.length_cons]
    simp only [Option.some.injEq, Prod.mk.injEq]
    exact ⟨by omega, rfl⟩
theorem markS_f {k : Nat} {l : List S146} {n : Int} (h0 : 0 ≤ n) (h1 : n + 4 * (l.length : Int) < 4611686018427387000) (hk : 64 + l.length < k) : laws_markSessionS.f k l n = some (n + 4 * (l.length : Int), markSs n l) :=
  markS_l0 l [] k n h0 h1 hk (by simp; omega)
theorem markT_f {k : Nat} {P : List S157} {S : List S146} (hp : P.length ≤ 1100000) (hs : S.length ≤ 1100000) (hk : 2000000 < k) : laws_markTable.f k P S 1 = some (1 + 2 * (P.length : Int) + 4 * (S.length : Int), markPs 1 P, markSs (1 + 2 * (P.length : Int)) S) := by
  unfold laws_markTable.f
  rw [markP_f (by omega) (by omega) (by omega), Option.bind_some, markS_f (by omega) (by omega) (by omega), Option.bind_some]

/-! ### The law's contracts -/
/-- How large a law's tables are. -/
structure SizedT (P : List S157) (S : List S146) : Prop where
  p : P.length ≤ 1100000
  s : S.length ≤ 1100000
theorem TOk.sized {P : List S157} {S : List S146} (h : TOk P S) : SizedT P S := ⟨by have := h.l; omega, by have := few h.s; omega⟩
theorem HeldT.mark {W W0 : World} {ok : Nat → Prop} {A1 A2 : Option Addr} {c1 c2 : Nat} {P : List S157} {S : List S146} (hB : Below W0.heap.size W0 W) (h : HeldT W W0.heap.size ok A1 c1 P A2 c2 S) (hs : SizedT P S) :
    Calls Try.prog 21 #[.agg #[.slice A1 P.length c1, .slice A2 S.length c2], .int .i64 1] W fun e w' => e = .returned (.int .i64 (1 + 2 * (P.length : Int) + 4 * (S.length : Int))) ∧ HeldT w' W0.heap.size (fun k => ok k ∨ W.heap.size ≤ k) A1 c1 (markPs 1 P) A2 c2 (markSs (1 + 2 * (P.length : Int)) S) ∧ Below W0.heap.size W0 w' ∧ Kept W w' ok := by
  refine (laws_markTable.calls 3000000 ok _ P ok _ S 1 _ _ _ W0 W hB h.p h.s (markT_f hs.p hs.s (by omega))).mono ?_
  rintro e w' ⟨rfl, hP, hS, hB', hK⟩
  have hor : ∀ k, ((ok k ∨ ok k) ∨ W.heap.size ≤ k) → (ok k ∨ W.heap.size ≤ k) := fun k hk => hk.elim (fun h => .inl (h.elim id id)) .inr
  refine ⟨rfl, ⟨by rw [markPs_len]; exact Kd.R_mono hP hor, by rw [markSs_len]; exact Kd.R_mono hS hor⟩, hB', hK.1, fun i hi hn => hK.2 i hi (fun h => hn (h.elim id id))⟩
end Go.Proofs.Ytppegigcclflbaa.PFnExactApplyCmd
