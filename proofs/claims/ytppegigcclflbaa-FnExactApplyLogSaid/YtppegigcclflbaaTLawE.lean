/- The log's copies and sizes. Plain, no program. -/
import Derived.Test.YtppegigcclflbaaTLawP
import Derived.Test.YtppegigcclflbaaTLogS
namespace Go.Proofs.Ytppegigcclflbaa.PFnExactApplyCmd
open Go.RowKit Go.Proofs.YtppegigcclflbaaW.PrintWords Go.Proofs.YtppegigcclflbaaW.PrintLast Go.Proofs.YtppegigcclflbaaW.PrintMore
open Go.Proofs.Ytppegigcclflbaa.PStr

/-! ### Copies -/
def cvE (e : S100) : S103 := ⟨e.f0, ⟨e.f1.f0, e.f1.f1, e.f1.f2, e.f1.f3, e.f1.f4, e.f1.f5⟩⟩
theorem rd100_at {xs : List S100} {i : Nat} (h : i < xs.length) : rd_T100 xs (i : Int) = xs[i] := by
  unfold rd_T100
  rw [Int.toNat_natCast, List.getD_eq_getElem?_getD, List.getElem?_eq_getElem h]
  rfl
theorem toE_l0 : ∀ (rest done : List S100) (k : Nat), rest.length < k → done.length + rest.length < 4611686018427387000 →
    laws_toEntryS.l0 k (done ++ rest) (done.map cvE ++ List.replicate rest.length z103) (done.length : Int) = some ((done ++ rest).map cvE)
  | [], done, k + 1, h1, h2 => by
    rw [laws_toEntryS.l0, if_neg (by simp)]
    simp
  | e :: rest, done, k + 1, h1, h2 => by
    rw [List.length_cons] at h1 h2
    have hr : rd_T100 (done ++ e :: rest) (done.length : Int) = e := by
      rw [rd100_at (by simp)]
      simp
    rw [laws_toEntryS.l0, if_pos (by simp; omega), if_pos (by omega), hr]
    unfold laws_toEntry.f laws_toCmd.f
    simp only [Option.bind_some]
    rw [if_pos (by simp; omega), w1 (by omega), Int.toNat_natCast, List.length_cons, List.replicate_succ]
    have hs := set_mid' (done.map cvE) z103 (cvE e) (List.replicate rest.length z103)
    rw [List.length_map] at hs
    have ih := toE_l0 rest (done ++ [e]) k (by omega) (by simp; omega)
    rw [List.map_append, List.append_assoc, List.append_assoc, List.length_append] at ih
    rw [show (⟨e.f0, ⟨e.f1.f0, e.f1.f1, e.f1.f2, e.f1.f3, e.f1.f4, e.f1.f5⟩⟩ : S103) = cvE e from rfl, hs]
    exact ih
theorem toE_f {k : Nat} {l : List S100} (hl : l.length ≤ 1100000) (hk : 2000000 < k) : laws_toEntryS.f k l = some (l.map cvE) := by
  unfold laws_toEntryS.f
  rw [if_pos (by omega), Int.toNat_natCast, if_pos (by omega)]
  exact toE_l0 l [] k (by omega) (by simp; omega)

/-! ### Sizes -/
structure Str (e : S100) : Prop where
  a : e.f1.f3.size ≤ 9223372036854775807
  b : e.f1.f4.size ≤ 9223372036854775807
  c : e.f1.f5.size ≤ 9223372036854775807
theorem szC_f (c0 c1 c2 : Int) (key val old : ByteArray) (n : Int) (h0 : 0 ≤ n) (h1 : n ≤ 1048576) (ha : key.size ≤ 9223372036854775807) (hb : val.size ≤ 9223372036854775807) (hc : old.size ≤ 9223372036854775807) :
    laws_szCmd.f c0 c1 c2 key val old n = some (if n - key.size - val.size - old.size < 0 then -1 else n - key.size - val.size - old.size) := by
  unfold laws_szCmd.f
  rw [wrap64_in (n - (key.size : Int)) (by omega)]
  by_cases h : n - (key.size : Int) < 0
  · rw [if_pos h, if_pos (by omega)]
  rw [if_neg h, wrap64_in (n - (key.size : Int) - (val.size : Int)) (by omega)]
  by_cases h2 : n - (key.size : Int) - (val.size : Int) < 0
  · rw [if_pos h2, if_pos (by omega)]
  rw [if_neg h2, wrap64_in (n - (key.size : Int) - (val.size : Int) - (old.size : Int)) (by omega)]
  by_cases h3 : n - (key.size : Int) - (val.size : Int) - (old.size : Int) < 0
  · rw [if_pos h3, if_pos h3]
  · rw [if_neg h3, if_neg h3]
def Small (L : List S100) : Prop := ∀ e ∈ L, e.f1.f3.size ≤ 1048576 ∧ e.f1.f4.size ≤ 1048576 ∧ e.f1.f5.size ≤ 1048576
theorem szE_l0 : ∀ (m k : Nat) (L : List S100) (i : Nat) (n : Int), i + m = L.length → m < k → L.length < 4611686018427387000 → 0 ≤ n → n ≤ 1048576 → (∀ e ∈ L, Str e) →
    ∃ r, laws_szEntryS.l0 k L n (i : Int) = some r ∧ (0 ≤ r → Small (L.drop i))
  | 0, k + 1, L, i, n, h1, _, _, _, _, _ => by
    rw [laws_szEntryS.l0, if_neg (by omega), List.drop_eq_nil_of_le (by omega)]
    exact ⟨n, rfl, fun _ e he => by cases he⟩
  | m + 1, k + 1, L, i, n, h1, h2, h3, h4, h5, hS => by
    have hi : i < L.length := by omega
    have hs := hS _ (List.getElem_mem hi)
    rw [laws_szEntryS.l0, if_pos (by omega), if_pos (by omega), rd100_at hi]
    unfold laws_szEntry.f
    rw [szC_f _ _ _ _ _ _ n h4 h5 hs.a hs.b hs.c]
    rw [Option.bind_some]
    by_cases h : n - (L[i].f1.f3.size : Int) - (L[i].f1.f4.size : Int) - (L[i].f1.f5.size : Int) < 0
    · rw [if_pos h, if_pos (by decide), Option.bind_some, if_pos (by decide)]
      exact ⟨-1, rfl, fun hr => absurd hr (by decide)⟩
    · rw [if_neg h, if_neg h, Option.bind_some, if_neg h, w1 (by omega)]
      obtain ⟨r, hr, hr2⟩ := szE_l0 m k L (i + 1) _ (by omega) (by omega) h3 (Int.not_lt.1 h) (by omega) hS
      refine ⟨r, hr, fun h0 e he => ?_⟩
      rw [List.drop_eq_getElem_cons hi] at he
      rcases List.mem_cons.1 he with rfl | he
      · exact ⟨by omega, by omega, by omega⟩
      · exact hr2 h0 e he
theorem szE_f {k : Nat} {L : List S100} (hL : L.length ≤ 9223372036854775807) (hk : 2000000 < k) (hS : ∀ e ∈ L, Str e) : ∃ r, laws_szEntryS.f k L 1048576 = some r ∧ (0 ≤ r → L.length ≤ 1048576 ∧ Small L) := by
  unfold laws_szEntryS.f
  rw [wrap64_in _ (by omega)]
  by_cases h : (1048576 : Int) - (L.length : Int) < 0
  · rw [if_pos h]
    exact ⟨-1, rfl, fun hr => absurd hr (by decide)⟩
  · rw [if_neg h]
    obtain ⟨r, hr, hr2⟩ := szE_l0 L.length k L 0 (1048576 - (L.length : Int)) (by omega) (by omega) (by omega) (by omega) (by omega) hS
    exact ⟨r, hr, fun h0 => ⟨by omega, hr2 h0⟩⟩
theorem fits_cv {L : List S100} (h : Small L) : Fits (L.map cvE) := ⟨fun e he => by
  obtain ⟨x, hx, rfl⟩ := List.mem_map.1 he
  obtain ⟨a, b, c⟩ := h x hx
  show x.f1.f3.size ≤ Big ∧ x.f1.f4.size ≤ Big ∧ x.f1.f5.size ≤ Big
  unfold Big
  exact ⟨by omega, by omega, by omega⟩⟩
end Go.Proofs.Ytppegigcclflbaa.PFnExactApplyCmd
