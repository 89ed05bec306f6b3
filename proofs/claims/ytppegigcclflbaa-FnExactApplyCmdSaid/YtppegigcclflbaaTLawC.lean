/- The law ApplyCmd's copies, marks and sizes. Plain, no program. -/
import Derived.Test.YtppegigcclflbaaTLawP
namespace Go.Proofs.Ytppegigcclflbaa.PFnExactApplyCmd
open Go.RowKit Go.Proofs.YtppegigcclflbaaW.PrintWords Go.Proofs.YtppegigcclflbaaW.PrintLast Go.Proofs.YtppegigcclflbaaW.PrintMore
open Go.Proofs.Ytppegigcclflbaa.PStr

theorem markA_f {k : Nat} {P : List S157} {S : List S146} (c r : Int) (v : ByteArray) (hp : P.length ≤ 1100000) (hs : S.length ≤ 1100000) (hk : 2000000 < k) : laws_markApplyAnswer.f k c r v P S 1 = some (1 + 2 * (P.length : Int) + 4 * (S.length : Int), markPs 1 P, markSs (1 + 2 * (P.length : Int)) S) := by
  unfold laws_markApplyAnswer.f
  rw [markT_f hp hs hk, Option.bind_some]
theorem HeldT.markA {W W0 : World} {ok : Nat → Prop} {A1 A2 : Option Addr} {c1 c2 : Nat} {P : List S157} {S : List S146} (c r : Int) (v : ByteArray) (hB : Below W0.heap.size W0 W) (h : HeldT W W0.heap.size ok A1 c1 P A2 c2 S) (hs : SizedT P S) :
    Calls Try.prog 30 #[.agg #[.int .i64 c, .int .i64 r, .string v, .slice A1 P.length c1, .slice A2 S.length c2], .int .i64 1] W fun e w' => e = .returned (.int .i64 (1 + 2 * (P.length : Int) + 4 * (S.length : Int))) ∧ HeldT w' W0.heap.size (fun k => ok k ∨ W.heap.size ≤ k) A1 c1 (markPs 1 P) A2 c2 (markSs (1 + 2 * (P.length : Int)) S) ∧ Below W0.heap.size W0 w' ∧ Kept W w' ok := by
  refine (laws_markApplyAnswer.calls 3000000 c r v ok _ P ok _ S 1 _ _ _ W0 W hB h.p h.s (markA_f c r v hs.p hs.s (by omega))).mono ?_
  rintro e w' ⟨rfl, hP, hS, hB', hK⟩
  have hor : ∀ k, ((ok k ∨ ok k) ∨ W.heap.size ≤ k) → (ok k ∨ W.heap.size ≤ k) := fun k hk => hk.elim (fun h => .inl (h.elim id id)) .inr
  refine ⟨rfl, ⟨by rw [markPs_len]; exact Kd.R_mono hP hor, by rw [markSs_len]; exact Kd.R_mono hS hor⟩, hB', hK.1, fun i hi hn => hK.2 i hi (fun h => hn (h.elim id id))⟩
/-! ### Copies -/
def cvPa (p : S170) : S157 := ⟨p.f0, p.f1⟩
def cvSe (p : S172) : S146 := ⟨p.f0, p.f1, p.f2, p.f3⟩
theorem rd170_at {xs : List S170} {i : Nat} (h : i < xs.length) : rd_T170 xs (i : Int) = xs[i] := by
  unfold rd_T170
  rw [Int.toNat_natCast, List.getD_eq_getElem?_getD, List.getElem?_eq_getElem h]
  rfl
theorem rd172_at {xs : List S172} {i : Nat} (h : i < xs.length) : rd_T172 xs (i : Int) = xs[i] := by
  unfold rd_T172
  rw [Int.toNat_natCast, List.getD_eq_getElem?_getD, List.getElem?_eq_getElem h]
  rfl
theorem toP_l0 : ∀ (rest done : List S170) (k : Nat), rest.length < k → done.length + rest.length < 4611686018427387000 →
    laws_toPairS.l0 k (done ++ rest) (done.map cvPa ++ List.replicate rest.length z157) (done.length : Int) = some ((done ++ rest).map cvPa)
  | [], done, k + 1, h1, h2 => by
    rw [laws_toPairS.l0, if_neg (by simp)]
    simp
  | e :: rest, done, k + 1, h1, h2 => by
    rw [List.length_cons] at h1 h2
    have hr : rd_T170 (done ++ e :: rest) (done.length : Int) = e := by
      rw [rd170_at (by simp)]
      simp
    rw [laws_toPairS.l0, if_pos (by simp; omega), if_pos (by omega), hr]
    unfold laws_toPair.f
    simp only [Option.bind_some]
    rw [if_pos (by simp; omega), w1 (by omega), Int.toNat_natCast, List.length_cons, List.replicate_succ]
    have hs := set_mid' (done.map cvPa) z157 (cvPa e) (List.replicate rest.length z157)
    rw [List.length_map] at hs
    have ih := toP_l0 rest (done ++ [e]) k (by omega) (by simp; omega)
    rw [List.map_append, List.append_assoc, List.append_assoc, List.length_append] at ih
    rw [show (⟨e.f0, e.f1⟩ : S157) = cvPa e from rfl, hs]
    exact ih
theorem toS_l0 : ∀ (rest done : List S172) (k : Nat), rest.length < k → done.length + rest.length < 4611686018427387000 →
    laws_toSessionS.l0 k (done ++ rest) (done.map cvSe ++ List.replicate rest.length z146) (done.length : Int) = some ((done ++ rest).map cvSe)
  | [], done, k + 1, h1, h2 => by
    rw [laws_toSessionS.l0, if_neg (by simp)]
    simp
  | e :: rest, done, k + 1, h1, h2 => by
    rw [List.length_cons] at h1 h2
    have hr : rd_T172 (done ++ e :: rest) (done.length : Int) = e := by
      rw [rd172_at (by simp)]
      simp
    rw [laws_toSessionS.l0, if_pos (by simp; omega), if_pos (by omega), hr]
    unfold laws_toSession.f
    simp only [Option.bind_some]
    rw [if_pos (by simp; omega), w1 (by omega), Int.toNat_natCast, List.length_cons, List.replicate_succ]
    have hs := set_mid' (done.map cvSe) z146 (cvSe e) (List.replicate rest.length z146)
    rw [List.length_map] at hs
    have ih := toS_l0 rest (done ++ [e]) k (by omega) (by simp; omega)
    rw [List.map_append, List.append_assoc, List.append_assoc, List.length_append] at ih
    rw [show (⟨e.f0, e.f1, e.f2, e.f3⟩ : S146) = cvSe e from rfl, hs]
    exact ih
theorem toT_f {k : Nat} {P : List S170} {S : List S172} (hp : P.length ≤ 1100000) (hs : S.length ≤ 1100000) (hk : 2000000 < k) : laws_toTable.f k P S = some (P.map cvPa, S.map cvSe) := by
  unfold laws_toTable.f laws_toPairS.f laws_toSessionS.f
  have h1 : laws_toPairS.l0 k P (List.replicate P.length z157) 0 = some (P.map cvPa) := toP_l0 P [] k (by omega) (by simp; omega)
  have h2 : laws_toSessionS.l0 k S (List.replicate S.length z146) 0 = some (S.map cvSe) := toS_l0 S [] k (by omega) (by simp; omega)
  rw [if_pos (by omega), Int.toNat_natCast, if_pos (by omega), h1, Option.bind_some, if_pos (by omega), Int.toNat_natCast, if_pos (by omega), h2, Option.bind_some]
/-- A copy of the table that was handed in. -/
theorem toT.calls (A1 : Option Addr) (c1 : Nat) (P0 : List S170) (A2 : Option Addr) (c2 : Nat) (S0 : List S172) (P : List S157) (S : List S146) (w : World) (hr1 : Kd.C k170 w A1 P0.length P0) (hc1 : P0.length ≤ c1) (hr2 : Kd.C k172 w A2 S0.length S0) (hc2 : S0.length ≤ c2) (hp : P0.length ≤ 1100000) (hs : S0.length ≤ 1100000) (hP : P = P0.map cvPa) (hS : S = S0.map cvSe) :
    Calls Try.prog 26 #[.agg #[.slice A1 P0.length c1, .slice A2 S0.length c2]] w fun e w' => ∃ B1 e1 B2 e2, e = .returned (.agg #[.slice B1 P.length e1, .slice B2 S.length e2]) ∧ HeldT w' w.heap.size (fun _ => True) B1 e1 P B2 e2 S ∧ Below w.heap.size w w' := by
  refine (laws_toTable.calls 3000000 A1 c1 P0 A2 c2 S0 _ _ w hr1 hc1 hr2 hc2 (toT_f hp hs (by omega))).mono ?_
  rintro e w' ⟨v1, v2, rfl, hR1, hR2, hB⟩
  rw [← hP] at hR1
  rw [← hS] at hR2
  obtain ⟨B1, e1, rfl⟩ := Kd.R_slice hR1
  obtain ⟨B2, e2, rfl⟩ := Kd.R_slice hR2
  exact ⟨B1, e1, B2, e2, rfl, ⟨hR1, hR2⟩, hB⟩

/-! ### Sizes -/
def Max (s : ByteArray) : Prop := s.size ≤ 9223372036854775807
theorem szC_f (c0 c1 c2 : Int) (key val old : ByteArray) (n : Int) (h0 : 0 ≤ n) (h1 : n ≤ 1048576) (ha : Max key) (hb : Max val) (hc : Max old) :
    ∃ r, laws_szCmd.f c0 c1 c2 key val old n = some r ∧ (0 ≤ r → key.size ≤ 1048576 ∧ val.size ≤ 1048576 ∧ old.size ≤ 1048576) := by
  unfold Max at ha hb hc
  unfold laws_szCmd.f
  rw [wrap64_in (n - (key.size : Int)) (by omega)]
  by_cases h : n - (key.size : Int) < 0
  · rw [if_pos h]; exact ⟨_, rfl, fun hr => absurd hr (by decide)⟩
  rw [if_neg h, wrap64_in (n - (key.size : Int) - (val.size : Int)) (by omega)]
  by_cases h2 : n - (key.size : Int) - (val.size : Int) < 0
  · rw [if_pos h2]; exact ⟨_, rfl, fun hr => absurd hr (by decide)⟩
  rw [if_neg h2, wrap64_in (n - (key.size : Int) - (val.size : Int) - (old.size : Int)) (by omega)]
  by_cases h3 : n - (key.size : Int) - (val.size : Int) - (old.size : Int) < 0
  · rw [if_pos h3]; exact ⟨_, rfl, fun hr => absurd hr (by decide)⟩
  · rw [if_neg h3]; exact ⟨_, rfl, fun _ => ⟨by omega, by omega, by omega⟩⟩
theorem szP_l0 : ∀ (m k : Nat) (L : List S170) (i : Nat) (n : Int), i + m = L.length → m < k → L.length < 4611686018427387000 → 0 ≤ n → n ≤ 1048576 → (∀ e ∈ L, Max e.f0 ∧ Max e.f1) →
    ∃ r, laws_szPairS.l0 k L n (i : Int) = some r ∧ r ≤ 1048576
  | 0, k + 1, L, i, n, h1, _, _, _, h5, _ => by
    rw [laws_szPairS.l0, if_neg (by omega)]
    exact ⟨n, rfl, h5⟩
  | m + 1, k + 1, L, i, n, h1, h2, h3, h4, h5, hS => by
    have hi : i < L.length := by omega
    have hs := hS _ (List.getElem_mem hi)
    unfold Max at hs
    rw [laws_szPairS.l0, if_pos (by omega), if_pos (by omega), rd170_at hi]
    unfold laws_szPair.f
    rw [wrap64_in (n - (L[i].f0.size : Int)) (by omega)]
    by_cases h : n - (L[i].f0.size : Int) < 0
    · rw [if_pos h, Option.bind_some, if_pos (by decide)]
      exact ⟨-1, rfl, by decide⟩
    rw [if_neg h, wrap64_in (n - (L[i].f0.size : Int) - (L[i].f1.size : Int)) (by omega)]
    by_cases h2 : n - (L[i].f0.size : Int) - (L[i].f1.size : Int) < 0
    · rw [if_pos h2, Option.bind_some, if_pos (by decide)]
      exact ⟨-1, rfl, by decide⟩
    · rw [if_neg h2, Option.bind_some, if_neg h2, w1 (by omega)]
      exact szP_l0 m k L (i + 1) _ (by omega) (by omega) h3 (Int.not_lt.1 h2) (by omega) hS
theorem szS_l0 : ∀ (m k : Nat) (L : List S172) (i : Nat) (n : Int), i + m = L.length → m < k → L.length < 4611686018427387000 → 0 ≤ n → n ≤ 1048576 → (∀ e ∈ L, Max e.f3) →
    ∃ r, laws_szSessionS.l0 k L n (i : Int) = some r ∧ r ≤ 1048576
  | 0, k + 1, L, i, n, h1, _, _, _, h5, _ => by
    rw [laws_szSessionS.l0, if_neg (by omega)]
    exact ⟨n, rfl, h5⟩
  | m + 1, k + 1, L, i, n, h1, h2, h3, h4, h5, hS => by
    have hi : i < L.length := by omega
    have hs := hS _ (List.getElem_mem hi)
    unfold Max at hs
    rw [laws_szSessionS.l0, if_pos (by omega), if_pos (by omega), rd172_at hi]
    unfold laws_szSession.f
    rw [wrap64_in (n - (L[i].f3.size : Int)) (by omega)]
    by_cases h : n - (L[i].f3.size : Int) < 0
    · rw [if_pos h, Option.bind_some, if_pos (by decide)]
      exact ⟨-1, rfl, by decide⟩
    · rw [if_neg h, Option.bind_some, if_neg h, w1 (by omega)]
      exact szS_l0 m k L (i + 1) _ (by omega) (by omega) h3 (Int.not_lt.1 h) (by omega) hS
theorem szT_f {k : Nat} {P : List S170} {S : List S172} (hP : P.length ≤ 9223372036854775807) (hS : S.length ≤ 9223372036854775807) (hk : 2000000 < k) (sP : ∀ e ∈ P, Max e.f0 ∧ Max e.f1) (sS : ∀ e ∈ S, Max e.f3) :
    ∃ r, laws_szTable.f k P S 1048576 = some r ∧ r ≤ 1048576 ∧ (0 ≤ r → P.length ≤ 1048576 ∧ S.length ≤ 1048576) := by
  unfold laws_szTable.f laws_szPairS.f
  rw [wrap64_in _ (by omega)]
  by_cases h : (1048576 : Int) - (P.length : Int) < 0
  · rw [if_pos h, Option.bind_some, if_pos (by decide)]
    exact ⟨-1, rfl, by decide, fun hr => absurd hr (by decide)⟩
  · rw [if_neg h]
    obtain ⟨r, hr, hr2⟩ := szP_l0 P.length k P 0 (1048576 - (P.length : Int)) (by omega) (by omega) (by omega) (by omega) (by omega) sP
    have hr' : laws_szPairS.l0 k P (1048576 - (P.length : Int)) 0 = some r := hr
    rw [hr', Option.bind_some]
    by_cases h1 : r < 0
    · rw [if_pos h1]
      exact ⟨-1, rfl, by decide, fun hr => absurd hr (by decide)⟩
    rw [if_neg h1]
    unfold laws_szSessionS.f
    rw [wrap64_in _ (by omega)]
    by_cases h2 : r - (S.length : Int) < 0
    · rw [if_pos h2, Option.bind_some, if_pos (by decide)]
      exact ⟨-1, rfl, by decide, fun hr => absurd hr (by decide)⟩
    · rw [if_neg h2]
      obtain ⟨q, hq, hq2⟩ := szS_l0 S.length k S 0 (r - (S.length : Int)) (by omega) (by omega) (by omega) (by omega) (by omega) sS
      have hq' : laws_szSessionS.l0 k S (r - (S.length : Int)) 0 = some q := hq
      rw [hq', Option.bind_some]
      by_cases h3 : q < 0
      · rw [if_pos h3]
        exact ⟨-1, rfl, by decide, fun hr => absurd hr (by decide)⟩
      · rw [if_neg h3]
        exact ⟨q, rfl, hq2, fun _ => ⟨by omega, by omega⟩⟩
end Go.Proofs.Ytppegigcclflbaa.PFnExactApplyCmd
