/- What the copying, comparing, sizing and marking functions of the laws answer: plain lists, no program. -/
import Derived.Test.YtppegigcclflbaaPFnExactBagWallx5
namespace Go.Proofs.Ytppegigcclflbaa.PFnExactBagWall
open Go.RowKit Go.Proofs.YtppegigcclflbaaW.PrintWords Go.Proofs.YtppegigcclflbaaW.PrintLast Go.Proofs.YtppegigcclflbaaW.PrintMore

theorem wrap64_in (n : Int) (h : -9223372036854775808 ≤ n ∧ n ≤ 9223372036854775807) : wrap64 n = n := by unfold wrap64; omega
theorem w1 {n : Nat} (h : n < 4611686018427387904) : wrap64 ((n : Int) + 1) = ((n + 1 : Nat) : Int) := by
  rw [wrap64_in _ (by omega)]
  omega
theorem rd_at {xs : List Int} {i : Nat} (h : i < xs.length) : rd xs (i : Int) = xs[i] := by
  unfold rd
  rw [Int.toNat_natCast, List.getD_eq_getElem?_getD, List.getElem?_eq_getElem h]
  rfl
theorem rd73_at {xs : List S73} {i : Nat} (h : i < xs.length) : rd_T73 xs (i : Int) = xs[i] := by
  unfold rd_T73
  rw [Int.toNat_natCast, List.getD_eq_getElem?_getD, List.getElem?_eq_getElem h]
  rfl
theorem rd138_at {xs : List S138} {i : Nat} (h : i < xs.length) : rd_T138 xs (i : Int) = xs[i] := by
  unfold rd_T138
  rw [Int.toNat_natCast, List.getD_eq_getElem?_getD, List.getElem?_eq_getElem h]
  rfl

theorem take_set_next {α : Type} {xs ys : List α} {i : Nat} (hl : ys.length = xs.length) (hi : i < xs.length) (ht : ys.take i = xs.take i) : (ys.set i xs[i]).take (i + 1) = xs.take (i + 1) := by
  apply List.ext_getElem?
  intro j
  rw [List.getElem?_take, List.getElem?_take]
  by_cases hj : j < i + 1
  · rw [if_pos hj, if_pos hj]
    by_cases hji : j = i
    · subst hji
      rw [List.getElem?_set_self (by omega), List.getElem?_eq_getElem hi]
    · rw [List.getElem?_set_ne (Ne.symm hji)]
      have h := congrArg (fun l => l[j]?) ht
      simpa [List.getElem?_take, show j < i by omega] using h
  · rw [if_neg hj, if_neg hj]

theorem toByteS_l0 : ∀ (m k : Nat) (x0 x3 : List Int) (i : Nat), i + m = x0.length → x3.length = x0.length → x3.take i = x0.take i → m < k → x0.length < 4611686018427387904 → laws_toByteS.l0 k x0 x3 (i : Int) = some x0
  | 0, k + 1, x0, x3, i, h1, h2, h3, _, _ => by
    unfold laws_toByteS.l0
    rw [if_neg (by omega)]
    rw [List.take_of_length_le (by omega), List.take_of_length_le (by omega)] at h3
    rw [h3]
  | m + 1, k + 1, x0, x3, i, h1, h2, h3, h4, h5 => by
    unfold laws_toByteS.l0
    rw [if_pos (by omega), if_pos (by omega), if_pos (by omega), Int.toNat_natCast, w1 (by omega), rd_at (by omega)]
    exact toByteS_l0 m k x0 _ (i + 1) (by omega) (by rw [List.length_set]; exact h2) (take_set_next h2 (by omega) h3) (by omega) h5
theorem toByteS_f {k : Nat} {l : List Int} (hk : l.length < k) (hl : l.length ≤ 281474976710656) : laws_toByteS.f k l = some l := by
  unfold laws_toByteS.f
  rw [if_pos (by omega), if_pos (by omega)]
  exact toByteS_l0 l.length k l _ 0 (by omega) (by simp) (by simp) hk (by omega)
theorem toIntS_l0 : ∀ (m k : Nat) (x0 x3 : List Int) (i : Nat), i + m = x0.length → x3.length = x0.length → x3.take i = x0.take i → m < k → x0.length < 4611686018427387904 → laws_toIntS.l0 k x0 x3 (i : Int) = some x0
  | 0, k + 1, x0, x3, i, h1, h2, h3, _, _ => by
    unfold laws_toIntS.l0
    rw [if_neg (by omega)]
    rw [List.take_of_length_le (by omega), List.take_of_length_le (by omega)] at h3
    rw [h3]
  | m + 1, k + 1, x0, x3, i, h1, h2, h3, h4, h5 => by
    unfold laws_toIntS.l0
    rw [if_pos (by omega), if_pos (by omega), if_pos (by omega), Int.toNat_natCast, w1 (by omega), rd_at (by omega)]
    exact toIntS_l0 m k x0 _ (i + 1) (by omega) (by rw [List.length_set]; exact h2) (take_set_next h2 (by omega) h3) (by omega) h5
theorem toIntS_f {k : Nat} {l : List Int} (hk : l.length < k) (hl : l.length ≤ 35184372088832) : laws_toIntS.f k l = some l := by
  unfold laws_toIntS.f
  rw [if_pos (by omega), if_pos (by omega)]
  exact toIntS_l0 l.length k l _ 0 (by omega) (by simp) (by simp) hk (by omega)
theorem toPacket_f {k : Nat} {p : S138} (hk : p.f3.length < k) (hl : p.f3.length ≤ 281474976710656) : laws_toPacket.f k p.f0 p.f1 p.f2 p.f3 = some (p.f0, p.f1, p.f2, p.f3) := by
  unfold laws_toPacket.f
  rw [toByteS_f hk hl]
  rfl

/-! ### Sizes -/
def bytesIn : List S138 → Nat
  | [] => 0
  | p :: ps => p.f3.length + bytesIn ps
theorem bytesIn_mem {p : S138} : ∀ {l : List S138}, p ∈ l → p.f3.length ≤ bytesIn l
  | q :: qs, h => by
    unfold bytesIn
    rcases List.mem_cons.1 h with rfl | h
    · omega
    · have := bytesIn_mem h
      omega

theorem szPacketS_l0 : ∀ (m k : Nat) (x0 : List S138) (n i : Nat), i + m = x0.length → (∀ p ∈ x0, p.f3.length ≤ 9223372036854775807) → m < k → x0.length < 4611686018427387904 → n ≤ 1048576 →
    ∃ r : Int, laws_szPacketS.l0 k x0 (n : Int) (i : Int) = some r ∧ (¬ r < 0 → ∃ q : Nat, r = q ∧ q + bytesIn (x0.drop i) = n)
  | 0, k + 1, x0, n, i, h1, _, _, _, _ => by
    unfold laws_szPacketS.l0
    rw [if_neg (by omega)]
    refine ⟨_, rfl, fun _ => ⟨n, rfl, ?_⟩⟩
    rw [List.drop_eq_nil_of_le (by omega)]
    rfl
  | m + 1, k + 1, x0, n, i, h1, h2, h3, h4, h5 => by
    have hi : i < x0.length := by omega
    have hb := h2 _ (List.getElem_mem hi)
    unfold laws_szPacketS.l0
    rw [if_pos (by omega), if_pos (by omega), w1 (by omega), rd138_at hi]
    unfold laws_szPacket.f laws_szByteS.f
    rw [wrap64_in _ (by omega)]
    have hd : x0.drop i = x0[i] :: x0.drop (i + 1) := List.drop_eq_getElem_cons hi
    by_cases hn : (n : Int) - (x0[i].f3.length : Int) < 0
    · rw [if_pos hn]
      exact ⟨_, rfl, fun h => absurd (by decide) h⟩
    · rw [if_neg hn]
      simp only [Option.bind_some]
      rw [if_neg hn]
      simp only [Option.bind_some]
      rw [if_neg hn]
      obtain ⟨q, hq⟩ : ∃ q : Nat, (n : Int) - (x0[i].f3.length : Int) = q := ⟨n - x0[i].f3.length, by omega⟩
      rw [hq]
      obtain ⟨r, hr, hr2⟩ := szPacketS_l0 m k x0 q (i + 1) (by omega) h2 (by omega) h4 (by omega)
      refine ⟨r, hr, fun h => ?_⟩
      obtain ⟨q2, e1, e2⟩ := hr2 h
      refine ⟨q2, e1, ?_⟩
      rw [hd]
      unfold bytesIn
      omega

theorem szBag_f {k : Nat} (a0 : Int) (l1 : List S138) (l2 : List Int) (hk : 1048577 < k) (h1 : l1.length ≤ 9223372036854775807) (h2 : l2.length ≤ 9223372036854775807) (h3 : ∀ p ∈ l1, p.f3.length ≤ 9223372036854775807) :
    ∃ r : Int, laws_szBag.f k a0 l1 l2 1048576 = some r ∧ (¬ r < 0 → l1.length + bytesIn l1 + l2.length ≤ 1048576) := by
  unfold laws_szBag.f laws_szPacketS.f laws_szIntS.f
  rw [wrap64_in (1048576 - (l1.length : Int)) (by omega)]
  by_cases ha : (1048576 : Int) - (l1.length : Int) < 0
  · rw [if_pos ha]
    exact ⟨_, rfl, fun h => absurd (by decide) h⟩
  · rw [if_neg ha]
    obtain ⟨q, hq⟩ : ∃ q : Nat, (1048576 : Int) - (l1.length : Int) = q := ⟨1048576 - l1.length, by omega⟩
    rw [hq]
    obtain ⟨r, hr, hr2⟩ := szPacketS_l0 l1.length k l1 q 0 (by omega) h3 (by omega) (by omega) (by omega)
    simp only [Int.cast_ofNat_Int] at hr
    rw [hr]
    simp only [Option.bind_some]
    by_cases hb : r < 0
    · rw [if_pos hb]
      exact ⟨_, rfl, fun h => absurd (by decide) h⟩
    · rw [if_neg hb]
      obtain ⟨q2, e1, e2⟩ := hr2 hb
      rw [List.drop_zero] at e2
      subst e1
      rw [wrap64_in _ (by omega)]
      by_cases hc : (q2 : Int) - (l2.length : Int) < 0
      · rw [if_pos hc]
        exact ⟨_, rfl, fun h => absurd (by decide) h⟩
      · rw [if_neg hc]
        simp only [Option.bind_some]
        rw [if_neg hc]
        exact ⟨_, rfl, fun _ => by omega⟩

/-! ### Equal -/
theorem eqByteS_l0 : ∀ (m k : Nat) (x : List Int) (i : Nat), i + m = x.length → m < k → x.length < 4611686018427387904 → laws_eqByteS.l0 k x x (i : Int) = some true
  | 0, k + 1, x, i, h1, _, _ => by
    unfold laws_eqByteS.l0
    rw [if_neg (by omega)]
  | m + 1, k + 1, x, i, h1, h2, h3 => by
    unfold laws_eqByteS.l0
    rw [if_pos (by omega), if_pos (by omega), if_pos (by omega), if_pos rfl, w1 (by omega)]
    exact eqByteS_l0 m k x (i + 1) (by omega) (by omega) h3
theorem eqByteS_f {k : Nat} {l : List Int} (hk : l.length < k) (hl : l.length < 4611686018427387904) : laws_eqByteS.f k l l = some true := by
  unfold laws_eqByteS.f
  rw [if_pos rfl]
  exact eqByteS_l0 l.length k l 0 (by omega) hk hl
theorem eqIntS_l0 : ∀ (m k : Nat) (x : List Int) (i : Nat), i + m = x.length → m < k → x.length < 4611686018427387904 → laws_eqIntS.l0 k x x (i : Int) = some true
  | 0, k + 1, x, i, h1, _, _ => by
    unfold laws_eqIntS.l0
    rw [if_neg (by omega)]
  | m + 1, k + 1, x, i, h1, h2, h3 => by
    unfold laws_eqIntS.l0
    rw [if_pos (by omega), if_pos (by omega), if_pos (by omega), if_pos rfl, w1 (by omega)]
    exact eqIntS_l0 m k x (i + 1) (by omega) (by omega) h3
theorem eqIntS_f {k : Nat} {l : List Int} (hk : l.length < k) (hl : l.length < 4611686018427387904) : laws_eqIntS.f k l l = some true := by
  unfold laws_eqIntS.f
  rw [if_pos rfl]
  exact eqIntS_l0 l.length k l 0 (by omega) hk hl
theorem eqPacketS_l0 : ∀ (m k : Nat) (x : List S73) (i : Nat) (b : Nat), i + m = x.length → m + b < k → (∀ p ∈ x, p.f3.length < b) → x.length < 4611686018427387904 → b < 4611686018427387904 → laws_eqPacketS.l0 k x x (i : Int) = some true
  | 0, k + 1, x, i, b, h1, _, _, _, _ => by
    unfold laws_eqPacketS.l0
    rw [if_neg (by omega)]
  | m + 1, k + 1, x, i, b, h1, h2, h3, h4, h5 => by
    have hi : i < x.length := by omega
    have hb := h3 _ (List.getElem_mem hi)
    unfold laws_eqPacketS.l0 laws_eqPacket.f
    rw [if_pos (by omega), if_pos (by omega), if_pos (by omega), if_pos rfl, if_pos rfl, if_pos rfl, rd73_at hi, eqByteS_f (by omega) (by omega), w1 (by omega)]
    exact eqPacketS_l0 m k x (i + 1) b (by omega) (by omega) h3 h4 h5
theorem eqBag_f {k b : Nat} {a0 : Int} {l1 : List S73} {l2 : List Int} (h1 : l1.length + b < k) (h2 : ∀ p ∈ l1, p.f3.length < b) (h3 : l2.length < k) (hk : k < 4611686018427387904) : laws_eqBag.f k a0 l1 l2 a0 l1 l2 = some true := by
  unfold laws_eqBag.f laws_eqPacketS.f
  rw [if_pos rfl, if_pos rfl]
  have he := eqPacketS_l0 l1.length k l1 0 b (by omega) h1 h2 (by omega) (by omega)
  simp only [Int.cast_ofNat_Int] at he
  rw [he, eqIntS_f h3 (by omega)]
  rfl
end Go.Proofs.Ytppegigcclflbaa.PFnExactBagWall
