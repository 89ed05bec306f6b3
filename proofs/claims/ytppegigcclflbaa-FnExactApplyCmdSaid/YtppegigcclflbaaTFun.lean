/- What the reference's table functions answer: plain lists, no program. -/
import Derived.Test.YtppegigcclflbaaTPure
namespace Go.Proofs.Ytppegigcclflbaa.PFnExactApplyCmd
open Go.RowKit Go.Proofs.YtppegigcclflbaaW.PrintWords Go.Proofs.YtppegigcclflbaaW.PrintLast Go.Proofs.YtppegigcclflbaaW.PrintMore
open Go.Proofs.Ytppegigcclflbaa.PStr

theorem copy_l1 : ∀ (m k : Nat) (x : List S157) (y : List S146) (z : List S157) (i : Nat), i + m = y.length → m < k → y.length < 3000000000000 → spec_l5copy.l1 k (i : Int) x y z (y.take i) = some (z, y)
  | 0, k + 1, x, y, z, i, h1, _, _ => by
    rw [spec_l5copy.l1, if_neg (by omega), List.take_of_length_le (by omega)]
  | m + 1, k + 1, x, y, z, i, h1, h2, h3 => by
    have hi : i < y.length := by omega
    rw [spec_l5copy.l1, if_pos (by omega), if_pos (by omega), if_pos (by rw [List.length_take]; omega), rd146_at hi, w1 (by omega), ← List.take_succ_eq_append_getElem hi]
    exact copy_l1 m k x y z (i + 1) (by omega) (by omega) h3
theorem copy_l0 : ∀ (m k : Nat) (x : List S157) (y : List S146) (i : Nat), i + m = x.length → m + y.length + 1 < k → x.length < 3000000000000 → y.length < 3000000000000 → spec_l5copy.l0 k (i : Int) x y (x.take i) = some (x, y)
  | 0, k + 1, x, y, i, h1, h2, _, h4 => by
    rw [spec_l5copy.l0, if_neg (by omega), List.take_of_length_le (by omega)]
    exact copy_l1 y.length k x y x 0 (by omega) (by omega) h4
  | m + 1, k + 1, x, y, i, h1, h2, h3, h4 => by
    have hi : i < x.length := by omega
    rw [spec_l5copy.l0, if_pos (by omega), if_pos (by omega), if_pos (by rw [List.length_take]; omega), rd157_at hi, w1 (by omega), ← List.take_succ_eq_append_getElem hi]
    exact copy_l0 m k x y (i + 1) (by omega) (by omega) h3 h4
theorem copy_f {k : Nat} {x : List S157} {y : List S146} (hk : x.length + y.length + 1 < k) (hx : x.length < 3000000000000) (hy : y.length < 3000000000000) : spec_l5copy.f k x y = some (x, y) :=
  copy_l0 x.length k x y 0 (by omega) hk hx hy

theorem lookS_cons (p : S146) (ps : List S146) (c : Int) : lookS (p :: ps) c = if p.f0 = c then some p else lookS ps c := rfl
theorem lookP_cons (p : S157) (ps : List S157) (c : List UInt8) : lookP (p :: ps) c = if p.f0.toList = c then some p.f1 else lookP ps c := rfl
theorem session_l0 : ∀ (m k : Nat) (c : Int) (x : List S157) (y : List S146) (i : Nat), i + m = y.length → m < k → y.length < 4611686018427387904 → spec_l5session.l0 k c (i : Int) x y = some (((lookS (y.drop i) c).getD z146).f0, ((lookS (y.drop i) c).getD z146).f1, ((lookS (y.drop i) c).getD z146).f2, ((lookS (y.drop i) c).getD z146).f3)
  | 0, k + 1, c, x, y, i, h1, _, _ => by
    rw [spec_l5session.l0, if_neg (by omega), List.drop_eq_nil_of_le (by omega)]
    rfl
  | m + 1, k + 1, c, x, y, i, h1, h2, h3 => by
    have hi : i < y.length := by omega
    rw [spec_l5session.l0, if_pos (by omega), if_pos (by omega), rd146_at hi, w1 (by omega), List.drop_eq_getElem_cons hi, lookS_cons]
    by_cases h : y[i].f0 = c
    · rw [if_pos h, if_pos h]; rfl
    · rw [if_neg h, if_neg h]
      exact session_l0 m k c x y (i + 1) (by omega) (by omega) h3
theorem session_f {k : Nat} {c : Int} {x : List S157} {y : List S146} (hk : y.length < k) (h : y.length < 4611686018427387904) : spec_l5session.f k x y c = some (((lookS y c).getD z146).f0, ((lookS y c).getD z146).f1, ((lookS y c).getD z146).f2, ((lookS y c).getD z146).f3) :=
  session_l0 y.length k c x y 0 (by omega) hk h
theorem value_l0 : ∀ (m k : Nat) (c : ByteArray) (x : List S157) (y : List S146) (i : Nat), i + m = x.length → m < k → x.length < 4611686018427387904 → spec_l5value.l0 k c (i : Int) x y = some ((lookP (x.drop i) c.toList).getD ⟨#[]⟩, (lookP (x.drop i) c.toList).isSome)
  | 0, k + 1, c, x, y, i, h1, _, _ => by
    rw [spec_l5value.l0, if_neg (by omega), List.drop_eq_nil_of_le (by omega)]
    rfl
  | m + 1, k + 1, c, x, y, i, h1, h2, h3 => by
    have hi : i < x.length := by omega
    rw [spec_l5value.l0, if_pos (by omega), if_pos (by omega), rd157_at hi, w1 (by omega), List.drop_eq_getElem_cons hi, lookP_cons]
    by_cases h : x[i].f0.toList = c.toList
    · rw [if_pos h, if_pos h]; rfl
    · rw [if_neg h, if_neg h]
      exact value_l0 m k c x y (i + 1) (by omega) (by omega) h3
theorem value_f {k : Nat} {c : ByteArray} {x : List S157} {y : List S146} (hk : x.length < k) (h : x.length < 4611686018427387904) : spec_l5value.f k x y c = some ((lookP x c.toList).getD ⟨#[]⟩, (lookP x c.toList).isSome) :=
  value_l0 x.length k c x y 0 (by omega) hk h

theorem with_l1 : ∀ (m k : Nat) (x : List S157) (c : ByteArray) (z : List S157) (i : Nat), i + m = x.length → m < k → x.length < 1000000000000 → z.length + m < 3000000000000 → spec_l5with.l1 k x c z (i : Int) = some (z ++ (x.drop i).filter (fun p => decide (c.toList < p.f0.toList)))
  | 0, k + 1, x, c, z, i, h1, _, _, _ => by
    rw [spec_l5with.l1, if_neg (by omega), List.drop_eq_nil_of_le (by omega)]
    simp
  | m + 1, k + 1, x, c, z, i, h1, h2, h3, h4 => by
    have hi : i < x.length := by omega
    rw [spec_l5with.l1, if_pos (by omega), if_pos (by omega), rd157_at hi, w1 (by omega), List.drop_eq_getElem_cons hi, bytesLess_eq, List.filter_cons]
    by_cases h : decide (c.toList < x[i].f0.toList) = true
    · rw [if_pos h, if_pos (by omega), if_pos h, with_l1 m k x c _ (i + 1) (by omega) (by omega) h3 (by simp; omega)]
      simp
    · rw [if_neg h, if_neg h, with_l1 m k x c _ (i + 1) (by omega) (by omega) h3 (by omega)]
theorem with_l0 : ∀ (m k : Nat) (x : List S157) (c : ByteArray) (put : Bool) (v : ByteArray) (z : List S157) (i : Nat), i + m = x.length → m + x.length + 2 < k → x.length < 1000000000000 → z.length + m < 1500000000000 →
    spec_l5with.l0 k x c put v z (i : Int) = some (z ++ (x.drop i).filter (fun p => decide (p.f0.toList < c.toList)) ++ (if put = true then [⟨c, v⟩] else []) ++ x.filter (fun p => decide (c.toList < p.f0.toList)))
  | 0, k + 2, x, c, put, v, z, i, h1, h2, h3, h4 => by
    rw [spec_l5with.l0, if_neg (by omega), List.drop_eq_nil_of_le (by omega)]
    cases put
    · rw [if_neg (by decide), spec_l5with.j1]
      have h := with_l1 x.length k x c z 0 (by omega) (by omega) h3 (by omega)
      simp only [Int.cast_ofNat_Int] at h
      rw [h]
      simp
    · rw [if_pos rfl, if_pos (by omega), spec_l5with.j1]
      have h := with_l1 x.length k x c (z ++ [⟨c, v⟩]) 0 (by omega) (by omega) h3 (by simp; omega)
      simp only [Int.cast_ofNat_Int] at h
      rw [h]
      simp
  | m + 1, k + 1, x, c, put, v, z, i, h1, h2, h3, h4 => by
    have hi : i < x.length := by omega
    rw [spec_l5with.l0, if_pos (by omega), if_pos (by omega), rd157_at hi, w1 (by omega), List.drop_eq_getElem_cons hi, bytesLess_eq, List.filter_cons]
    by_cases h : decide (x[i].f0.toList < c.toList) = true
    · rw [if_pos h, if_pos (by omega), if_pos h, with_l0 m k x c put v _ (i + 1) (by omega) (by omega) h3 (by simp; omega)]
      simp
    · rw [if_neg h, if_neg h, with_l0 m k x c put v _ (i + 1) (by omega) (by omega) h3 (by omega)]
theorem with_f {k : Nat} {x : List S157} {c v : ByteArray} {put : Bool} (hk : 2 * x.length + 2 < k) (hx : x.length < 1000000000000) : spec_l5with.f k x c put v = some (withP x c put v) := by
  unfold spec_l5with.f
  have h := with_l0 x.length k x c put v [] 0 (by omega) (by omega) hx (by simp; omega)
  simp only [Int.cast_ofNat_Int] at h
  rw [h]
  simp [withP]

theorem withS_l1 : ∀ (m k : Nat) (x z : List S146) (c a0 a1 a2 : Int) (a3 : ByteArray) (i : Nat) (r : Option (List S146)), i + m = x.length → m < k → x.length < 1000000000000 → z.length + m < 3000000000000 → 1 ≤ c → c ≤ 8 →
    (∀ k', k ≤ k' + m + 1 → spec_l5withSession.l0 k' x (z ++ (x.drop i).filter (fun s => decide (s.f0 = c))) (c + 1) a0 a1 a2 a3 = r) → spec_l5withSession.l1 k x z c (i : Int) a0 a1 a2 a3 = r
  | 0, k + 1, x, z, c, a0, a1, a2, a3, i, r, h1, _, _, _, hc1, hc8, hr => by
    rw [spec_l5withSession.l1, if_neg (by omega), wrap64_in (c + 1) (by omega)]
    have h := hr k (by omega)
    rw [List.drop_eq_nil_of_le (by omega)] at h
    simpa using h
  | m + 1, k + 1, x, z, c, a0, a1, a2, a3, i, r, h1, h2, h3, h4, hc1, hc8, hr => by
    have hi : i < x.length := by omega
    rw [spec_l5withSession.l1, if_pos (by omega), if_pos (by omega), rd146_at hi, w1 (by omega)]
    rw [List.drop_eq_getElem_cons hi] at hr
    by_cases h : x[i].f0 = c
    · rw [if_pos h, if_pos (by omega)]
      refine withS_l1 m k x _ c a0 a1 a2 a3 (i + 1) r (by omega) (by omega) h3 (by simp; omega) hc1 hc8 (fun k' hk' => ?_)
      have h5 := hr k' (by omega)
      rw [List.filter_cons, if_pos (decide_eq_true h)] at h5
      simpa using h5
    · rw [if_neg h]
      refine withS_l1 m k x _ c a0 a1 a2 a3 (i + 1) r (by omega) (by omega) h3 (by omega) hc1 hc8 (fun k' hk' => ?_)
      have h5 := hr k' (by omega)
      rwa [List.filter_cons, if_neg (by rw [decide_eq_false h]; decide)] at h5
theorem withS_l0 (x : List S146) (s : S146) (hx : x.length < 1000000000) : ∀ (m k : Nat) (z : List S146) (c : Int), c + m = 9 → 1 ≤ c → m * (x.length + 2) + 1 < k → z.length + m * (x.length + 1) < 100000000000 →
    spec_l5withSession.l0 k x z c s.f0 s.f1 s.f2 s.f3 = some (z ++ ((List.range m).map (fun (j : Nat) => c + (j : Int))).flatMap (fun c => if c = s.f0 then [s] else x.filter (fun s => decide (s.f0 = c))))
  | 0, k + 1, z, c, h1, h2, h3, h4 => by
    rw [spec_l5withSession.l0, if_neg (by omega)]
    simp
  | m + 1, k + 1, z, c, h1, h2, h3, h4 => by
    have e1 : (m + 1) * (x.length + 2) = m * (x.length + 2) + (x.length + 2) := Nat.succ_mul _ _
    have e2 : (m + 1) * (x.length + 1) = m * (x.length + 1) + (x.length + 1) := Nat.succ_mul _ _
    have hf : (List.map (fun (j : Nat) => c + (j : Int)) (List.range (m + 1))) = c :: List.map (fun (j : Nat) => c + 1 + (j : Int)) (List.range m) := by
      rw [List.range_succ_eq_map, List.map_cons, List.map_map]
      congr 1
      · simp
      · apply List.map_congr_left
        intro j _
        show c + ((j + 1 : Nat) : Int) = c + 1 + (j : Int)
        omega
    rw [hf, List.flatMap_cons]
    rw [spec_l5withSession.l0, if_pos (by omega)]
    by_cases hc : c = s.f0
    · rw [if_pos hc, if_pos (by omega), wrap64_in (c + 1) (by omega), if_pos hc, withS_l0 x s hx m k _ (c + 1) (by omega) (by omega) (by omega) (by simp; omega)]
      simp
    · rw [if_neg hc, if_neg hc]
      refine withS_l1 x.length k x z c s.f0 s.f1 s.f2 s.f3 0 _ (by omega) (by omega) (by omega) (by omega) (by omega) (by omega) (fun k' hk' => ?_)
      rw [List.drop_zero, withS_l0 x s hx m k' _ (c + 1) (by omega) (by omega) (by omega) (by
        have := List.length_filter_le (fun s : S146 => decide (s.f0 = c)) x
        rw [List.length_append]
        omega)]
      simp
theorem withS_f {k : Nat} {x : List S146} {s : S146} (hx : x.length < 1000000000) (hk : 8 * (x.length + 2) + 1 < k) : spec_l5withSession.f k x s.f0 s.f1 s.f2 s.f3 = some (withS x s) := by
  unfold spec_l5withSession.f
  rw [withS_l0 x s hx 8 k [] 1 (by decide) (by decide) hk (by simp; omega)]
  rfl
end Go.Proofs.Ytppegigcclflbaa.PFnExactApplyCmd
