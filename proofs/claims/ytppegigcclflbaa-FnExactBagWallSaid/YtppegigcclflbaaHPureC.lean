/- What spec.BagWall answers: plain lists, no program. -/
import Derived.Test.YtppegigcclflbaaHPureA
import Derived.Test.YtppegigcclflbaaHBagWall
import Derived.Test.YtppegigcclflbaaPFnExactBagWallx9
namespace Go.Proofs.Ytppegigcclflbaa.PFnExactBagWall
open Go.RowKit Go.Proofs.YtppegigcclflbaaW.PrintWords Go.Proofs.YtppegigcclflbaaW.PrintLast Go.Proofs.YtppegigcclflbaaW.PrintMore

/-! ### Well formed -/
def addrOk (a : Int) : Bool := decide (1 ≤ a ∧ a ≤ 7) || decide (11 ≤ a ∧ a ≤ 18)
def routeB (a b : Int) (n : Nat) : Bool := addrOk a && (addrOk b && (decide (a ≠ b) && decide (1 ≤ (n : Int) ∧ (n : Int) ≤ 16384)))
def pksOk (next : Int) : Int → List S73 → Bool
  | _, [] => true
  | prev, p :: ps => decide (prev < p.f0) && (decide (p.f0 < next) && (routeB p.f1 p.f2 p.f3.length && pksOk next p.f0 ps))
def wlsOk : Int → List Int → Bool
  | _, [] => true
  | prev, x :: xs => decide (prev < x) && (decide (x ≤ 7) && wlsOk x xs)
def bagOkB (next : Int) (ps : List S73) (ws : List Int) : Bool := decide (1 ≤ next ∧ next ≤ 1099511627776) && (decide (ps.length ≤ 4096) && (pksOk next 0 ps && wlsOk 0 ws))

theorem within_f (a b c : Int) : impl_within.f a b c = some (decide (b ≤ a ∧ a ≤ c)) := by
  unfold impl_within.f
  by_cases h : a ≥ b
  · rw [if_pos h]
    have : b ≤ a := h
    simp [this]
  · rw [if_neg h]
    have : ¬ b ≤ a := h
    simp [this]
theorem l1in_f (a b c : Int) : spec_l1in.f a b c = some (decide (b ≤ a ∧ a ≤ c)) := by
  unfold spec_l1in.f
  by_cases h : b ≤ a
  · rw [if_pos h]
    simp [h]
  · rw [if_neg h]
    simp [h]
theorem addressOk_f (a : Int) : impl_addressOk.f a = some (addrOk a) := by
  unfold impl_addressOk.f addrOk
  rw [within_f, within_f, Option.bind_some, Option.bind_some]
  by_cases h : decide (1 ≤ a ∧ a ≤ 7) = true
  · rw [if_pos h, h]; rfl
  · rw [if_neg h, Bool.not_eq_true _ |>.mp h]; rfl
theorem l3address_f (a : Int) : spec_l3address.f a = some (addrOk a) := by
  unfold spec_l3address.f addrOk
  rw [l1in_f, l1in_f, Option.bind_some, Option.bind_some]
  by_cases h : decide (1 ≤ a ∧ a ≤ 7) = true
  · rw [if_pos h, h]; rfl
  · rw [if_neg h, Bool.not_eq_true _ |>.mp h]; rfl
theorem routeOk_f (a b : Int) (l : List Int) : impl_routeOk.f a b l = some (routeB a b l.length) := by
  unfold impl_routeOk.f routeB
  rw [addressOk_f, addressOk_f, within_f, Option.bind_some, Option.bind_some, Option.bind_some]
  cases addrOk a
  · rfl
  · rw [if_pos rfl]
    cases addrOk b
    · rfl
    · rw [if_pos rfl]
      by_cases h : a = b
      · rw [if_pos h]; simp [h]
      · rw [if_neg h]; simp [h]

theorem wf_l1 : ∀ (m k : Nat) (prev : Int) (x : List Int) (i : Nat), i + m = x.length → m < k → x.length < 4611686018427387904 → impl_Bag_wellFormed.l1 k prev x (x.length : Int) (i : Int) = some (wlsOk prev (x.drop i))
  | 0, k + 1, prev, x, i, h1, _, _ => by
    unfold impl_Bag_wellFormed.l1
    rw [if_neg (by omega), List.drop_eq_nil_of_le (by omega)]
    rfl
  | m + 1, k + 1, prev, x, i, h1, h2, h3 => by
    have hi : i < x.length := by omega
    unfold impl_Bag_wellFormed.l1
    rw [if_pos (by omega), if_pos (by omega), if_pos (by omega), rd_at hi, w1 (by omega), List.drop_eq_getElem_cons hi]
    unfold wlsOk
    by_cases ha : x[i] ≤ prev
    · rw [if_pos ha, decide_eq_false (by omega)]; rfl
    · rw [if_neg ha, decide_eq_true (by omega)]
      by_cases hb : x[i] > 7
      · rw [if_pos hb, decide_eq_false (by omega)]; rfl
      · rw [if_neg hb, decide_eq_true (by omega)]
        exact wf_l1 m k _ x (i + 1) (by omega) (by omega) h3
theorem wf_l0 : ∀ (m k : Nat) (prev next : Int) (x : List S73) (y : List Int) (i : Nat), i + m = x.length → m + y.length + 1 < k → x.length < 4611686018427387904 → y.length < 4611686018427387904 → impl_Bag_wellFormed.l0 k prev x (x.length : Int) (i : Int) next x y = some (pksOk next prev (x.drop i) && wlsOk 0 y)
  | 0, k + 1, prev, next, x, y, i, h1, h2, _, h4 => by
    unfold impl_Bag_wellFormed.l0
    rw [if_neg (by omega), List.drop_eq_nil_of_le (by omega)]
    have h := wf_l1 y.length k 0 y 0 (by omega) (by omega) h4
    simp only [Int.cast_ofNat_Int] at h
    rw [h]
    rfl
  | m + 1, k + 1, prev, next, x, y, i, h1, h2, h3, h4 => by
    have hi : i < x.length := by omega
    unfold impl_Bag_wellFormed.l0
    rw [if_pos (by omega), if_pos (by omega), if_pos (by omega), rd73_at hi, w1 (by omega), List.drop_eq_getElem_cons hi, routeOk_f, Option.bind_some]
    unfold pksOk
    by_cases ha : x[i].f0 ≤ prev
    · rw [if_pos ha, decide_eq_false (by omega)]; rfl
    · rw [if_neg ha, decide_eq_true (by omega)]
      by_cases hb : x[i].f0 ≥ next
      · rw [if_pos hb, decide_eq_false (by omega)]; rfl
      · rw [if_neg hb, decide_eq_true (by omega)]
        cases routeB x[i].f1 x[i].f2 x[i].f3.length
        · rfl
        · rw [if_pos rfl, wf_l0 m k _ next x y (i + 1) (by omega) (by omega) h3 h4]
          rfl
theorem wellFormed_f {k : Nat} {a0 : Int} {l1 : List S73} {l2 : List Int} (hk : l1.length + l2.length + 2 < k) (hk2 : k < 4611686018427387904) : impl_Bag_wellFormed.f k a0 l1 l2 = some (bagOkB a0 l1 l2) := by
  unfold impl_Bag_wellFormed.f bagOkB
  rw [within_f, Option.bind_some]
  obtain ⟨k, rfl⟩ : ∃ q, k = q + 1 := ⟨k - 1, by omega⟩
  cases decide (1 ≤ a0 ∧ a0 ≤ 1099511627776)
  · rfl
  · rw [if_pos rfl]
    rw [impl_Bag_wellFormed.j0]
    by_cases h : (l1.length : Int) > 4096
    · rw [decide_eq_true h, if_pos rfl, decide_eq_false (by omega)]; rfl
    · rw [decide_eq_false h, if_neg (by decide), decide_eq_true (by omega)]
      have he := wf_l0 l1.length k 0 a0 l1 l2 0 (by omega) (by omega) (by omega) (by omega)
      simp only [Int.cast_ofNat_Int] at he
      rw [he]
      rfl

theorem sp_l1 : ∀ (m k : Nat) (prev next : Int) (x : List S73) (y : List Int) (i : Nat), i + m = y.length → m < k → y.length < 4611686018427387904 → (i = 0 → prev = 0) → (∀ j, i = j + 1 → 1 ≤ prev ∧ y[j]? = some prev) → spec_l3bagOk.l1 k (i : Int) next x y = some (wlsOk prev (y.drop i))
  | 0, k + 1, prev, next, x, y, i, h1, _, _, _, _ => by
    unfold spec_l3bagOk.l1
    rw [if_neg (by omega), List.drop_eq_nil_of_le (by omega)]
    rfl
  | m + 1, k + 1, prev, next, x, y, i, h1, h2, h3, h4, h5 => by
    have hi : i < y.length := by omega
    have hrec : ∀ (h : 1 ≤ y[i]), spec_l3bagOk.l1 k ((i + 1 : Nat) : Int) next x y = some (wlsOk y[i] (y.drop (i + 1))) := fun h => sp_l1 m k _ next x y (i + 1) (by omega) (by omega) h3 (fun e => by omega) (fun j e => ⟨h, by rw [show j = i by omega, List.getElem?_eq_getElem hi]⟩)
    unfold spec_l3bagOk.l1
    rw [if_pos (by omega), if_pos (by omega), rd_at hi, w1 (by omega), l1in_f, Option.bind_some, List.drop_eq_getElem_cons hi]
    unfold wlsOk
    have hp0 : 0 ≤ prev := by
      rcases Nat.eq_zero_or_pos i with h | h
      · rw [h4 h]; decide
      · have := (h5 (i - 1) (by omega)).1; omega
    by_cases ha : 1 ≤ y[i] ∧ y[i] ≤ 7
    · rw [decide_eq_true ha, if_pos rfl]
      by_cases hz : (i : Int) > 0
      · rw [if_pos hz, wrap64_in ((i : Int) - 1) (by omega)]
        obtain ⟨hq1, hq2⟩ := h5 (i - 1) (by omega)
        have hrd : rd y ((i : Int) - 1) = prev := by
          rw [show (i : Int) - 1 = ((i - 1 : Nat) : Int) by omega, rd_at (by omega)]
          rw [List.getElem?_eq_getElem (by omega)] at hq2
          injection hq2
        rw [if_pos (by omega), if_pos (by omega), hrd]
        by_cases hb : y[i] ≤ prev
        · rw [if_pos hb, decide_eq_false (by omega)]; rfl
        · rw [if_neg hb, decide_eq_true (by omega), decide_eq_true (by omega), hrec ha.1]
          rfl
      · rw [if_neg hz, hrec ha.1]
        have hp := h4 (by omega)
        rw [decide_eq_true (by omega), decide_eq_true (by omega)]
        rfl
    · rw [decide_eq_false ha, if_neg (by decide)]
      by_cases hb : prev < y[i]
      · rw [decide_eq_true hb, decide_eq_false (by omega)]; rfl
      · rw [decide_eq_false hb]; rfl
theorem sp_j2 (k : Nat) (x3 : Int) (b : Bool) (next : Int) (x : List S73) (y : List Int) (p : S73) (v : Bool) (h : routeB p.f1 p.f2 p.f3.length = true → spec_l3bagOk.l0 k (wrap64 (x3 + 1)) next x y = some v) :
    spec_l3bagOk.j2 (k + 1) x3 b next x y p.f0 p.f1 p.f2 p.f3 = some (!b && (routeB p.f1 p.f2 p.f3.length && v)) := by
  unfold spec_l3bagOk.j2
  cases b
  · rw [if_neg (by decide), l3address_f, l3address_f, l1in_f, Option.bind_some, Option.bind_some, Option.bind_some]
    unfold routeB at h ⊢
    generalize addrOk p.f1 = A1 at h ⊢
    generalize addrOk p.f2 = A2 at h ⊢
    cases A1
    · rfl
    · rw [if_pos rfl]
      cases A2
      · rfl
      · rw [if_pos rfl]
        by_cases he : p.f1 = p.f2
        · rw [if_pos he]; simp [he]
        · rw [if_neg he]
          by_cases hc : 1 ≤ (p.f3.length : Int) ∧ (p.f3.length : Int) ≤ 16384
          · rw [decide_eq_true hc, if_pos rfl, h (by rw [decide_eq_true (show p.f1 ≠ p.f2 from he), decide_eq_true hc]; rfl)]
            simp [he]
          · rw [decide_eq_false hc, if_neg (by decide)]
            simp
  · rw [if_pos rfl]
    rfl
theorem sp_l0 : ∀ (m k : Nat) (prev next : Int) (x : List S73) (y : List Int) (i : Nat), i + m = x.length → 2 * m + y.length + 1 < k → x.length < 4611686018427387904 → y.length < 4611686018427387904 → (i = 0 → prev = 0) → (∀ j, i = j + 1 → 1 ≤ prev ∧ ∃ p, x[j]? = some p ∧ p.f0 = prev) →
    spec_l3bagOk.l0 k (i : Int) next x y = some (pksOk next prev (x.drop i) && wlsOk 0 y)
  | 0, k + 1, prev, next, x, y, i, h1, h2, _, h4, _, _ => by
    unfold spec_l3bagOk.l0
    rw [if_neg (by omega), List.drop_eq_nil_of_le (by omega)]
    have h := sp_l1 y.length k 0 next x y 0 (by omega) (by omega) h4 (fun _ => rfl) (fun j e => by omega)
    simp only [Int.cast_ofNat_Int] at h
    rw [h]
    rfl
  | m + 1, k + 2, prev, next, x, y, i, h1, h2, h3, h4, h5, h6 => by
    have hi : i < x.length := by omega
    unfold spec_l3bagOk.l0
    rw [if_pos (by omega), if_pos (by omega), rd73_at hi, List.drop_eq_getElem_cons hi]
    have hp0 : 0 ≤ prev := by
      rcases Nat.eq_zero_or_pos i with h | h
      · rw [h5 h]; decide
      · have := (h6 (i - 1) (by omega)).1; omega
    unfold pksOk
    by_cases ha : x[i].f0 < 1
    · rw [if_pos ha]
      unfold spec_l3bagOk.j2
      rw [if_pos rfl, decide_eq_false (by omega)]; rfl
    · rw [if_neg ha]
      have hrec := sp_l0 m k x[i].f0 next x y (i + 1) (by omega) (by omega) h3 h4 (fun e => by omega) (fun j e => ⟨by omega, x[i], by rw [show j = i by omega, List.getElem?_eq_getElem hi], rfl⟩)
      rw [← w1 (by omega)] at hrec
      by_cases hb : x[i].f0 ≥ next
      · rw [if_pos hb]
        unfold spec_l3bagOk.j2
        rw [if_pos rfl, decide_eq_false (show ¬ x[i].f0 < next by omega)]
        simp
      · rw [if_neg hb, decide_eq_true (show x[i].f0 < next by omega)]
        by_cases hz : (i : Int) > 0
        · rw [if_pos hz, wrap64_in ((i : Int) - 1) (by omega)]
          obtain ⟨hq1, p, hq2, hq3⟩ := h6 (i - 1) (by omega)
          have hrd : (rd_T73 x ((i : Int) - 1)).f0 = prev := by
            rw [show (i : Int) - 1 = ((i - 1 : Nat) : Int) by omega, rd73_at (by omega)]
            rw [List.getElem?_eq_getElem (by omega)] at hq2
            injection hq2 with hq2
            rw [hq2, hq3]
          rw [if_pos (by omega), if_pos (by omega), hrd, sp_j2 k _ _ next x y x[i] _ (fun _ => hrec)]
          by_cases hc : x[i].f0 ≤ prev
          · rw [decide_eq_true hc, decide_eq_false (by omega)]; rfl
          · rw [decide_eq_false hc, decide_eq_true (by omega)]
            simp [Bool.and_assoc]
        · rw [if_neg hz, sp_j2 k _ _ next x y x[i] _ (fun _ => hrec)]
          have hp := h5 (by omega)
          rw [decide_eq_true (by omega)]
          simp [Bool.and_assoc]
theorem bagOk_f {k : Nat} {a0 : Int} {l1 : List S73} {l2 : List Int} (hk : 2 * l1.length + l2.length + 2 < k) (hk2 : k < 4611686018427387904) : spec_l3bagOk.f k a0 l1 l2 = some (bagOkB a0 l1 l2) := by
  unfold spec_l3bagOk.f bagOkB
  rw [l1in_f, Option.bind_some]
  obtain ⟨k, rfl⟩ : ∃ q, k = q + 1 := ⟨k - 1, by omega⟩
  cases decide (1 ≤ a0 ∧ a0 ≤ 1099511627776)
  · rfl
  · rw [if_pos rfl]
    rw [spec_l3bagOk.j0]
    by_cases h : (l1.length : Int) > 4096
    · rw [decide_eq_true h, if_pos rfl, decide_eq_false (by omega)]; rfl
    · rw [decide_eq_false h, if_neg (by decide), decide_eq_true (by omega)]
      have he := sp_l0 l1.length k 0 a0 l1 l2 0 (by omega) (by omega) (by omega) (by omega) (fun _ => rfl) (fun j e => by omega)
      simp only [Int.cast_ofNat_Int] at he
      rw [he]
      rfl

/-! ### What a well formed bag holds -/
theorem pksOk_bytes (next : Int) : ∀ (prev : Int) (l : List S73), pksOk next prev l = true → ∀ p ∈ l, p.f3.length ≤ 16384
  | _, [], _, p, hp => by simp at hp
  | prev, q :: qs, h, p, hp => by
    unfold pksOk at h
    simp only [Bool.and_eq_true, decide_eq_true_eq] at h
    rcases List.mem_cons.1 hp with rfl | hp
    · have h2 := h.2.2.1
      unfold routeB at h2
      simp only [Bool.and_eq_true, decide_eq_true_eq] at h2
      omega
    · exact pksOk_bytes next _ qs h.2.2.2 p hp
theorem wlsOk_small : ∀ (prev : Int) (l : List Int), 0 ≤ prev → wlsOk prev l = true → (∀ x ∈ l, prev + 1 ≤ x ∧ x ≤ 7) ∧ (prev ≤ 7 → prev + l.length ≤ 7)
  | _, [], h0, _ => ⟨fun x hx => by simp at hx, fun h => by simpa using h⟩
  | prev, q :: qs, h0, h => by
    unfold wlsOk at h
    simp only [Bool.and_eq_true, decide_eq_true_eq] at h
    obtain ⟨i1, i2⟩ := wlsOk_small q qs (by omega) h.2.2
    refine ⟨fun x hx => ?_, fun _ => ?_⟩
    · rcases List.mem_cons.1 hx with rfl | hx
      · omega
      · have := i1 x hx; omega
    · have := i2 h.2.1
      rw [List.length_cons]
      omega

/-! ### Copy and walls -/
theorem l1copy_l0 : ∀ (m k : Nat) (x : List Int) (i : Nat), i + m = x.length → m < k → x.length ≤ 140737488355328 → spec_l1copy.l0 k x (x.take i) (i : Int) = some x
  | 0, k + 1, x, i, h1, _, _ => by
    unfold spec_l1copy.l0
    rw [if_neg (by omega), List.take_of_length_le (by omega)]
  | m + 1, k + 1, x, i, h1, h2, h3 => by
    have hi : i < x.length := by omega
    unfold spec_l1copy.l0
    rw [if_pos (by omega), if_pos (by omega), if_pos (by rw [List.length_take]; omega), rd_at hi, w1 (by omega), ← List.take_succ_eq_append_getElem hi]
    exact l1copy_l0 m k x (i + 1) (by omega) (by omega) h3
theorem l1copy_f {k : Nat} {x : List Int} (h : x.length < k) (h3 : x.length ≤ 140737488355328) : spec_l1copy.f k x = some x := l1copy_l0 x.length k x 0 (by omega) h h3
theorem bagCopy_l1 : ∀ (m k : Nat) (a : Int) (x : List S73) (b : Int) (z : List S73) (y : List Int) (i : Nat), i + m = y.length → m < k → y.length ≤ 17592186044416 → spec_l3bagCopy.l1 k (i : Int) a x y b z (y.take i) = some (b, z, y)
  | 0, k + 1, a, x, b, z, y, i, h1, _, _ => by
    unfold spec_l3bagCopy.l1
    rw [if_neg (by omega), List.take_of_length_le (by omega)]
  | m + 1, k + 1, a, x, b, z, y, i, h1, h2, h3 => by
    have hi : i < y.length := by omega
    unfold spec_l3bagCopy.l1
    rw [if_pos (by omega), if_pos (by omega), if_pos (by rw [List.length_take]; omega), rd_at hi, w1 (by omega), ← List.take_succ_eq_append_getElem hi]
    exact bagCopy_l1 m k a x b z y (i + 1) (by omega) (by omega) h3
theorem bagCopy_l0 : ∀ (m k : Nat) (a : Int) (x : List S73) (y : List Int) (b : Int) (i n : Nat), i + m = x.length → m + y.length + n + 1 < k → x.length ≤ 2932031007402 → y.length ≤ 17592186044416 → (∀ p ∈ x, p.f3.length < n ∧ p.f3.length ≤ 140737488355328) → spec_l3bagCopy.l0 k (-1) (i : Int) a x y b (x.take i) = some (b, x, y)
  | 0, k + 1, a, x, y, b, i, n, h1, h2, _, h4, _ => by
    unfold spec_l3bagCopy.l0
    rw [if_neg (by omega), List.take_of_length_le (by omega)]
    exact bagCopy_l1 y.length k a x b x y 0 (by omega) (by omega) h4
  | m + 1, k + 1, a, x, y, b, i, n, h1, h2, h3, h4, h5 => by
    have hi : i < x.length := by omega
    have hb := h5 _ (List.getElem_mem hi)
    unfold spec_l3bagCopy.l0 spec_l3packetCopy.f
    rw [if_pos (by omega), if_neg (by omega), if_pos (by omega), rd73_at hi, l1copy_f (by omega) hb.2, Option.bind_some, Option.bind_some, if_pos (by rw [List.length_take]; omega), w1 (by omega), ← List.take_succ_eq_append_getElem hi]
    exact bagCopy_l0 m k a x y b (i + 1) n (by omega) (by omega) h3 h4 h5
theorem walled_l0 : ∀ (m k : Nat) (q a : Int) (x : List S73) (y : List Int) (i : Nat), i + m = y.length → m < k → y.length < 4611686018427387904 → spec_l3walled.l0 k q (i : Int) a x y = some (decide (q ∈ y.drop i))
  | 0, k + 1, q, a, x, y, i, h1, _, _ => by
    unfold spec_l3walled.l0
    rw [if_neg (by omega), List.drop_eq_nil_of_le (by omega)]
    simp
  | m + 1, k + 1, q, a, x, y, i, h1, h2, h3 => by
    have hi : i < y.length := by omega
    unfold spec_l3walled.l0
    rw [if_pos (by omega), if_pos (by omega), rd_at hi, w1 (by omega), List.drop_eq_getElem_cons hi]
    by_cases h : y[i] = q
    · rw [if_pos h]
      simp [h]
    · rw [if_neg h, walled_l0 m k q a x y (i + 1) (by omega) (by omega) h3]
      refine congrArg some (decide_eq_decide.2 ?_)
      rw [List.mem_cons]
      exact ⟨Or.inr, fun h' => h'.resolve_left (fun e => h e.symm)⟩
theorem walled_f {k : Nat} {q a : Int} {x : List S73} {y : List Int} (hk : y.length < k) (h : y.length < 4611686018427387904) : spec_l3walled.f k a x y q = some (decide (q ∈ y)) := walled_l0 y.length k q a x y 0 (by omega) hk h

theorem spec_step {k : Nat} {id up a b : Int} {acc : List Int} {i : Int} {x z : List S73} {y : List Int} (h1 : i ≤ 7) (h0 : 1 ≤ i) (hk : y.length < k) (hy : y.length < 4611686018427387904) (ha : acc.length < 100) :
    spec_BagWall.l0 (k + 1) id up acc i a x y b z y = spec_BagWall.l0 k id up (if (if i = id then decide (up ≠ 0) else decide (i ∈ y)) = true then acc ++ [i] else acc) (i + 1) a x y b z y := by
  rw [spec_BagWall.l0]
  rw [if_pos h1, wrap64_in (i + 1) (by omega), walled_f hk hy, Option.bind_some]
  by_cases hi : i = id
  · rw [if_pos hi, if_pos hi]
    by_cases hu : up = 0
    · rw [if_pos hu, if_neg (by simp [hu])]
    · rw [if_neg hu, if_pos (by omega), if_pos (by simp [hu])]
  · rw [if_neg hi, if_neg hi]
    by_cases hm : decide (i ∈ y) = true
    · rw [if_pos hm, if_pos (by omega), if_pos hm]
    · rw [if_neg hm, if_neg hm]
theorem ite_len (c : Prop) [Decidable c] (acc : List Int) (i : Int) : (if c then acc ++ [i] else acc).length ≤ acc.length + 1 := by
  by_cases h : c <;> simp [h]
theorem spec_walls (m : Nat) : ∀ (k : Nat) (id up a b : Int) (acc : List Int) (i : Int) (x z : List S73) (y : List Int), i + m = 8 → 1 ≤ i → m + y.length + 1 < k → y.length < 4611686018427387904 → acc.length + m < 100 →
    spec_BagWall.l0 k id up acc i a x y b z y = some (b, z, acc ++ ((List.range m).map (fun (j : Nat) => i + (j : Int))).filter (fun q => if q = id then decide (up ≠ 0) else decide (q ∈ y))) := by
  induction m with
  | zero =>
    intro k id up a b acc i x z y h1 h2 h3 h4 h5
    obtain ⟨k, rfl⟩ : ∃ q, k = q + 1 := ⟨k - 1, by omega⟩
    rw [spec_BagWall.l0, if_neg (by omega)]
    simp
  | succ m ih =>
    intro k id up a b acc i x z y h1 h2 h3 h4 h5
    obtain ⟨k, rfl⟩ : ∃ q, k = q + 1 := ⟨k - 1, by omega⟩
    rw [spec_step (by omega) h2 (by omega) h4 (by omega), ih k id up a b _ (i + 1) x z y (by omega) (by omega) (by omega) h4 (Nat.lt_of_le_of_lt (Nat.add_le_add_right (ite_len _ acc i) m) (by omega))]
    congr 3
    rw [List.range_succ_eq_map, List.map_cons, List.filter_cons]
    have hf : List.map (fun (j : Nat) => i + (j : Int)) (List.map Nat.succ (List.range m)) = List.map (fun (j : Nat) => i + 1 + (j : Int)) (List.range m) := by
      rw [List.map_map]
      apply List.map_congr_left
      intro j _
      show i + ((j + 1 : Nat) : Int) = i + 1 + (j : Int)
      omega
    rw [hf]
    simp only [Int.cast_ofNat_Int, Int.add_zero]
    by_cases hc : (if i = id then decide (up ≠ 0) else decide (i ∈ y)) = true
    · rw [if_pos hc, if_pos hc]
      simp
    · rw [if_neg hc, if_neg hc]

theorem spec_BagWall_f {k : Nat} {a0 id up : Int} {l1 : List S73} {l2 : List Int} (hk : 2 * l1.length + l2.length + 16400 < k) (hk2 : k < 4611686018427387904) :
    spec_BagWall.f k a0 l1 l2 id up = some (if bagOkB a0 l1 l2 = true then (a0, l1, if 1 ≤ id ∧ id ≤ 7 then wallsOf l2 id up else l2) else (0, [], [])) := by
  unfold spec_BagWall.f
  rw [bagOk_f (by omega) hk2, Option.bind_some]
  by_cases h : bagOkB a0 l1 l2 = true
  · rw [if_pos h, if_pos h]
    unfold bagOkB at h
    simp only [Bool.and_eq_true, decide_eq_true_eq] at h
    obtain ⟨_, h1, h2, h3⟩ := h
    have hb := pksOk_bytes _ _ _ h2
    have hw := (wlsOk_small 0 l2 (by omega) h3).2 (by omega)
    unfold spec_l3bagCopy.f
    have hc := bagCopy_l0 l1.length k a0 l1 l2 a0 0 16385 (by omega) (by omega) (by omega) (by omega) (fun p hp => by have := hb p hp; omega)
    simp only [Int.cast_ofNat_Int, List.take_zero] at hc
    rw [hc, Option.bind_some, l1in_f, Option.bind_some]
    by_cases hi : 1 ≤ id ∧ id ≤ 7
    · rw [decide_eq_true hi, if_pos rfl, if_pos hi, spec_walls 7 k id up a0 a0 [] 1 l1 l1 l2 (by decide) (by decide) (by omega) (by omega) (by simp)]
      rfl
    · rw [decide_eq_false hi, if_neg (by decide), if_neg hi]
  · rw [if_neg h, if_neg h]
end Go.Proofs.Ytppegigcclflbaa.PFnExactBagWall
