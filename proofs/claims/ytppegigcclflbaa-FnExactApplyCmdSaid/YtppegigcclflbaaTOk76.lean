/- What the reference's l5tableOk answers. -/
import Derived.Test.YtppegigcclflbaaTForm
import Derived.Test.YtppegigcclflbaaTHeld
import Derived.Test.YtppegigcclflbaaRG
set_option linter.unusedSimpArgs false
namespace Go.Proofs.Ytppegigcclflbaa.PFnExactApplyCmd
open Go.RowKit Go.Proofs.YtppegigcclflbaaW.PrintWords Go.Proofs.YtppegigcclflbaaW.PrintLast Go.Proofs.YtppegigcclflbaaW.PrintMore
open Go.Proofs.Ytppegigcclflbaa.PStr
attribute [local go_sem] Go.Proofs.Ytppegigcclflbaa.PStr.string_gtr Go.Proofs.Ytppegigcclflbaa.PStr.string_leq

theorem ret_bool {a b : Bool} (h : a = b) : Ending.returned (.bool a) = .returned (.bool b) := by rw [h]
theorem l1in_f (a b c : Int) : spec_l1in.f a b c = some (decide (b ≤ a ∧ a ≤ c)) := by
  unfold spec_l1in.f
  by_cases h : b ≤ a
  · rw [if_pos h]; simp [h]
  · rw [if_neg h]; simp [h]
theorem first_only {n : Nat} {f : (i : Nat) → i < n → Bool} {h0 : 0 < n} (h : f 0 h0 = true) : ∀ (i : Nat) (h : i < n), i < 1 → f i h = true := by
  intro i hi h1
  obtain rfl : i = 0 := by omega
  exact h
theorem notokP {P : List S157} {S : List S146} {i : Nat} (h : i < P.length) (hs : stepP P i h = false) : tabOk P S = false := by
  cases ht : tabOk P S with
  | false => rfl
  | true =>
    unfold tabOk at ht
    simp only [Bool.and_eq_true, decide_eq_true_eq] at ht
    rw [(pairsOk_iff P).1 ht.2.1 i h] at hs
    cases hs
theorem notokS {P : List S157} {S : List S146} {i : Nat} (h : i < S.length) (hs : stepS S i h = false) : tabOk P S = false := by
  cases ht : tabOk P S with
  | false => rfl
  | true =>
    unfold tabOk at ht
    simp only [Bool.and_eq_true, decide_eq_true_eq] at ht
    rw [(sessOk_iff S).1 ht.2.2 i h] at hs
    cases hs

set_option maxHeartbeats 12800000 in
set_option maxRecDepth 100000 in
theorem l5tableOk.calls (A1 : Option Addr) (d1 : Nat) (P : List S157) (A2 : Option Addr) (d2 : Nat) (S : List S146) (w : World) (hr1 : Kd.C k157 w A1 P.length P) (hr2 : Kd.C k146 w A2 S.length S) :
    Calls Try.prog 76 #[.agg #[.slice A1 P.length d1, .slice A2 S.length d2]] w fun e w' => e = .returned (.bool (tabOk P S)) ∧ Below w.heap.size w w' := by
  obtain ⟨b, hb⟩ : ∃ b, b = tabOk P S := ⟨_, rfl⟩
  rw [← hb]
  have HB0 := Aside0.mk hb
  have H1 := Aside0.mk hr1
  have H2 := Aside0.mk hr2
  have HM2 := Aside0.mk (Kd.C_max hr2)
  clear hb hr1 hr2
  by_cases h256 : 256 < P.length
  · have hbf : b = false := by
      rw [HB0.out]
      unfold tabOk
      rw [decide_eq_false (show ¬ P.length ≤ 256 by omega)]
      rfl
    have h256' : (256 : Int) < (P.length : Int) := by omega
    have HBF := Aside0.mk hbf
    clear hbf h256
    go_enter Try.func76, Try.ntmps76
    go_wp2_with fail
    go_ret
    exact ⟨ret_bool HBF.out.symm, below_alloc (Below.refl _ _) _⟩
  · have h256' : ¬ (256 : Int) < (P.length : Int) := by omega
    have H256 := Aside0.mk h256
    clear h256
    go_enter Try.func76, Try.ntmps76
    go_wp2_with fail
    obtain ⟨wz, hwz⟩ : ∃ wz, wz = w.alloc (.cells #[.slice A1 P.length d1, .slice A2 S.length d2] 40) := ⟨_, rfl⟩
    have HQ0 : Aside0 (wz.heap[w.heap.size]? = some (.cells #[.slice A1 P.length d1, .slice A2 S.length d2] 40 (0, 0))) := ⟨by rw [hwz]; exact blk_new _ _⟩
    have HBz : Aside0 (Below w.heap.size w wz) := ⟨by rw [hwz]; exact below_alloc (Below.refl _ _) _⟩
    rw [← hwz]
    clear hwz
    go_loopg [3] P.length (fun k i wr => ∃ j : Nat, j + k = P.length ∧ i = .int .i64 j ∧ (∀ (i : Nat) (h : i < P.length), i < j → stepP P i h = true) ∧ wr.heap[w.heap.size]? = some (.cells #[.slice A1 P.length d1, .slice A2 S.length d2] 40 (0, 0)) ∧ Below w.heap.size w wr)
    case atStart => exact ⟨0, by omega, rfl, fun i _ h => by omega, HQ0.out, HBz.out⟩
    case round =>
      clear HQ0 HBz
      obtain ⟨j, hjk, rfl, hall, hq, hB⟩ := hrel
      by_cases hlt : j < P.length
      · obtain ⟨ad, rfl, h0, h1⟩ := at_T157 H1.out (j : Int) (by omega) (by omega)
        obtain ⟨p, hpe⟩ : ∃ p, p = P[j] := ⟨_, rfl⟩
        rw [rd157_at hlt, ← hpe] at h0 h1
        simp only [Int.toNat_natCast] at h0 h1
        have K0 := Aside0.mk h0
        replace h0 := pw_cell_below hB h0
        have K1 := Aside0.mk h1
        clear h1
        obtain ⟨q0, q1⟩ := cells2 hq
        have hj0 : (0 : Int) ≤ (j : Int) := by omega
        have hj1 : (j : Int) < (P.length : Int) := by omega
        have HPE := Aside0.mk hpe
        have HJK := Aside0.mk hjk
        have HALL := Aside0.mk hall
        have HQ := Aside0.mk hq
        have HB := Aside0.mk hB
        clear hpe hjk hall hq hB
        go_wp2_with fail
        refine (spec_l1in.calls _ _ _ _ _ (l1in_f _ _ _)).mono ?_
        rintro e wr5 ⟨rfl, hd5⟩
        have hB5 := hd5.below
        have HB5 := Aside0.mk (below_then HB.out HB.out.size hB5)
        have hq5 := blk_below HQ.out hB5
        have HQ5 := Aside0.mk hq5
        clear hd5 hB5 q0 q1 h0
        obtain ⟨q0, q1⟩ := cells2 hq5
        have h1 := pw_cell_below HB5.out K1.out
        clear hq5
        by_cases hk : 1 ≤ (p.f0.size : Int) ∧ (p.f0.size : Int) ≤ 64
        · rw [decide_eq_true hk]
          by_cases hv : (64 : Int) < (p.f1.size : Int)
          · have hs : stepP P j hlt = false := by
              unfold stepP sizesP
              rw [← HPE.out, decide_eq_false (show ¬ p.f1.size ≤ 64 by omega)]
              simp
            have hbf : b = false := by rw [HB0.out]; exact notokP hlt hs
            have HBF := Aside0.mk hbf
            clear hs hbf
            go_wp2_with fail
            go_ret
            exact ⟨ret_bool HBF.out.symm, HB5.out⟩
          · have HK := Aside0.mk hk
            have HV := Aside0.mk hv
            have hv' : ¬ (64 : Int) < (p.f1.size : Int) := hv
            clear hk hv
            go_wp2_with fail
            clear h1 q0 q1 hv'
            have HBd := Aside0.mk (below_drew1 HB5.out)
            have HQd := Aside0.mk (blk_drew HQ5.out)
            by_cases hz : j = 0
            · subst hz
              have hs : stepP P 0 hlt = true := by
                unfold stepP sizesP
                have := HK.out
                have := HV.out
                rw [← HPE.out, decide_eq_true (show 1 ≤ p.f0.size by omega), decide_eq_true (show p.f0.size ≤ 64 by omega), decide_eq_true (show p.f1.size ≤ 64 by omega)]
                rfl
              have HS := Aside0.mk hs
              clear hs
              refine RG.rs 18 (fun _ => True) [] (by kernel_rfl) rfl trivial (fun hHeld => ?_)
              generalize wr5.drew = wd at HBd HQd ⊢
              refine RG.rp (v := ?_) (a' := ?_) 0 35 rfl rfl (by kernel_rfl) (fun _ _ _ h => h) (by rfl) ?_ ?_ ?_; rotate_left 2; (intro w'; go_simp; with_reducible rfl); (go_simp; rfl)
              refine RG.rp (v := ?_) (a' := ?_) 1 36 rfl rfl (by kernel_rfl) (fun _ _ _ h => h) (by rfl) ?_ ?_ ?_; rotate_left 2; (intro w'; go_simp; with_reducible rfl); (go_simp; rfl)
              refine RG.rp (v := ?_) (a' := ?_) 2 37 rfl rfl (by kernel_rfl) (fun _ _ _ h => h) (by rfl) ?_ ?_ ?_; rotate_left 2; (intro w'; go_simp; with_reducible rfl); (go_simp; rfl)
              refine RG.ro (a' := ?_) 3 38 rfl rfl (by kernel_rfl) (fun _ _ _ h => h) (by rfl) ?_ ?_; rotate_left; (go_simp; rfl)
              refine RG.ro (a' := ?_) 4 39 rfl rfl (by kernel_rfl) (fun _ _ _ h => h) (by rfl) ?_ ?_; rotate_left; (go_simp; rfl)
              refine RG.ro (a' := ?_) 5 40 rfl rfl (by kernel_rfl) (fun _ _ _ h => h) (by rfl) ?_ ?_; rotate_left; (go_simp; rfl)
              refine RG.ro (a' := ?_) 6 41 rfl rfl (by kernel_rfl) (fun _ _ _ h => h) (by rfl) ?_ ?_; rotate_left; (go_simp; rfl)
              refine RG.ro (a' := ?_) 7 42 rfl rfl (by kernel_rfl) (fun _ _ _ h => h) (by rfl) ?_ ?_; rotate_left; (go_simp; rfl)
              refine RG.ro (a' := ?_) 8 43 rfl rfl (by kernel_rfl) (fun _ _ _ h => h) (by rfl) ?_ ?_; rotate_left; (go_simp; rfl)
              refine RG.ro (a' := ?_) 9 44 rfl rfl (by kernel_rfl) (fun _ _ _ h => h) (by rfl) ?_ ?_; rotate_left; (go_simp; rfl)
              refine RG.ro (a' := ?_) 10 45 rfl rfl (by kernel_rfl) (fun _ _ _ h => h) (by rfl) ?_ ?_; rotate_left; (go_simp; rfl)
              refine RG.ro (a' := ?_) 11 46 rfl rfl (by kernel_rfl) (fun _ _ _ h => h) (by rfl) ?_ ?_; rotate_left; (go_simp; rfl)
              refine RG.ro (a' := ?_) 12 47 rfl rfl (by kernel_rfl) (fun _ _ _ h => h) (by rfl) ?_ ?_; rotate_left; (go_simp; rfl)
              refine RG.ro (a' := ?_) 13 48 rfl rfl (by kernel_rfl) (fun _ _ _ h => h) (by rfl) ?_ ?_; rotate_left; (go_simp; rfl)
              refine RG.ro (a' := ?_) 14 49 rfl rfl (by kernel_rfl) (fun _ _ _ h => h) (by rfl) ?_ ?_; rotate_left; (go_simp; rfl)
              refine RG.ro (a' := ?_) 15 50 rfl rfl (by kernel_rfl) (fun _ _ _ h => h) (by rfl) ?_ ?_; rotate_left; (go_simp; rfl)
              refine RG.ro (a' := ?_) 16 51 rfl rfl (by kernel_rfl) (fun _ _ _ h => h) (by rfl) ?_ ?_; rotate_left; (go_simp; rfl)
              refine RG.rp (v := ?_) (a' := ?_) 17 52 rfl rfl (by kernel_rfl) (fun _ _ _ h => h) (by rfl) ?_ ?_ ?_; rotate_left 2; (intro w'; go_simp; with_reducible rfl); (go_simp; rfl)
              refine done_ (by kernel_rfl) ?_
              go_wp2_with fail
              go_roundg (gk - 1)
              case measure => have := HJK.out; omega
              case rel => exact ⟨1, by have := HJK.out; omega, by first | rfl | go_num, first_only HS.out, HQd.out, HBd.out⟩
            · obtain ⟨i, hi⟩ : ∃ i, j = i + 1 := ⟨j - 1, by omega⟩
              have hil : i < P.length := by omega
              obtain ⟨ad2, had, g0, _⟩ := at_T157 H1.out (i : Int) (by omega) (by omega)
              injection had with had
              subst had
              obtain ⟨q, hqe⟩ : ∃ q, q = P[i] := ⟨_, rfl⟩
              rw [rd157_at hil, ← hqe] at g0
              simp only [Int.toNat_natCast] at g0
              replace g0 := pw_cell_below HBd.out g0
              have h0 := pw_cell_below HBd.out K0.out
              obtain ⟨q0, q1⟩ := cells2 HQd.out
              clear q1
              have hwr : IntKind.i64.wrap ((j : Int) - 1) = (i : Int) := by rw [i64_w, wrap64_in _ (by omega)]; omega
              have hpos : 0 < j := by omega
              have hi0 : (0 : Int) ≤ (i : Int) := by omega
              have hi1 : (i : Int) < (P.length : Int) := by omega
              have HI := Aside0.mk hi
              have HQE := Aside0.mk hqe
              clear hi hqe hz
              cases hc : Op.bytesLess q.f0.toList p.f0.toList with
              | true =>
                have hs : stepP P j hlt = true := by
                  have hi := HI.out
                  have h3 : (P[j - 1]'(by omega)).f0.toList < P[j].f0.toList := by
                    have : P[j - 1]'(by omega) = q := by rw [HQE.out]; congr 1; omega
                    rw [this, ← HPE.out]
                    rw [bl] at hc
                    exact of_decide_eq_true hc
                  unfold stepP sizesP
                  have := HK.out
                  have := HV.out
                  rw [decide_eq_true h3, ← HPE.out, decide_eq_true (show 1 ≤ p.f0.size by omega), decide_eq_true (show p.f0.size ≤ 64 by omega), decide_eq_true (show p.f1.size ≤ 64 by omega)]
                  simp
                have HS := Aside0.mk hs
                clear hs
                refine RG.rs 18 (fun w' => w'.cell? ⟨w.heap.size, 0, none⟩ = some (.slice (some ad) P.length d1) ∧ w'.cell? (ad.add (j * 2)) = some (.string p.f0) ∧ w'.cell? (ad.add (i * 2)) = some (.string q.f0)) [] (by kernel_rfl) rfl ⟨q0, h0, g0⟩ (fun hHeld => ?_)
                generalize wr5.drew = wd at HBd HQd hHeld ⊢
                clear q0 h0 g0
                refine RG.rp (v := ?_) (a' := ?_) 0 35 rfl rfl (by kernel_rfl) (fun _ _ _ h => h) (by rfl) ?_ ?_ ?_; rotate_left 2; (intro w'; go_simp; with_reducible rfl); (go_simp; rfl)
                refine RG.rp (v := ?_) (a' := ?_) 1 36 rfl rfl (by kernel_rfl) (fun _ _ _ h => h) (by rfl) ?_ ?_ ?_; rotate_left 2; (intro w'; go_simp; with_reducible rfl); (go_simp; rfl)
                refine RG.rp (v := ?_) (a' := ?_) 2 37 rfl rfl (by kernel_rfl) (fun _ _ _ h => h) (by rfl) ?_ ?_ ?_; rotate_left 2; (intro w'; go_simp; with_reducible rfl); (go_simp; rfl)
                refine RG.rp (v := ?_) (a' := ?_) 3 38 rfl rfl (by kernel_rfl) (fun _ _ _ h => h) (by rfl) ?_ ?_ ?_; rotate_left 2; (intro w'; go_simp; with_reducible rfl); (go_simp; rfl)
                refine RG.rt (v := ?_) (a' := ?_) 4 39 rfl rfl (by kernel_rfl) (fun _ _ _ h => h) (by rfl) ?_ hHeld ?_ ?_; rotate_left 2; (rintro w' ⟨s0, s1, s2⟩; go_simp; with_reducible rfl); (go_simp; rfl)
                refine RG.rp (v := ?_) (a' := ?_) 5 40 rfl rfl (by kernel_rfl) (fun _ _ _ h => h) (by rfl) ?_ ?_ ?_; rotate_left 2; (intro w'; go_simp; with_reducible rfl); (go_simp; rfl)
                refine RG.rp (v := ?_) (a' := ?_) 6 41 rfl rfl (by kernel_rfl) (fun _ _ _ h => h) (by rfl) ?_ ?_ ?_; rotate_left 2; (intro w'; go_simp; with_reducible rfl); (go_simp; rfl)
                refine RG.rp (v := ?_) (a' := ?_) 7 42 rfl rfl (by kernel_rfl) (fun _ _ _ h => h) (by rfl) ?_ ?_ ?_; rotate_left 2; (intro w'; go_simp; with_reducible rfl); (go_simp; rfl)
                refine RG.rt (v := ?_) (a' := ?_) 8 43 rfl rfl (by kernel_rfl) (fun _ _ _ h => h) (by rfl) ?_ hHeld ?_ ?_; rotate_left 2; (rintro w' ⟨s0, s1, s2⟩; go_simp; with_reducible rfl); (go_simp; rfl)
                refine RG.rp (v := ?_) (a' := ?_) 9 44 rfl rfl (by kernel_rfl) (fun _ _ _ h => h) (by rfl) ?_ ?_ ?_; rotate_left 2; (intro w'; go_simp; with_reducible rfl); (go_simp; rfl)
                refine RG.rt (v := ?_) (a' := ?_) 10 45 rfl rfl (by kernel_rfl) (fun _ _ _ h => h) (by rfl) ?_ hHeld ?_ ?_; rotate_left 2; (rintro w' ⟨s0, s1, s2⟩; go_simp; with_reducible rfl); (go_simp; rfl)
                refine RG.rp (v := ?_) (a' := ?_) 11 46 rfl rfl (by kernel_rfl) (fun _ _ _ h => h) (by rfl) ?_ ?_ ?_; rotate_left 2; (intro w'; go_simp; with_reducible rfl); (go_simp; rfl)
                refine RG.rp (v := ?_) (a' := ?_) 12 47 rfl rfl (by kernel_rfl) (fun _ _ _ h => h) (by rfl) ?_ ?_ ?_; rotate_left 2; (intro w'; go_simp; with_reducible rfl); (go_simp; rfl)
                refine RG.rp (v := ?_) (a' := ?_) 13 48 rfl rfl (by kernel_rfl) (fun _ _ _ h => h) (by rfl) ?_ ?_ ?_; rotate_left 2; (intro w'; go_simp; with_reducible rfl); (go_simp; rfl)
                refine RG.rp (v := ?_) (a' := ?_) 14 49 rfl rfl (by kernel_rfl) (fun _ _ _ h => h) (by rfl) ?_ ?_ ?_; rotate_left 2; (intro w'; go_simp; with_reducible rfl); (go_simp; rfl)
                refine RG.rt (v := ?_) (a' := ?_) 15 50 rfl rfl (by kernel_rfl) (fun _ _ _ h => h) (by rfl) ?_ hHeld ?_ ?_; rotate_left 2; (rintro w' ⟨s0, s1, s2⟩; go_simp; with_reducible rfl); (go_simp; rfl)
                refine RG.rp (v := ?_) (a' := ?_) 16 51 rfl rfl (by kernel_rfl) (fun _ _ _ h => h) (by rfl) ?_ ?_ ?_; rotate_left 2; (intro w'; go_simp; with_reducible rfl); (go_simp; rfl)
                refine RG.rp (v := ?_) (a' := ?_) 17 52 rfl rfl (by kernel_rfl) (fun _ _ _ h => h) (by rfl) ?_ ?_ ?_; rotate_left 2; (intro w'; go_simp; with_reducible rfl); (go_simp; rfl)
                refine done_ (by kernel_rfl) ?_
                clear hwr hc
                go_wp2_with fail
                go_roundg (gk - 1)
                case measure => have := HJK.out; omega
                case rel =>
                  refine ⟨j + 1, by have := HJK.out; omega, by go_num, fun i2 h hi2 => ?_, HQd.out, HBd.out⟩
                  by_cases h4 : i2 = j
                  · subst h4; exact HS.out
                  · exact HALL.out i2 h (by omega)
              | false =>
                have hs : stepP P j hlt = false := by
                  have hi := HI.out
                  have h3 : ¬ (P[j - 1]'(by omega)).f0.toList < P[j].f0.toList := by
                    have : P[j - 1]'(by omega) = q := by rw [HQE.out]; congr 1; omega
                    rw [this, ← HPE.out]
                    rw [bl] at hc
                    exact of_decide_eq_false hc
                  unfold stepP
                  rw [decide_eq_false h3, decide_eq_false (show ¬ j = 0 by omega)]
                  simp
                have hbf : b = false := by rw [HB0.out]; exact notokP hlt hs
                have HBF := Aside0.mk hbf
                clear hs hbf
                refine RG.rs 18 (fun w' => w'.cell? ⟨w.heap.size, 0, none⟩ = some (.slice (some ad) P.length d1) ∧ w'.cell? (ad.add (j * 2)) = some (.string p.f0) ∧ w'.cell? (ad.add (i * 2)) = some (.string q.f0)) [] (by kernel_rfl) rfl ⟨q0, h0, g0⟩ (fun hHeld => ?_)
                generalize wr5.drew = wd at HBd HQd hHeld ⊢
                clear q0 h0 g0
                refine RG.rp (v := ?_) (a' := ?_) 0 35 rfl rfl (by kernel_rfl) (fun _ _ _ h => h) (by rfl) ?_ ?_ ?_; rotate_left 2; (intro w'; go_simp; with_reducible rfl); (go_simp; rfl)
                refine RG.rp (v := ?_) (a' := ?_) 1 36 rfl rfl (by kernel_rfl) (fun _ _ _ h => h) (by rfl) ?_ ?_ ?_; rotate_left 2; (intro w'; go_simp; with_reducible rfl); (go_simp; rfl)
                refine RG.rp (v := ?_) (a' := ?_) 2 37 rfl rfl (by kernel_rfl) (fun _ _ _ h => h) (by rfl) ?_ ?_ ?_; rotate_left 2; (intro w'; go_simp; with_reducible rfl); (go_simp; rfl)
                refine RG.rp (v := ?_) (a' := ?_) 3 38 rfl rfl (by kernel_rfl) (fun _ _ _ h => h) (by rfl) ?_ ?_ ?_; rotate_left 2; (intro w'; go_simp; with_reducible rfl); (go_simp; rfl)
                refine RG.rt (v := ?_) (a' := ?_) 4 39 rfl rfl (by kernel_rfl) (fun _ _ _ h => h) (by rfl) ?_ hHeld ?_ ?_; rotate_left 2; (rintro w' ⟨s0, s1, s2⟩; go_simp; with_reducible rfl); (go_simp; rfl)
                refine RG.rp (v := ?_) (a' := ?_) 5 40 rfl rfl (by kernel_rfl) (fun _ _ _ h => h) (by rfl) ?_ ?_ ?_; rotate_left 2; (intro w'; go_simp; with_reducible rfl); (go_simp; rfl)
                refine RG.rp (v := ?_) (a' := ?_) 6 41 rfl rfl (by kernel_rfl) (fun _ _ _ h => h) (by rfl) ?_ ?_ ?_; rotate_left 2; (intro w'; go_simp; with_reducible rfl); (go_simp; rfl)
                refine RG.rp (v := ?_) (a' := ?_) 7 42 rfl rfl (by kernel_rfl) (fun _ _ _ h => h) (by rfl) ?_ ?_ ?_; rotate_left 2; (intro w'; go_simp; with_reducible rfl); (go_simp; rfl)
                refine RG.rt (v := ?_) (a' := ?_) 8 43 rfl rfl (by kernel_rfl) (fun _ _ _ h => h) (by rfl) ?_ hHeld ?_ ?_; rotate_left 2; (rintro w' ⟨s0, s1, s2⟩; go_simp; with_reducible rfl); (go_simp; rfl)
                refine RG.rp (v := ?_) (a' := ?_) 9 44 rfl rfl (by kernel_rfl) (fun _ _ _ h => h) (by rfl) ?_ ?_ ?_; rotate_left 2; (intro w'; go_simp; with_reducible rfl); (go_simp; rfl)
                refine RG.rt (v := ?_) (a' := ?_) 10 45 rfl rfl (by kernel_rfl) (fun _ _ _ h => h) (by rfl) ?_ hHeld ?_ ?_; rotate_left 2; (rintro w' ⟨s0, s1, s2⟩; go_simp; with_reducible rfl); (go_simp; rfl)
                refine RG.rp (v := ?_) (a' := ?_) 11 46 rfl rfl (by kernel_rfl) (fun _ _ _ h => h) (by rfl) ?_ ?_ ?_; rotate_left 2; (intro w'; go_simp; with_reducible rfl); (go_simp; rfl)
                refine RG.rp (v := ?_) (a' := ?_) 12 47 rfl rfl (by kernel_rfl) (fun _ _ _ h => h) (by rfl) ?_ ?_ ?_; rotate_left 2; (intro w'; go_simp; with_reducible rfl); (go_simp; rfl)
                refine RG.rp (v := ?_) (a' := ?_) 13 48 rfl rfl (by kernel_rfl) (fun _ _ _ h => h) (by rfl) ?_ ?_ ?_; rotate_left 2; (intro w'; go_simp; with_reducible rfl); (go_simp; rfl)
                refine RG.rp (v := ?_) (a' := ?_) 14 49 rfl rfl (by kernel_rfl) (fun _ _ _ h => h) (by rfl) ?_ ?_ ?_; rotate_left 2; (intro w'; go_simp; with_reducible rfl); (go_simp; rfl)
                refine RG.rt (v := ?_) (a' := ?_) 15 50 rfl rfl (by kernel_rfl) (fun _ _ _ h => h) (by rfl) ?_ hHeld ?_ ?_; rotate_left 2; (rintro w' ⟨s0, s1, s2⟩; go_simp; with_reducible rfl); (go_simp; rfl)
                refine RG.rp (v := ?_) (a' := ?_) 16 51 rfl rfl (by kernel_rfl) (fun _ _ _ h => h) (by rfl) ?_ ?_ ?_; rotate_left 2; (intro w'; go_simp; with_reducible rfl); (go_simp; rfl)
                refine RG.rp (v := ?_) (a' := ?_) 17 52 rfl rfl (by kernel_rfl) (fun _ _ _ h => h) (by rfl) ?_ ?_ ?_; rotate_left 2; (intro w'; go_simp; with_reducible rfl); (go_simp; rfl)
                refine done_ (by kernel_rfl) ?_
                clear hwr hc
                go_wp2_with fail
                go_ret
                exact ⟨ret_bool HBF.out.symm, HBd.out⟩
        · rw [decide_eq_false hk]
          have hs : stepP P j hlt = false := by
            unfold stepP sizesP
            rw [← HPE.out]
            by_cases h : 1 ≤ p.f0.size
            · rw [decide_eq_false (show ¬ p.f0.size ≤ 64 by omega)]; simp
            · rw [decide_eq_false h]; rfl
          have hbf : b = false := by rw [HB0.out]; exact notokP hlt hs
          have HBF := Aside0.mk hbf
          clear hs hbf hk
          go_wp2_with fail
          go_ret
          exact ⟨ret_bool HBF.out.symm, HB5.out⟩
      · have hj : j = P.length := by omega
        subst hj
        have hj1 : ¬ (P.length : Int) < (P.length : Int) := by omega
        obtain ⟨q0, q1⟩ := cells2 hq
        have HP : Aside0 (pairsOk [] P = true) := ⟨(pairsOk_iff P).2 (fun i h => hall i h h)⟩
        have HQ := Aside0.mk hq
        have HB := Aside0.mk hB
        clear hall hq hB hjk hlt
        go_wp2_with fail
        clear q0 q1
        go_loopg [4] S.length (fun k i wr => ∃ j : Nat, j + k = S.length ∧ i = .int .i64 j ∧ (∀ (i : Nat) (h : i < S.length), i < j → stepS S i h = true) ∧ wr.heap[w.heap.size]? = some (.cells #[.slice A1 P.length d1, .slice A2 S.length d2] 40 (0, 0)) ∧ Below w.heap.size w wr)
        case atStart => exact ⟨0, by omega, rfl, fun i _ h => by omega, HQ.out, HB.out⟩
        case round =>
          clear HQ HB
          obtain ⟨j, hjk, rfl, hall, hq, hB⟩ := hrel
          by_cases hlt : j < S.length
          · obtain ⟨ad, rfl, h0, h1, h2, h3⟩ := at_T146 H2.out (j : Int) (by omega) (by omega)
            obtain ⟨x, hxe⟩ : ∃ p, p = S[j] := ⟨_, rfl⟩
            rw [rd146_at hlt, ← hxe] at h0 h1 h2 h3
            simp only [Int.toNat_natCast] at h0 h1 h2 h3
            have hBd := below_drew1 hB
            replace h0 := pw_cell_below hBd h0
            replace h1 := pw_cell_below hBd h1
            replace h2 := pw_cell_below hBd h2
            replace h3 := pw_cell_below hBd h3
            obtain ⟨q0, q1⟩ := cells2 hq
            have hj0 : (0 : Int) ≤ (j : Int) := by omega
            have hj1 : (j : Int) < (S.length : Int) := by omega
            have hjb : (j : Int) ≤ 9223372036854775806 := by have := HM2.out; omega
            have HXE := Aside0.mk hxe
            have HJK := Aside0.mk hjk
            have HALL := Aside0.mk hall
            have HBd := Aside0.mk hBd
            have HQd := Aside0.mk (blk_drew hq)
            clear hxe hjk hall hq hB hBd
            go_wp2_with fail
            clear q0 q1
            obtain ⟨q0, q1⟩ := cells2 HQd.out
            clear q0
            cases hsb : sessB x with
            | false =>
              have hs : stepS S j hlt = false := by
                unfold stepS
                rw [← HXE.out, hsb]
                rfl
              have hbf : b = false := by rw [HB0.out]; exact notokS hlt hs
              have HBF := Aside0.mk hbf
              have HSB := Aside0.mk hsb
              clear hs hbf hsb
              refine RG.rs 27 (fun w' => w'.cell? ⟨w.heap.size, 1, none⟩ = some (.slice (some ad) S.length d2) ∧ w'.cell? (ad.add (j * 4)) = some (.int .i64 x.f0) ∧ w'.cell? ⟨(ad.add (j * 4)).block, (ad.add (j * 4)).off + 1, none⟩ = some (.int .i64 x.f1) ∧ w'.cell? ⟨(ad.add (j * 4)).block, (ad.add (j * 4)).off + 2, none⟩ = some (.int .i64 x.f2) ∧ w'.cell? ⟨(ad.add (j * 4)).block, (ad.add (j * 4)).off + 3, none⟩ = some (.string x.f3)) [] (by kernel_rfl) rfl ⟨q1, h0, h1, h2, h3⟩ (fun hHeld => ?_)
              generalize wr.drew = wd at HBd HQd hHeld ⊢
              refine RG.rp (v := ?_) (a' := ?_) 0 60 rfl rfl (by kernel_rfl) (fun _ _ _ h => h) (by rfl) ?_ ?_ ?_; rotate_left 2; (intro w'; go_simp; with_reducible rfl); (go_simp; rfl)
              refine RG.rt (v := ?_) (a' := ?_) 1 61 rfl rfl (by kernel_rfl) (fun _ _ _ h => h) (by rfl) ?_ hHeld ?_ ?_; rotate_left 2; (rintro w' ⟨s0, s1, s2, s3, s4⟩; go_simp; with_reducible rfl); (go_simp; rfl)
              refine RG.rp (v := ?_) (a' := ?_) 2 62 rfl rfl (by kernel_rfl) (fun _ _ _ h => h) (by rfl) ?_ ?_ ?_; rotate_left 2; (intro w'; go_simp; with_reducible rfl); (go_simp; rfl)
              refine RG.rp (v := ?_) (a' := ?_) 3 63 rfl rfl (by kernel_rfl) (fun _ _ _ h => h) (by rfl) ?_ ?_ ?_; rotate_left 2; (intro w'; go_simp; with_reducible rfl); (go_simp; rfl)
              refine RG.rt (v := ?_) (a' := ?_) 4 64 rfl rfl (by kernel_rfl) (fun _ _ _ h => h) (by rfl) ?_ hHeld ?_ ?_; rotate_left 2; (rintro w' ⟨s0, s1, s2, s3, s4⟩; go_simp; with_reducible rfl); (go_simp; rfl)
              refine RG.r1 5 (some 65) rfl rfl (by kernel_rfl) (by decide) (fun K hK => ?_)
              refine goes_ Try.func119 (by kernel_rfl) rfl #[.agg #[.int .i64 x.f0, .int .i64 x.f1, .int .i64 x.f2, .string x.f3]] (by rfl) rfl rfl (by simp only [List.map_toArray, List.map_cons, List.map_nil]; rfl) ?_
              refine (spec_l5sessionOk.calls x.f0 x.f1 x.f2 x.f3 _ wd (sessB_f x)).mono ?_
              rintro e w5 ⟨rfl, hB5⟩
              rw [HSB.out]
              obtain ⟨s0, s1, s2, s3, s4⟩ := hHeld
              refine ⟨_, rfl, hK.out _ _ ⟨pw_cell_keep hB5 s0, pw_cell_keep hB5 s1, pw_cell_keep hB5 s2, pw_cell_keep hB5 s3, pw_cell_keep hB5 s4⟩ (fun hHeld => ?_)⟩
              have HB5 := Aside0.mk (below_then HBd.out HBd.out.size hB5)
              have HQ5 := Aside0.mk (blk_below HQd.out hB5)
              clear hB5 s0 s1 s2 s3 s4  q1 h0 h1 h2 h3 
              clear hK K
              refine norm_ (a' := ?_) ?_ ?_; rotate_left; (show Act.put _ (some 65) _ = _; go_simp; rfl)
              refine RG.rp (v := ?_) (a' := ?_) 6 66 rfl rfl (by kernel_rfl) (fun _ _ _ h => h) (by rfl) ?_ ?_ ?_; rotate_left 2; (intro w'; go_simp; with_reducible rfl); (go_simp; rfl)
              refine RG.rp (v := ?_) (a' := ?_) 7 67 rfl rfl (by kernel_rfl) (fun _ _ _ h => h) (by rfl) ?_ ?_ ?_; rotate_left 2; (intro w'; go_simp; with_reducible rfl); (go_simp; rfl)
              refine RG.ro (a' := ?_) 8 68 rfl rfl (by kernel_rfl) (fun _ _ _ h => h) (by rfl) ?_ ?_; rotate_left; (go_simp; rfl)
              refine RG.ro (a' := ?_) 9 69 rfl rfl (by kernel_rfl) (fun _ _ _ h => h) (by rfl) ?_ ?_; rotate_left; (go_simp; rfl)
              refine RG.ro (a' := ?_) 10 70 rfl rfl (by kernel_rfl) (fun _ _ _ h => h) (by rfl) ?_ ?_; rotate_left; (go_simp; rfl)
              refine RG.ro (a' := ?_) 11 71 rfl rfl (by kernel_rfl) (fun _ _ _ h => h) (by rfl) ?_ ?_; rotate_left; (go_simp; rfl)
              refine RG.ro (a' := ?_) 12 72 rfl rfl (by kernel_rfl) (fun _ _ _ h => h) (by rfl) ?_ ?_; rotate_left; (go_simp; rfl)
              refine RG.ro (a' := ?_) 13 73 rfl rfl (by kernel_rfl) (fun _ _ _ h => h) (by rfl) ?_ ?_; rotate_left; (go_simp; rfl)
              refine RG.ro (a' := ?_) 14 74 rfl rfl (by kernel_rfl) (fun _ _ _ h => h) (by rfl) ?_ ?_; rotate_left; (go_simp; rfl)
              refine RG.ro (a' := ?_) 15 75 rfl rfl (by kernel_rfl) (fun _ _ _ h => h) (by rfl) ?_ ?_; rotate_left; (go_simp; rfl)
              refine RG.ro (a' := ?_) 16 76 rfl rfl (by kernel_rfl) (fun _ _ _ h => h) (by rfl) ?_ ?_; rotate_left; (go_simp; rfl)
              refine RG.ro (a' := ?_) 17 77 rfl rfl (by kernel_rfl) (fun _ _ _ h => h) (by rfl) ?_ ?_; rotate_left; (go_simp; rfl)
              refine RG.ro (a' := ?_) 18 78 rfl rfl (by kernel_rfl) (fun _ _ _ h => h) (by rfl) ?_ ?_; rotate_left; (go_simp; rfl)
              refine RG.ro (a' := ?_) 19 79 rfl rfl (by kernel_rfl) (fun _ _ _ h => h) (by rfl) ?_ ?_; rotate_left; (go_simp; rfl)
              refine RG.ro (a' := ?_) 20 80 rfl rfl (by kernel_rfl) (fun _ _ _ h => h) (by rfl) ?_ ?_; rotate_left; (go_simp; rfl)
              refine RG.ro (a' := ?_) 21 81 rfl rfl (by kernel_rfl) (fun _ _ _ h => h) (by rfl) ?_ ?_; rotate_left; (go_simp; rfl)
              refine RG.ro (a' := ?_) 22 82 rfl rfl (by kernel_rfl) (fun _ _ _ h => h) (by rfl) ?_ ?_; rotate_left; (go_simp; rfl)
              refine RG.ro (a' := ?_) 23 83 rfl rfl (by kernel_rfl) (fun _ _ _ h => h) (by rfl) ?_ ?_; rotate_left; (go_simp; rfl)
              refine RG.ro (a' := ?_) 24 84 rfl rfl (by kernel_rfl) (fun _ _ _ h => h) (by rfl) ?_ ?_; rotate_left; (go_simp; rfl)
              refine RG.ro (a' := ?_) 25 85 rfl rfl (by kernel_rfl) (fun _ _ _ h => h) (by rfl) ?_ ?_; rotate_left; (go_simp; rfl)
              refine RG.rp (v := ?_) (a' := ?_) 26 86 rfl rfl (by kernel_rfl) (fun _ _ _ h => h) (by rfl) ?_ ?_ ?_; rotate_left 2; (intro w'; go_simp; with_reducible rfl); (go_simp; rfl)
              refine done_ (by kernel_rfl) ?_
              go_wp2_with fail
              go_ret
              exact ⟨ret_bool HBF.out.symm, HB5.out⟩
            | true =>
              have HSB := Aside0.mk hsb
              clear hsb
              by_cases hz : j = 0
              · have hs : stepS S j hlt = true := by
                  unfold stepS
                  rw [← HXE.out, HSB.out, decide_eq_true hz]
                  rfl
                have HS := Aside0.mk hs
                have hnz : ¬ 0 < j := by omega
                clear hs hz
                refine RG.rs 27 (fun w' => w'.cell? ⟨w.heap.size, 1, none⟩ = some (.slice (some ad) S.length d2) ∧ w'.cell? (ad.add (j * 4)) = some (.int .i64 x.f0) ∧ w'.cell? ⟨(ad.add (j * 4)).block, (ad.add (j * 4)).off + 1, none⟩ = some (.int .i64 x.f1) ∧ w'.cell? ⟨(ad.add (j * 4)).block, (ad.add (j * 4)).off + 2, none⟩ = some (.int .i64 x.f2) ∧ w'.cell? ⟨(ad.add (j * 4)).block, (ad.add (j * 4)).off + 3, none⟩ = some (.string x.f3)) [] (by kernel_rfl) rfl ⟨q1, h0, h1, h2, h3⟩ (fun hHeld => ?_)
                generalize wr.drew = wd at HBd HQd hHeld ⊢
                refine RG.rp (v := ?_) (a' := ?_) 0 60 rfl rfl (by kernel_rfl) (fun _ _ _ h => h) (by rfl) ?_ ?_ ?_; rotate_left 2; (intro w'; go_simp; with_reducible rfl); (go_simp; rfl)
                refine RG.rt (v := ?_) (a' := ?_) 1 61 rfl rfl (by kernel_rfl) (fun _ _ _ h => h) (by rfl) ?_ hHeld ?_ ?_; rotate_left 2; (rintro w' ⟨s0, s1, s2, s3, s4⟩; go_simp; with_reducible rfl); (go_simp; rfl)
                refine RG.rp (v := ?_) (a' := ?_) 2 62 rfl rfl (by kernel_rfl) (fun _ _ _ h => h) (by rfl) ?_ ?_ ?_; rotate_left 2; (intro w'; go_simp; with_reducible rfl); (go_simp; rfl)
                refine RG.rp (v := ?_) (a' := ?_) 3 63 rfl rfl (by kernel_rfl) (fun _ _ _ h => h) (by rfl) ?_ ?_ ?_; rotate_left 2; (intro w'; go_simp; with_reducible rfl); (go_simp; rfl)
                refine RG.rt (v := ?_) (a' := ?_) 4 64 rfl rfl (by kernel_rfl) (fun _ _ _ h => h) (by rfl) ?_ hHeld ?_ ?_; rotate_left 2; (rintro w' ⟨s0, s1, s2, s3, s4⟩; go_simp; with_reducible rfl); (go_simp; rfl)
                refine RG.r1 5 (some 65) rfl rfl (by kernel_rfl) (by decide) (fun K hK => ?_)
                refine goes_ Try.func119 (by kernel_rfl) rfl #[.agg #[.int .i64 x.f0, .int .i64 x.f1, .int .i64 x.f2, .string x.f3]] (by rfl) rfl rfl (by simp only [List.map_toArray, List.map_cons, List.map_nil]; rfl) ?_
                refine (spec_l5sessionOk.calls x.f0 x.f1 x.f2 x.f3 _ wd (sessB_f x)).mono ?_
                rintro e w5 ⟨rfl, hB5⟩
                rw [HSB.out]
                obtain ⟨s0, s1, s2, s3, s4⟩ := hHeld
                refine ⟨_, rfl, hK.out _ _ ⟨pw_cell_keep hB5 s0, pw_cell_keep hB5 s1, pw_cell_keep hB5 s2, pw_cell_keep hB5 s3, pw_cell_keep hB5 s4⟩ (fun hHeld => ?_)⟩
                have HB5 := Aside0.mk (below_then HBd.out HBd.out.size hB5)
                have HQ5 := Aside0.mk (blk_below HQd.out hB5)
                clear hB5 s0 s1 s2 s3 s4  q1 h0 h1 h2 h3 
                clear hK K
                refine norm_ (a' := ?_) ?_ ?_; rotate_left; (show Act.put _ (some 65) _ = _; go_simp; rfl)
                refine RG.rp (v := ?_) (a' := ?_) 6 66 rfl rfl (by kernel_rfl) (fun _ _ _ h => h) (by rfl) ?_ ?_ ?_; rotate_left 2; (intro w'; go_simp; with_reducible rfl); (go_simp; rfl)
                refine RG.rp (v := ?_) (a' := ?_) 7 67 rfl rfl (by kernel_rfl) (fun _ _ _ h => h) (by rfl) ?_ ?_ ?_; rotate_left 2; (intro w'; go_simp; with_reducible rfl); (go_simp; rfl)
                refine RG.rp (v := ?_) (a' := ?_) 8 68 rfl rfl (by kernel_rfl) (fun _ _ _ h => h) (by rfl) ?_ ?_ ?_; rotate_left 2; (intro w'; go_simp; with_reducible rfl); (go_simp; rfl)
                refine RG.rp (v := ?_) (a' := ?_) 9 69 rfl rfl (by kernel_rfl) (fun _ _ _ h => h) (by rfl) ?_ ?_ ?_; rotate_left 2; (intro w'; go_simp; with_reducible rfl); (go_simp; rfl)
                refine RG.rp (v := ?_) (a' := ?_) 10 70 rfl rfl (by kernel_rfl) (fun _ _ _ h => h) (by rfl) ?_ ?_ ?_; rotate_left 2; (intro w'; go_simp; with_reducible rfl); (go_simp; rfl)
                refine RG.ro (a' := ?_) 11 71 rfl rfl (by kernel_rfl) (fun _ _ _ h => h) (by rfl) ?_ ?_; rotate_left; (go_simp; rfl)
                refine RG.ro (a' := ?_) 12 72 rfl rfl (by kernel_rfl) (fun _ _ _ h => h) (by rfl) ?_ ?_; rotate_left; (go_simp; rfl)
                refine RG.ro (a' := ?_) 13 73 rfl rfl (by kernel_rfl) (fun _ _ _ h => h) (by rfl) ?_ ?_; rotate_left; (go_simp; rfl)
                refine RG.ro (a' := ?_) 14 74 rfl rfl (by kernel_rfl) (fun _ _ _ h => h) (by rfl) ?_ ?_; rotate_left; (go_simp; rfl)
                refine RG.ro (a' := ?_) 15 75 rfl rfl (by kernel_rfl) (fun _ _ _ h => h) (by rfl) ?_ ?_; rotate_left; (go_simp; rfl)
                refine RG.ro (a' := ?_) 16 76 rfl rfl (by kernel_rfl) (fun _ _ _ h => h) (by rfl) ?_ ?_; rotate_left; (go_simp; rfl)
                refine RG.ro (a' := ?_) 17 77 rfl rfl (by kernel_rfl) (fun _ _ _ h => h) (by rfl) ?_ ?_; rotate_left; (go_simp; rfl)
                refine RG.ro (a' := ?_) 18 78 rfl rfl (by kernel_rfl) (fun _ _ _ h => h) (by rfl) ?_ ?_; rotate_left; (go_simp; rfl)
                refine RG.ro (a' := ?_) 19 79 rfl rfl (by kernel_rfl) (fun _ _ _ h => h) (by rfl) ?_ ?_; rotate_left; (go_simp; rfl)
                refine RG.ro (a' := ?_) 20 80 rfl rfl (by kernel_rfl) (fun _ _ _ h => h) (by rfl) ?_ ?_; rotate_left; (go_simp; rfl)
                refine RG.ro (a' := ?_) 21 81 rfl rfl (by kernel_rfl) (fun _ _ _ h => h) (by rfl) ?_ ?_; rotate_left; (go_simp; rfl)
                refine RG.ro (a' := ?_) 22 82 rfl rfl (by kernel_rfl) (fun _ _ _ h => h) (by rfl) ?_ ?_; rotate_left; (go_simp; rfl)
                refine RG.ro (a' := ?_) 23 83 rfl rfl (by kernel_rfl) (fun _ _ _ h => h) (by rfl) ?_ ?_; rotate_left; (go_simp; rfl)
                refine RG.ro (a' := ?_) 24 84 rfl rfl (by kernel_rfl) (fun _ _ _ h => h) (by rfl) ?_ ?_; rotate_left; (go_simp; rfl)
                refine RG.rp (v := ?_) (a' := ?_) 25 85 rfl rfl (by kernel_rfl) (fun _ _ _ h => h) (by rfl) ?_ ?_ ?_; rotate_left 2; (intro w'; go_simp; with_reducible rfl); (go_simp; rfl)
                refine RG.rp (v := ?_) (a' := ?_) 26 86 rfl rfl (by kernel_rfl) (fun _ _ _ h => h) (by rfl) ?_ ?_ ?_; rotate_left 2; (intro w'; go_simp; with_reducible rfl); (go_simp; rfl)
                refine done_ (by kernel_rfl) ?_
                go_wp2_with fail
                go_roundg (gk - 1)
                case measure => have := HJK.out; omega
                case rel =>
                  refine ⟨j + 1, by have := HJK.out; omega, by go_num, fun i2 h hi2 => ?_, HQ5.out, HB5.out⟩
                  by_cases h4 : i2 = j
                  · subst h4; exact HS.out
                  · exact HALL.out i2 h (by omega)
              · obtain ⟨i, hi⟩ : ∃ i, j = i + 1 := ⟨j - 1, by omega⟩
                have hil : i < S.length := by omega
                obtain ⟨ad2, had, g0, _⟩ := at_T146 H2.out (i : Int) (by omega) (by omega)
                injection had with had
                subst had
                obtain ⟨y, hye⟩ : ∃ q, q = S[i] := ⟨_, rfl⟩
                rw [rd146_at hil, ← hye] at g0
                simp only [Int.toNat_natCast] at g0
                replace g0 := pw_cell_below HBd.out g0
                have hwr : IntKind.i64.wrap ((j : Int) - 1) = (i : Int) := by rw [i64_w, wrap64_in _ (by omega)]; omega
                have hpos : 0 < j := by omega
                have hi0 : (0 : Int) ≤ (i : Int) := by omega
                have hi1 : (i : Int) < (S.length : Int) := by omega
                have HI := Aside0.mk hi
                have HYE := Aside0.mk hye
                clear hi hye hz
                by_cases hc : x.f0 ≤ y.f0
                · have hs : stepS S j hlt = false := by
                    have hi := HI.out
                    have h3 : ¬ (S[j - 1]'(by omega)).f0 < S[j].f0 := by
                      have : S[j - 1]'(by omega) = y := by rw [HYE.out]; congr 1; omega
                      rw [this, ← HXE.out]
                      omega
                    unfold stepS
                    rw [decide_eq_false h3, decide_eq_false (show ¬ j = 0 by omega)]
                    simp
                  have hbf : b = false := by rw [HB0.out]; exact notokS hlt hs
                  have HBF := Aside0.mk hbf
                  have hc' : decide (x.f0 ≤ y.f0) = true := decide_eq_true hc
                  clear hs hbf hc
                  refine RG.rs 27 (fun w' => w'.cell? ⟨w.heap.size, 1, none⟩ = some (.slice (some ad) S.length d2) ∧ w'.cell? (ad.add (j * 4)) = some (.int .i64 x.f0) ∧ w'.cell? ⟨(ad.add (j * 4)).block, (ad.add (j * 4)).off + 1, none⟩ = some (.int .i64 x.f1) ∧ w'.cell? ⟨(ad.add (j * 4)).block, (ad.add (j * 4)).off + 2, none⟩ = some (.int .i64 x.f2) ∧ w'.cell? ⟨(ad.add (j * 4)).block, (ad.add (j * 4)).off + 3, none⟩ = some (.string x.f3) ∧ w'.cell? (ad.add (i * 4)) = some (.int .i64 y.f0)) [] (by kernel_rfl) rfl ⟨q1, h0, h1, h2, h3, g0⟩ (fun hHeld => ?_)
                  generalize wr.drew = wd at HBd HQd hHeld ⊢
                  refine RG.rp (v := ?_) (a' := ?_) 0 60 rfl rfl (by kernel_rfl) (fun _ _ _ h => h) (by rfl) ?_ ?_ ?_; rotate_left 2; (intro w'; go_simp; with_reducible rfl); (go_simp; rfl)
                  refine RG.rt (v := ?_) (a' := ?_) 1 61 rfl rfl (by kernel_rfl) (fun _ _ _ h => h) (by rfl) ?_ hHeld ?_ ?_; rotate_left 2; (rintro w' ⟨s0, s1, s2, s3, s4, s5⟩; go_simp; with_reducible rfl); (go_simp; rfl)
                  refine RG.rp (v := ?_) (a' := ?_) 2 62 rfl rfl (by kernel_rfl) (fun _ _ _ h => h) (by rfl) ?_ ?_ ?_; rotate_left 2; (intro w'; go_simp; with_reducible rfl); (go_simp; rfl)
                  refine RG.rp (v := ?_) (a' := ?_) 3 63 rfl rfl (by kernel_rfl) (fun _ _ _ h => h) (by rfl) ?_ ?_ ?_; rotate_left 2; (intro w'; go_simp; with_reducible rfl); (go_simp; rfl)
                  refine RG.rt (v := ?_) (a' := ?_) 4 64 rfl rfl (by kernel_rfl) (fun _ _ _ h => h) (by rfl) ?_ hHeld ?_ ?_; rotate_left 2; (rintro w' ⟨s0, s1, s2, s3, s4, s5⟩; go_simp; with_reducible rfl); (go_simp; rfl)
                  refine RG.r1 5 (some 65) rfl rfl (by kernel_rfl) (by decide) (fun K hK => ?_)
                  refine goes_ Try.func119 (by kernel_rfl) rfl #[.agg #[.int .i64 x.f0, .int .i64 x.f1, .int .i64 x.f2, .string x.f3]] (by rfl) rfl rfl (by simp only [List.map_toArray, List.map_cons, List.map_nil]; rfl) ?_
                  refine (spec_l5sessionOk.calls x.f0 x.f1 x.f2 x.f3 _ wd (sessB_f x)).mono ?_
                  rintro e w5 ⟨rfl, hB5⟩
                  rw [HSB.out]
                  obtain ⟨s0, s1, s2, s3, s4, s5⟩ := hHeld
                  refine ⟨_, rfl, hK.out _ _ ⟨pw_cell_keep hB5 s0, pw_cell_keep hB5 s1, pw_cell_keep hB5 s2, pw_cell_keep hB5 s3, pw_cell_keep hB5 s4, pw_cell_keep hB5 s5⟩ (fun hHeld => ?_)⟩
                  have HB5 := Aside0.mk (below_then HBd.out HBd.out.size hB5)
                  have HQ5 := Aside0.mk (blk_below HQd.out hB5)
                  clear hB5 s0 s1 s2 s3 s4 s5 q1 h0 h1 h2 h3 g0
                  clear hK K
                  refine norm_ (a' := ?_) ?_ ?_; rotate_left; (show Act.put _ (some 65) _ = _; go_simp; rfl)
                  refine RG.rp (v := ?_) (a' := ?_) 6 66 rfl rfl (by kernel_rfl) (fun _ _ _ h => h) (by rfl) ?_ ?_ ?_; rotate_left 2; (intro w'; go_simp; with_reducible rfl); (go_simp; rfl)
                  refine RG.rp (v := ?_) (a' := ?_) 7 67 rfl rfl (by kernel_rfl) (fun _ _ _ h => h) (by rfl) ?_ ?_ ?_; rotate_left 2; (intro w'; go_simp; with_reducible rfl); (go_simp; rfl)
                  refine RG.rp (v := ?_) (a' := ?_) 8 68 rfl rfl (by kernel_rfl) (fun _ _ _ h => h) (by rfl) ?_ ?_ ?_; rotate_left 2; (intro w'; go_simp; with_reducible rfl); (go_simp; rfl)
                  refine RG.rp (v := ?_) (a' := ?_) 9 69 rfl rfl (by kernel_rfl) (fun _ _ _ h => h) (by rfl) ?_ ?_ ?_; rotate_left 2; (intro w'; go_simp; with_reducible rfl); (go_simp; rfl)
                  refine RG.rp (v := ?_) (a' := ?_) 10 70 rfl rfl (by kernel_rfl) (fun _ _ _ h => h) (by rfl) ?_ ?_ ?_; rotate_left 2; (intro w'; go_simp; with_reducible rfl); (go_simp; rfl)
                  refine RG.rp (v := ?_) (a' := ?_) 11 71 rfl rfl (by kernel_rfl) (fun _ _ _ h => h) (by rfl) ?_ ?_ ?_; rotate_left 2; (intro w'; go_simp; with_reducible rfl); (go_simp; rfl)
                  refine RG.rt (v := ?_) (a' := ?_) 12 72 rfl rfl (by kernel_rfl) (fun _ _ _ h => h) (by rfl) ?_ hHeld ?_ ?_; rotate_left 2; (rintro w' ⟨s0, s1, s2, s3, s4, s5⟩; go_simp; with_reducible rfl); (go_simp; rfl)
                  refine RG.rp (v := ?_) (a' := ?_) 13 73 rfl rfl (by kernel_rfl) (fun _ _ _ h => h) (by rfl) ?_ ?_ ?_; rotate_left 2; (intro w'; go_simp; with_reducible rfl); (go_simp; rfl)
                  refine RG.rp (v := ?_) (a' := ?_) 14 74 rfl rfl (by kernel_rfl) (fun _ _ _ h => h) (by rfl) ?_ ?_ ?_; rotate_left 2; (intro w'; go_simp; with_reducible rfl); (go_simp; rfl)
                  refine RG.rp (v := ?_) (a' := ?_) 15 75 rfl rfl (by kernel_rfl) (fun _ _ _ h => h) (by rfl) ?_ ?_ ?_; rotate_left 2; (intro w'; go_simp; with_reducible rfl); (go_simp; rfl)
                  refine RG.rt (v := ?_) (a' := ?_) 16 76 rfl rfl (by kernel_rfl) (fun _ _ _ h => h) (by rfl) ?_ hHeld ?_ ?_; rotate_left 2; (rintro w' ⟨s0, s1, s2, s3, s4, s5⟩; go_simp; with_reducible rfl); (go_simp; rfl)
                  refine RG.rp (v := ?_) (a' := ?_) 17 77 rfl rfl (by kernel_rfl) (fun _ _ _ h => h) (by rfl) ?_ ?_ ?_; rotate_left 2; (intro w'; go_simp; with_reducible rfl); (go_simp; rfl)
                  refine RG.rt (v := ?_) (a' := ?_) 18 78 rfl rfl (by kernel_rfl) (fun _ _ _ h => h) (by rfl) ?_ hHeld ?_ ?_; rotate_left 2; (rintro w' ⟨s0, s1, s2, s3, s4, s5⟩; go_simp; with_reducible rfl); (go_simp; rfl)
                  refine RG.rp (v := ?_) (a' := ?_) 19 79 rfl rfl (by kernel_rfl) (fun _ _ _ h => h) (by rfl) ?_ ?_ ?_; rotate_left 2; (intro w'; go_simp; with_reducible rfl); (go_simp; rfl)
                  refine RG.rp (v := ?_) (a' := ?_) 20 80 rfl rfl (by kernel_rfl) (fun _ _ _ h => h) (by rfl) ?_ ?_ ?_; rotate_left 2; (intro w'; go_simp; with_reducible rfl); (go_simp; rfl)
                  refine RG.rp (v := ?_) (a' := ?_) 21 81 rfl rfl (by kernel_rfl) (fun _ _ _ h => h) (by rfl) ?_ ?_ ?_; rotate_left 2; (intro w'; go_simp; with_reducible rfl); (go_simp; rfl)
                  refine RG.rp (v := ?_) (a' := ?_) 22 82 rfl rfl (by kernel_rfl) (fun _ _ _ h => h) (by rfl) ?_ ?_ ?_; rotate_left 2; (intro w'; go_simp; with_reducible rfl); (go_simp; rfl)
                  refine RG.rt (v := ?_) (a' := ?_) 23 83 rfl rfl (by kernel_rfl) (fun _ _ _ h => h) (by rfl) ?_ hHeld ?_ ?_; rotate_left 2; (rintro w' ⟨s0, s1, s2, s3, s4, s5⟩; go_simp; with_reducible rfl); (go_simp; rfl)
                  refine RG.rp (v := ?_) (a' := ?_) 24 84 rfl rfl (by kernel_rfl) (fun _ _ _ h => h) (by rfl) ?_ ?_ ?_; rotate_left 2; (intro w'; go_simp; with_reducible rfl); (go_simp; rfl)
                  refine RG.rp (v := ?_) (a' := ?_) 25 85 rfl rfl (by kernel_rfl) (fun _ _ _ h => h) (by rfl) ?_ ?_ ?_; rotate_left 2; (intro w'; go_simp; with_reducible rfl); (go_simp; rfl)
                  refine RG.rp (v := ?_) (a' := ?_) 26 86 rfl rfl (by kernel_rfl) (fun _ _ _ h => h) (by rfl) ?_ ?_ ?_; rotate_left 2; (intro w'; go_simp; with_reducible rfl); (go_simp; rfl)
                  refine done_ (by kernel_rfl) ?_
                  clear hwr hc'
                  go_wp2_with fail
                  go_ret
                  exact ⟨ret_bool HBF.out.symm, HB5.out⟩
                · have hs : stepS S j hlt = true := by
                    have hi := HI.out
                    have h3 : (S[j - 1]'(by omega)).f0 < S[j].f0 := by
                      have : S[j - 1]'(by omega) = y := by rw [HYE.out]; congr 1; omega
                      rw [this, ← HXE.out]
                      omega
                    unfold stepS
                    rw [decide_eq_true h3, ← HXE.out, HSB.out]
                    simp
                  have HS := Aside0.mk hs
                  have hc' : decide (x.f0 ≤ y.f0) = false := decide_eq_false hc
                  clear hs hc
                  refine RG.rs 27 (fun w' => w'.cell? ⟨w.heap.size, 1, none⟩ = some (.slice (some ad) S.length d2) ∧ w'.cell? (ad.add (j * 4)) = some (.int .i64 x.f0) ∧ w'.cell? ⟨(ad.add (j * 4)).block, (ad.add (j * 4)).off + 1, none⟩ = some (.int .i64 x.f1) ∧ w'.cell? ⟨(ad.add (j * 4)).block, (ad.add (j * 4)).off + 2, none⟩ = some (.int .i64 x.f2) ∧ w'.cell? ⟨(ad.add (j * 4)).block, (ad.add (j * 4)).off + 3, none⟩ = some (.string x.f3) ∧ w'.cell? (ad.add (i * 4)) = some (.int .i64 y.f0)) [] (by kernel_rfl) rfl ⟨q1, h0, h1, h2, h3, g0⟩ (fun hHeld => ?_)
                  generalize wr.drew = wd at HBd HQd hHeld ⊢
                  refine RG.rp (v := ?_) (a' := ?_) 0 60 rfl rfl (by kernel_rfl) (fun _ _ _ h => h) (by rfl) ?_ ?_ ?_; rotate_left 2; (intro w'; go_simp; with_reducible rfl); (go_simp; rfl)
                  refine RG.rt (v := ?_) (a' := ?_) 1 61 rfl rfl (by kernel_rfl) (fun _ _ _ h => h) (by rfl) ?_ hHeld ?_ ?_; rotate_left 2; (rintro w' ⟨s0, s1, s2, s3, s4, s5⟩; go_simp; with_reducible rfl); (go_simp; rfl)
                  refine RG.rp (v := ?_) (a' := ?_) 2 62 rfl rfl (by kernel_rfl) (fun _ _ _ h => h) (by rfl) ?_ ?_ ?_; rotate_left 2; (intro w'; go_simp; with_reducible rfl); (go_simp; rfl)
                  refine RG.rp (v := ?_) (a' := ?_) 3 63 rfl rfl (by kernel_rfl) (fun _ _ _ h => h) (by rfl) ?_ ?_ ?_; rotate_left 2; (intro w'; go_simp; with_reducible rfl); (go_simp; rfl)
                  refine RG.rt (v := ?_) (a' := ?_) 4 64 rfl rfl (by kernel_rfl) (fun _ _ _ h => h) (by rfl) ?_ hHeld ?_ ?_; rotate_left 2; (rintro w' ⟨s0, s1, s2, s3, s4, s5⟩; go_simp; with_reducible rfl); (go_simp; rfl)
                  refine RG.r1 5 (some 65) rfl rfl (by kernel_rfl) (by decide) (fun K hK => ?_)
                  refine goes_ Try.func119 (by kernel_rfl) rfl #[.agg #[.int .i64 x.f0, .int .i64 x.f1, .int .i64 x.f2, .string x.f3]] (by rfl) rfl rfl (by simp only [List.map_toArray, List.map_cons, List.map_nil]; rfl) ?_
                  refine (spec_l5sessionOk.calls x.f0 x.f1 x.f2 x.f3 _ wd (sessB_f x)).mono ?_
                  rintro e w5 ⟨rfl, hB5⟩
                  rw [HSB.out]
                  obtain ⟨s0, s1, s2, s3, s4, s5⟩ := hHeld
                  refine ⟨_, rfl, hK.out _ _ ⟨pw_cell_keep hB5 s0, pw_cell_keep hB5 s1, pw_cell_keep hB5 s2, pw_cell_keep hB5 s3, pw_cell_keep hB5 s4, pw_cell_keep hB5 s5⟩ (fun hHeld => ?_)⟩
                  have HB5 := Aside0.mk (below_then HBd.out HBd.out.size hB5)
                  have HQ5 := Aside0.mk (blk_below HQd.out hB5)
                  clear hB5 s0 s1 s2 s3 s4 s5 q1 h0 h1 h2 h3 g0
                  clear hK K
                  refine norm_ (a' := ?_) ?_ ?_; rotate_left; (show Act.put _ (some 65) _ = _; go_simp; rfl)
                  refine RG.rp (v := ?_) (a' := ?_) 6 66 rfl rfl (by kernel_rfl) (fun _ _ _ h => h) (by rfl) ?_ ?_ ?_; rotate_left 2; (intro w'; go_simp; with_reducible rfl); (go_simp; rfl)
                  refine RG.rp (v := ?_) (a' := ?_) 7 67 rfl rfl (by kernel_rfl) (fun _ _ _ h => h) (by rfl) ?_ ?_ ?_; rotate_left 2; (intro w'; go_simp; with_reducible rfl); (go_simp; rfl)
                  refine RG.rp (v := ?_) (a' := ?_) 8 68 rfl rfl (by kernel_rfl) (fun _ _ _ h => h) (by rfl) ?_ ?_ ?_; rotate_left 2; (intro w'; go_simp; with_reducible rfl); (go_simp; rfl)
                  refine RG.rp (v := ?_) (a' := ?_) 9 69 rfl rfl (by kernel_rfl) (fun _ _ _ h => h) (by rfl) ?_ ?_ ?_; rotate_left 2; (intro w'; go_simp; with_reducible rfl); (go_simp; rfl)
                  refine RG.rp (v := ?_) (a' := ?_) 10 70 rfl rfl (by kernel_rfl) (fun _ _ _ h => h) (by rfl) ?_ ?_ ?_; rotate_left 2; (intro w'; go_simp; with_reducible rfl); (go_simp; rfl)
                  refine RG.rp (v := ?_) (a' := ?_) 11 71 rfl rfl (by kernel_rfl) (fun _ _ _ h => h) (by rfl) ?_ ?_ ?_; rotate_left 2; (intro w'; go_simp; with_reducible rfl); (go_simp; rfl)
                  refine RG.rt (v := ?_) (a' := ?_) 12 72 rfl rfl (by kernel_rfl) (fun _ _ _ h => h) (by rfl) ?_ hHeld ?_ ?_; rotate_left 2; (rintro w' ⟨s0, s1, s2, s3, s4, s5⟩; go_simp; with_reducible rfl); (go_simp; rfl)
                  refine RG.rp (v := ?_) (a' := ?_) 13 73 rfl rfl (by kernel_rfl) (fun _ _ _ h => h) (by rfl) ?_ ?_ ?_; rotate_left 2; (intro w'; go_simp; with_reducible rfl); (go_simp; rfl)
                  refine RG.rp (v := ?_) (a' := ?_) 14 74 rfl rfl (by kernel_rfl) (fun _ _ _ h => h) (by rfl) ?_ ?_ ?_; rotate_left 2; (intro w'; go_simp; with_reducible rfl); (go_simp; rfl)
                  refine RG.rp (v := ?_) (a' := ?_) 15 75 rfl rfl (by kernel_rfl) (fun _ _ _ h => h) (by rfl) ?_ ?_ ?_; rotate_left 2; (intro w'; go_simp; with_reducible rfl); (go_simp; rfl)
                  refine RG.rt (v := ?_) (a' := ?_) 16 76 rfl rfl (by kernel_rfl) (fun _ _ _ h => h) (by rfl) ?_ hHeld ?_ ?_; rotate_left 2; (rintro w' ⟨s0, s1, s2, s3, s4, s5⟩; go_simp; with_reducible rfl); (go_simp; rfl)
                  refine RG.rp (v := ?_) (a' := ?_) 17 77 rfl rfl (by kernel_rfl) (fun _ _ _ h => h) (by rfl) ?_ ?_ ?_; rotate_left 2; (intro w'; go_simp; with_reducible rfl); (go_simp; rfl)
                  refine RG.rt (v := ?_) (a' := ?_) 18 78 rfl rfl (by kernel_rfl) (fun _ _ _ h => h) (by rfl) ?_ hHeld ?_ ?_; rotate_left 2; (rintro w' ⟨s0, s1, s2, s3, s4, s5⟩; go_simp; with_reducible rfl); (go_simp; rfl)
                  refine RG.rp (v := ?_) (a' := ?_) 19 79 rfl rfl (by kernel_rfl) (fun _ _ _ h => h) (by rfl) ?_ ?_ ?_; rotate_left 2; (intro w'; go_simp; with_reducible rfl); (go_simp; rfl)
                  refine RG.rp (v := ?_) (a' := ?_) 20 80 rfl rfl (by kernel_rfl) (fun _ _ _ h => h) (by rfl) ?_ ?_ ?_; rotate_left 2; (intro w'; go_simp; with_reducible rfl); (go_simp; rfl)
                  refine RG.rp (v := ?_) (a' := ?_) 21 81 rfl rfl (by kernel_rfl) (fun _ _ _ h => h) (by rfl) ?_ ?_ ?_; rotate_left 2; (intro w'; go_simp; with_reducible rfl); (go_simp; rfl)
                  refine RG.rp (v := ?_) (a' := ?_) 22 82 rfl rfl (by kernel_rfl) (fun _ _ _ h => h) (by rfl) ?_ ?_ ?_; rotate_left 2; (intro w'; go_simp; with_reducible rfl); (go_simp; rfl)
                  refine RG.rt (v := ?_) (a' := ?_) 23 83 rfl rfl (by kernel_rfl) (fun _ _ _ h => h) (by rfl) ?_ hHeld ?_ ?_; rotate_left 2; (rintro w' ⟨s0, s1, s2, s3, s4, s5⟩; go_simp; with_reducible rfl); (go_simp; rfl)
                  refine RG.rp (v := ?_) (a' := ?_) 24 84 rfl rfl (by kernel_rfl) (fun _ _ _ h => h) (by rfl) ?_ ?_ ?_; rotate_left 2; (intro w'; go_simp; with_reducible rfl); (go_simp; rfl)
                  refine RG.rp (v := ?_) (a' := ?_) 25 85 rfl rfl (by kernel_rfl) (fun _ _ _ h => h) (by rfl) ?_ ?_ ?_; rotate_left 2; (intro w'; go_simp; with_reducible rfl); (go_simp; rfl)
                  refine RG.rp (v := ?_) (a' := ?_) 26 86 rfl rfl (by kernel_rfl) (fun _ _ _ h => h) (by rfl) ?_ ?_ ?_; rotate_left 2; (intro w'; go_simp; with_reducible rfl); (go_simp; rfl)
                  refine done_ (by kernel_rfl) ?_
                  clear hwr hc'
                  go_wp2_with fail
                  go_roundg (gk - 1)
                  case measure => have := HJK.out; omega
                  case rel =>
                    refine ⟨j + 1, by have := HJK.out; omega, by go_num, fun i2 h hi2 => ?_, HQ5.out, HB5.out⟩
                    by_cases h4 : i2 = j
                    · subst h4; exact HS.out
                    · exact HALL.out i2 h (by omega)
          · have hj : j = S.length := by omega
            subst hj
            have hj1 : ¬ (S.length : Int) < (S.length : Int) := by omega
            obtain ⟨q0, q1⟩ := cells2 hq
            have hbt : b = true := by
              rw [HB0.out]
              unfold tabOk
              rw [decide_eq_true (show P.length ≤ 256 by have := H256.out; omega), HP.out, (sessOk_iff S).2 (fun i h => hall i h h)]
              rfl
            have HBT := Aside0.mk hbt
            have HB := Aside0.mk hB
            clear hall hq hB hjk hlt hbt
            go_wp2_with fail
            go_ret
            exact ⟨ret_bool HBT.out.symm, HB.out⟩
end Go.Proofs.Ytppegigcclflbaa.PFnExactApplyCmd
