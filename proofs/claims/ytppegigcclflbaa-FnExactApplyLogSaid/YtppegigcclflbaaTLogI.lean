/- What the program's ApplyLog answers. -/
import Derived.Test.YtppegigcclflbaaTLogS
import Derived.Test.YtppegigcclflbaaTTell
set_option linter.unusedSimpArgs false
namespace Go.Proofs.Ytppegigcclflbaa.PFnExactApplyCmd
open Go.RowKit Go.Proofs.YtppegigcclflbaaW.PrintWords Go.Proofs.YtppegigcclflbaaW.PrintLast Go.Proofs.YtppegigcclflbaaW.PrintMore
open Go.Proofs.Ytppegigcclflbaa.PStr
attribute [local go_sem] max2_int min2_int max_two min_two

set_option maxHeartbeats 6400000 in
set_option maxRecDepth 100000 in
theorem impl_ApplyLog.calls (A : Option Addr) (d : Nat) (L : List S103) (upto : Int) (w : World) (hr : Kd.C k103 w A L.length L) (hc : L.length ≤ d) (hd : d ≤ 9223372036854775807) :
    Calls Try.prog 17 #[.slice A L.length d, .int .i64 upto] w (TabAns (logF L upto) w) := by
  have HR := Aside0.mk hr
  have HC := Aside0.mk hc
  clear hr hc
  have hgen : ∀ wz : World, wz = w.alloc (.cells #[.slice none 0 0, .slice none 0 0] 40) →
      wz.heap[w.heap.size]? = some (.cells #[.slice none 0 0, .slice none 0 0] 40 (0, 0)) ∧ Below w.heap.size w wz := by
    intro wz hwz
    refine ⟨?_, ?_⟩
    · rw [hwz]; exact blk_new _ _
    · rw [hwz]; exact below_alloc (Below.refl _ _) _
  have HGEN := Aside0.mk hgen
  clear hgen
  by_cases h0 : 4096 < L.length
  · have hT : logF L upto = ([], []) := by
      unfold logF
      rw [if_neg (by omega)]
    rw [hT]
    have h0' : (4096 : Int) < (L.length : Int) := by omega
    clear hT h0
    go_enter Try.func17, Try.ntmps17
    go_wp2_with fail
    obtain ⟨z0, z2⟩ := HGEN.out _ rfl
    refine bodyPost_ret (v := .agg #[.slice none 0 0, .slice none 0 0]) (results_single rfl (Vals.cell w.heap.size 40 _ (0, 0) _ rfl ?e1 Try.underlying40 rfl (by kernel_rfl) Vals.nil)) rfl ?_
    case e1 => exact blk_new _ _
    exact ⟨none, 0, none, 0, rfl, held_nil _ _ _, z2⟩
  · have h0' : ¬ (4096 : Int) < (L.length : Int) := by omega
    have h00 : L.length ≤ 4096 := by omega
    have H00 := Aside0.mk h00
    clear h0 h00
    go_enter Try.func17, Try.ntmps17
    go_wp2_with fail
    obtain ⟨wz, hwz⟩ : ∃ wz, wz = w.alloc (.cells #[.slice none 0 0, .slice none 0 0] 40) := ⟨_, rfl⟩
    obtain ⟨z0, z2⟩ := HGEN.out _ hwz
    rw [← hwz]
    have Z0 := Aside0.mk z0
    have Z2 := Aside0.mk z2
    clear hwz z0 z2
    go_loopg [16] L.length (fun k i wr => ∃ j : Nat, j + k = L.length ∧ i = .int .i64 j ∧ (L.take j).all okE = true ∧ wr.heap[w.heap.size]? = some (.cells #[.slice none 0 0, .slice none 0 0] 40 (0, 0)) ∧ Below w.heap.size w wr)
    case atStart => exact ⟨0, by omega, rfl, rfl, Z0.out, Z2.out⟩
    case round =>
      clear Z0 Z2
      obtain ⟨j, hjk, rfl, hall, b0, hB⟩ := hrel
      by_cases hlt : j < L.length
      · obtain ⟨ad, rfl, h0, h1, h2, h3, h4, h5, h6⟩ := at_T103 HR.out (j : Int) (by omega) (by omega)
        obtain ⟨p, hpe⟩ : ∃ p, p = L[j] := ⟨_, rfl⟩
        rw [rd103_at hlt, ← hpe] at h0 h1 h2 h3 h4 h5 h6
        simp only [Int.toNat_natCast] at h0 h1 h2 h3 h4 h5 h6
        replace h0 := pw_cell_below hB h0
        replace h1 := pw_cell_below hB h1
        replace h2 := pw_cell_below hB h2
        replace h3 := pw_cell_below hB h3
        replace h4 := pw_cell_below hB h4
        replace h5 := pw_cell_below hB h5
        replace h6 := pw_cell_below hB h6
        have hj0 : (0 : Int) ≤ (j : Int) := by omega
        have hj1 : (j : Int) < (L.length : Int) := by omega
        have HPE := Aside0.mk hpe
        have HJK := Aside0.mk hjk
        have HALL := Aside0.mk hall
        have B0 := Aside0.mk b0
        have HB := Aside0.mk hB
        clear hpe hjk hall b0 hB
        go_wp2_with fail
        refine (impl_Entry_wellFormed.calls 9 _ _ _ _ _ _ _ _ _ (impl_entry_f (by omega) _ _ _ _ _ _ _)).mono ?_
        rintro e w5 ⟨rfl, hB5⟩
        have hB1 := below_alloc HB.out (.cells #[.int .i64 p.f0, .int .i64 p.f1.f0, .int .i64 p.f1.f1, .int .i64 p.f1.f2, .string p.f1.f3, .string p.f1.f4, .string p.f1.f5] 103)
        have C0 := Aside0.mk (blk_below (blk_alloc B0.out (.cells #[.int .i64 p.f0, .int .i64 p.f1.f0, .int .i64 p.f1.f1, .int .i64 p.f1.f2, .string p.f1.f3, .string p.f1.f4, .string p.f1.f5] 103)) hB5)
        have CB := Aside0.mk (below_then hB1 hB1.size hB5)
        clear hB1 hB5 h0 h1 h2 h3 h4 h5 h6
        obtain ⟨b, hb⟩ : ∃ b, b = entryB p.f0 p.f1.f0 p.f1.f1 p.f1.f2 p.f1.f3 p.f1.f4 p.f1.f5 := ⟨_, rfl⟩
        rw [← hb]
        have HOK : Aside0 (okE L[j] = b) := ⟨by rw [hb, ← HPE.out]; rfl⟩
        clear hb
        cases b with
        | true =>
          go_wp2_with fail
          go_roundg (gk - 1)
          case measure => have := HJK.out; omega
          case rel => exact ⟨j + 1, by have := HJK.out; omega, by go_num, all_step hlt HALL.out HOK.out, C0.out, CB.out⟩
        | false =>
          have hT : logF L upto = ([], []) := by
            unfold logF
            rw [if_neg (fun h => not_all hlt HOK.out h.2)]
          have HT := Aside0.mk hT
          obtain ⟨y0, y1⟩ := cells2 C0.out
          have f0 := blk_frozen C0.out 0
          have f1 := blk_frozen C0.out 1
          clear hT
          go_wp2_with fail
          have e1 := blk_put C0.out 0 (.slice none 0 0) (cs' := #[.slice none 0 0, .slice none 0 0]) (by simp)
          have e2 := blk_put e1 1 (.slice none 0 0) (cs' := #[.slice none 0 0, .slice none 0 0]) (by simp)
          refine bodyPost_ret (v := .agg #[.slice none 0 0, .slice none 0 0]) (results_single rfl (Vals.cell w.heap.size 40 _ (0, 0) _ rfl e2 Try.underlying40 rfl (by kernel_rfl) Vals.nil)) rfl ?_
          rw [HT.out]
          exact ⟨none, 0, none, 0, rfl, held_nil _ _ _, below_set (below_set CB.out (Nat.le_refl _)) (Nat.le_refl _)⟩
      · have hj : j = L.length := by omega
        subst hj
        rw [List.take_length] at hall
        obtain ⟨n, hn⟩ : ∃ n, n = upT L.length upto := ⟨_, rfl⟩
        have hT : logF L upto = foldT (L.take n) := by
          unfold logF
          rw [if_pos ⟨H00.out, hall⟩, hn]
        have hnl : n ≤ L.length := by rw [hn]; exact upT_le _ _
        have hj1 : ¬ (L.length : Int) < (L.length : Int) := by omega
        obtain ⟨M, hM⟩ : ∃ M, (if upto < 0 then (0 : Int) else upto) = M := ⟨_, rfl⟩
        have hN : (if (L.length : Int) < M then (L.length : Int) else M) = (n : Int) := by
          rw [← hM, hn]
          unfold upT
          split <;> split <;> omega
        have HT := Aside0.mk hT
        have HALL := Aside0.mk hall
        have B0 := Aside0.mk b0
        have HB := Aside0.mk hB
        have HM := Aside0.mk hM
        have HNN := Aside0.mk hN
        clear hall b0 hB hT hjk hlt hn hM hN
        go_wp2_with fail
        refine (newTables.calls none 0 [] none 0 [] wr (Kd.C_nil _ _) (by simp) (Kd.C_nil _ _) (by simp) (by simp) (by simp) TOk.nil.p TOk.nil.s (by simp)).mono ?_
        rintro e w5 ⟨g, bp, bs, rfl, hTb, hB5⟩
        have CT := Aside0.mk hTb
        have HBr := Aside0.mk hB5
        clear hTb hB5
        have hM := HM.out
        have hN := HNN.out
        have hn0 : (0 : Int) ≤ (n : Int) := by omega
        have hnd : (n : Int) ≤ (d : Int) := by have := HC.out; omega
        have hdd : (d : Int) ≤ 9223372036854775807 := by omega
        go_wp2_with fail
        clear hM hN
        obtain ⟨wn, hwn⟩ : ∃ wn, wn = wr := ⟨_, rfl⟩
        rw [← hwn] at CT HBr HB B0
        have BN := B0
        clear B0
        clear hwn
        have hCm : Tabs w5 wn.heap.size g bp 0 [] bs 0 [] := CT.out
        have CT := Aside0.mk hCm
        clear hCm
        go_loopg [35] n (fun k i wr => ∃ j : Nat, j + k = n ∧ j ≤ n ∧ i = .int .i64 j ∧ Tabs wr wn.heap.size g bp j (foldT (L.take j)).1 bs j (foldT (L.take j)).2 ∧ Below wn.heap.size wn wr)
        case atStart => exact ⟨0, by omega, by omega, rfl, CT.out, HBr.out⟩
        case round =>
          clear CT HBr
          obtain ⟨j, hjk, hju, rfl, hT, hB⟩ := hrel
          have hBw := below_then HB.out HB.out.size hB
          by_cases hlt : j < n
          · have hlL : j < L.length := by omega
            obtain ⟨ad, rfl, h0, h1, h2, h3, h4, h5, h6⟩ := at_T103 HR.out (j : Int) (by omega) (by omega)
            obtain ⟨p, hpe⟩ : ∃ p, p = L[j] := ⟨_, rfl⟩
            rw [rd103_at hlL, ← hpe] at h0 h1 h2 h3 h4 h5 h6
            simp only [Int.toNat_natCast] at h0 h1 h2 h3 h4 h5 h6
            replace h0 := pw_cell_below hBw h0
            replace h1 := pw_cell_below hBw h1
            replace h2 := pw_cell_below hBw h2
            replace h3 := pw_cell_below hBw h3
            replace h4 := pw_cell_below hBw h4
            replace h5 := pw_cell_below hBw h5
            replace h6 := pw_cell_below hBw h6
            have hj0 : (0 : Int) ≤ (j : Int) := by omega
            have hj1 : (j : Int) < (n : Int) := by omega
            obtain ⟨T, hTe⟩ : ∃ T, T = foldT (L.take j) := ⟨_, rfl⟩
            have hst := foldT_take hlL
            rw [← hTe] at hT hst
            rw [← hpe] at hst
            have HST : Aside0 (stepT T p = foldT (L.take (j + 1))) := ⟨hst.symm⟩
            have HTK : Aside0 (TOk T.1 T.2) := ⟨by rw [hTe]; exact foldT_ok (all_take HALL.out j)⟩
            have HFZ := Aside0.mk (fault_zero (okE_fault (all_at HALL.out hlL)))
            rw [← hpe] at HFZ
            have HJK := Aside0.mk hjk
            have HT2 := Aside0.mk hT
            have HB2 := Aside0.mk hB
            clear hpe hst hTe hjk hju hT hB hBw
            go_wp2_with fail
            refine (carry.calls wn (wr.alloc (.cells #[.int .i64 p.f0, .int .i64 p.f1.f0, .int .i64 p.f1.f1, .int .i64 p.f1.f2, .string p.f1.f3, .string p.f1.f4, .string p.f1.f5] 103)) g bp j T.1 bs j T.2 p.f1.f0 p.f1.f1 p.f1.f2 p.f1.f3 p.f1.f4 p.f1.f5 (below_alloc HB2.out _) (HT2.out.below (below_alloc (Below.refl _ _) _)) HTK.out.p HTK.out.s HTK.out.l (by omega) (by omega) HFZ.out.1 (by have := HFZ.out.2.1; omega) (by have := HFZ.out.2.2.1; omega)).mono ?_
            rintro e w6 ⟨rfl, hT6, hB6⟩
            have HT6 : Aside0 (Tabs w6 wn.heap.size g bp (j + 1) (foldT (L.take (j + 1))).1 bs (j + 1) (foldT (L.take (j + 1))).2) := ⟨by rw [← HST.out]; exact hT6⟩
            have HB6 := Aside0.mk hB6
            clear hT6 hB6 h0 h1 h2 h3 h4 h5 h6
            go_wp2_with fail
            go_roundg (gk - 1)
            case measure => have := HJK.out; omega
            case rel => exact ⟨j + 1, by have := HJK.out; omega, by omega, by go_num, HT6.out, HB6.out⟩
          · have hj : j = n := by omega
            subst hj
            have hj1 : ¬ (j : Int) < (j : Int) := by omega
            have HT2 := Aside0.mk hT
            have HB2 := Aside0.mk hB
            have HBw := Aside0.mk hBw
            have B0 := Aside0.mk ((hB.block _ (blk_lt BN.out)).trans BN.out)
            have HTK : Aside0 (TOk (foldT (L.take j)).1 (foldT (L.take j)).2) := ⟨foldT_ok (all_take HALL.out j)⟩
            clear hjk hju hT hB hBw hlt
            go_wp2_with fail
            refine (tell.calls wn wr g bp j (foldT (L.take j)).1 bs j (foldT (L.take j)).2 HT2.out HTK.out.p HTK.out.s (by have := HTK.out.l; omega) (by have := few HTK.out.s; omega) (by omega) (fun q hq => by have := (HTK.out.k q hq).1; omega)).mono ?_
            rintro e w6 ⟨B1, e1, B2, e2, rfl, hH, hB6⟩
            have H0 := Aside0.mk (blk_below B0.out hB6)
            have HH := Aside0.mk (hH.lower HBw.out.size)
            have HB6 := Aside0.mk (below_then HBw.out HBw.out.size hB6)
            clear hH hB6
            obtain ⟨n1, hn1⟩ : ∃ m, m = (foldT (L.take j)).1.length := ⟨_, rfl⟩
            obtain ⟨n2, hn2⟩ : ∃ m, m = (foldT (L.take j)).2.length := ⟨_, rfl⟩
            rw [← hn1, ← hn2]
            have HN1 := Aside0.mk hn1
            have HN2 := Aside0.mk hn2
            clear hn1 hn2
            obtain ⟨y0, y1⟩ := cells2 H0.out
            have f0 := blk_frozen H0.out 0
            have f1 := blk_frozen H0.out 1
            go_wp2_with fail
            have k1 := blk_put H0.out 0 (.slice B1 n1 e1) (cs' := #[.slice B1 n1 e1, .slice none 0 0]) (by simp)
            have k2 := blk_put k1 1 (.slice B2 n2 e2) (cs' := #[.slice B1 n1 e1, .slice B2 n2 e2]) (by simp)
            refine bodyPost_ret (v := .agg #[.slice B1 n1 e1, .slice B2 n2 e2]) (results_single rfl (Vals.cell w.heap.size 40 _ (0, 0) _ rfl k2 Try.underlying40 rfl (by kernel_rfl) Vals.nil)) rfl ?_
            rw [HT.out]
            exact ⟨B1, e1, B2, e2, by rw [HN1.out, HN2.out], HeldT.mk (Kd.R_set (Kd.R_set HH.out.p H0.out (by decide) 0 _) k1 (by decide) 1 _) (Kd.R_set (Kd.R_set HH.out.s H0.out (by decide) 0 _) k1 (by decide) 1 _), below_set (below_set HB6.out (Nat.le_refl _)) (Nat.le_refl _)⟩
end Go.Proofs.Ytppegigcclflbaa.PFnExactApplyCmd
