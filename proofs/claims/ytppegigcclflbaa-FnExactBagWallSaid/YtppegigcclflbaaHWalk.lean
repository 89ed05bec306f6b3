/- The law FnExactBagWall, walked. -/
import Derived.Test.YtppegigcclflbaaHLaw
namespace Go.Proofs.Ytppegigcclflbaa.PFnExactBagWall
open Go.RowKit Go.Proofs.YtppegigcclflbaaW.PrintWords Go.Proofs.YtppegigcclflbaaW.PrintLast Go.Proofs.YtppegigcclflbaaW.PrintMore

set_option maxHeartbeats 6400000 in
set_option maxRecDepth 100000 in
theorem law.calls (a0 : Int) (A1 : Option Addr) (c1 : Nat) (l1 : List S138) (A2 : Option Addr) (c2 : Nat) (l2 : List Int) (id up : Int) (w : World) (hr1 : Kd.C k138 w A1 l1.length l1) (hc1 : l1.length ≤ c1) (hr2 : Kd.C (Kd.int .i64) w A2 l2.length l2) (hc2 : l2.length ≤ c2) :
    Calls Try.prog 3 #[.agg #[.int .i64 a0, .slice A1 l1.length c1, .slice A2 l2.length c2], .int .i64 id, .int .i64 up] w fun e w' => e = .returned (.bool true) ∧ Below w.heap.size w w' := by
  have hm1 := Kd.C_max hr1
  have hm2 := Kd.C_max hr2
  have hm3 : ∀ p ∈ l1, p.f3.length ≤ 9223372036854775807 := by
    intro p hp
    obtain ⟨j, hj, rfl⟩ := List.getElem_of_mem hp
    obtain ⟨ad, A3, c3, _, _, _, _, _, _, hC⟩ := at_T138 hr1 (j : Int) (by omega) (by omega)
    rw [rd138_at hj] at hC
    exact Kd.C_max hC
  obtain ⟨r, hsz, hszb⟩ := szBag_f (k := 16777216) a0 l1 l2 (by omega) hm1 hm2 hm3
  have H1 := Aside0.mk hr1
  have H2 := Aside0.mk hr2
  have HC1 := Aside0.mk hc1
  have HC2 := Aside0.mk hc2
  have HSZ := Aside0.mk hsz
  have HSZB := Aside0.mk hszb
  clear hr1 hr2 hc1 hc2 hsz hszb hm1 hm2 hm3
  go_enter Try.func3, Try.ntmps3
  go_wp2_with fail
  obtain ⟨w1, hw1⟩ : ∃ w1, w1 = w.alloc (.cells #[.int .i64 a0, .slice A1 l1.length c1, .slice A2 l2.length c2] 25) := ⟨_, rfl⟩
  have hB1 : Below w.heap.size w w1 := by rw [hw1]; exact below_alloc (Below.refl _ _) _
  have hb1 : w1.heap[w.heap.size]? = some (.cells #[.int .i64 a0, .slice A1 l1.length c1, .slice A2 l2.length c2] 25 (0, 0)) := by rw [hw1]; exact blk_new _ _
  have hs1 : w1.heap.size = w.heap.size + 1 := by rw [hw1]; simp
  rw [← hw1]
  clear hw1
  have HB1 := Aside0.mk hB1
  have Hb1 := Aside0.mk hb1
  clear hB1 hb1
  refine (laws_szBag.calls 16777216 a0 A1 c1 l1 A2 c2 l2 1048576 r w1 (Kd.C_below H1.out HB1.out) HC1.out (Kd.C_below H2.out HB1.out) HC2.out HSZ.out).mono ?_
  rintro e w2 ⟨rfl, hB2⟩
  have hb2 := blk_below Hb1.out hB2
  have a20 : w2.cell? ⟨w.heap.size, 0, none⟩ = some (.int .i64 a0) := (blk_cell hb2 0).trans rfl
  have a21 : w2.cell? ⟨w.heap.size, 1, none⟩ = some (.slice A1 l1.length c1) := (blk_cell hb2 1).trans rfl
  have a22 : w2.cell? ⟨w.heap.size, 2, none⟩ = some (.slice A2 l2.length c2) := (blk_cell hb2 2).trans rfl
  have HB2 := Aside0.mk (below_then HB1.out HB1.out.size hB2)
  have Hb2 := Aside0.mk hb2
  have hs2 : w.heap.size + 1 ≤ w2.heap.size := by rw [← hs1]; exact hB2.size
  clear hB2 hb2
  by_cases hr : r < 0
  · go_wp2_with fail
    go_ret
    exact ⟨rfl, HB2.out⟩
  · have hsum := HSZB.out (by omega)
    have hS1 := sized_cvP hsum
    have HSUM := Aside0.mk hsum
    have HS1 := Aside0.mk hS1
    clear hsum hS1
    go_wp2_with fail
    refine (toBag.held a0 A1 c1 l1 A2 c2 l2 w2 (Kd.C_below H1.out HB2.out) HC1.out (Kd.C_below H2.out HB2.out) HC2.out HSUM.out).mono ?_
    rintro e w3 ⟨B1, d1, B2, d2, rfl, hH3, hB3⟩
    obtain ⟨L1, hL1⟩ : ∃ L1, L1 = l1.map cvP := ⟨_, rfl⟩
    have HL1 := Aside0.mk hL1
    have HS1' := HS1.out
    rw [← hL1] at hH3 HS1' ⊢
    have HSL := Aside0.mk HS1'
    clear HS1 HS1' hL1
    have HH3 := Aside0.mk hH3
    have HB3 := Aside0.mk (below_then HB2.out HB2.out.size hB3)
    have Hb3 := Aside0.mk (blk_below Hb2.out hB3)
    have hs3 : w.heap.size + 1 ≤ w3.heap.size := Nat.le_trans hs2 hB3.size
    clear hH3 hB3
    go_wp2_with fail
    refine (HH3.out.spec a0 id up HSL.out).mono ?_
    rintro e w4 ⟨W1, e1, W2, e2, rfl, hH4, hB4⟩
    obtain ⟨g0, hg0⟩ : ∃ g, g = (bwF a0 L1 l2 id up).1 := ⟨_, rfl⟩
    obtain ⟨g1, hg1⟩ : ∃ g, g = (bwF a0 L1 l2 id up).2.1 := ⟨_, rfl⟩
    obtain ⟨g2, hg2⟩ : ∃ g, g = (bwF a0 L1 l2 id up).2.2 := ⟨_, rfl⟩
    have hGS : Sized g1 g2 := by rw [hg1, hg2]; exact HSL.out.bw
    rw [← hg1, ← hg2] at hH4
    rw [← hg0, ← hg1, ← hg2]
    have HG0 := Aside0.mk hg0
    have HG1 := Aside0.mk hg1
    have HG2 := Aside0.mk hg2
    have HGS := Aside0.mk hGS
    have HH4 := Aside0.mk hH4
    have HB4 := Aside0.mk (below_then HB3.out HB3.out.size hB4)
    have hb4 := blk_below Hb3.out hB4
    have hs4 : w.heap.size + 1 ≤ w4.heap.size := Nat.le_trans hs3 hB4.size
    have hb5 : (w4.alloc (.cells #[.int .i64 g0, .slice W1 g1.length e1, .slice W2 g2.length e2] 29)).heap[w.heap.size]? = _ := blk_alloc hb4 _
    have a0' : (w4.alloc (.cells #[.int .i64 g0, .slice W1 g1.length e1, .slice W2 g2.length e2] 29)).cell? ⟨w.heap.size, 0, none⟩ = some (.int .i64 a0) := (blk_cell hb5 0).trans rfl
    have a1' : (w4.alloc (.cells #[.int .i64 g0, .slice W1 g1.length e1, .slice W2 g2.length e2] 29)).cell? ⟨w.heap.size, 1, none⟩ = some (.slice A1 l1.length c1) := (blk_cell hb5 1).trans rfl
    have a2' : (w4.alloc (.cells #[.int .i64 g0, .slice W1 g1.length e1, .slice W2 g2.length e2] 29)).cell? ⟨w.heap.size, 2, none⟩ = some (.slice A2 l2.length c2) := (blk_cell hb5 2).trans rfl
    have Hb5 := Aside0.mk hb5
    clear hg0 hg1 hg2 hGS hH4 hB4 hb4 hb5
    go_wp2_with fail
    clear a20 a21 a22 a0' a1' a2'
    obtain ⟨w5, hw5⟩ : ∃ w5, w5 = w4.alloc (.cells #[.int .i64 g0, .slice W1 g1.length e1, .slice W2 g2.length e2] 29) := ⟨_, rfl⟩
    have hw5b := Hb5.out
    have hbW := blk_new w4 (.cells #[.int .i64 g0, .slice W1 g1.length e1, .slice W2 g2.length e2] 29)
    have hB5 := below_alloc HB4.out (.cells #[.int .i64 g0, .slice W1 g1.length e1, .slice W2 g2.length e2] 29)
    have hH5 := HH4.out.below (below_alloc (Below.refl w4.heap.size w4) (.cells #[.int .i64 g0, .slice W1 g1.length e1, .slice W2 g2.length e2] 29))
    have hs5 : w5.heap.size = w4.heap.size + 1 := by rw [hw5]; simp
    rw [← hw5] at hw5b hbW hB5 hH5 ⊢
    clear hw5
    have HbA5 := Aside0.mk hw5b
    have HbW5 := Aside0.mk hbW
    have HB5 := Aside0.mk hB5
    have HW5 := Aside0.mk (hH5.bound)
    clear hw5b hbW hB5 hH5 Hb5 HH4 HH3
    refine (toBag.held a0 A1 c1 l1 A2 c2 l2 w5 (Kd.C_below H1.out HB5.out) HC1.out (Kd.C_below H2.out HB5.out) HC2.out HSUM.out).mono ?_
    rintro e w6 ⟨X1, f1, X2, f2, rfl, hH6, hB6⟩
    rw [← HL1.out] at hH6 ⊢
    have hbA6 := blk_below HbA5.out hB6
    have hbW6 := blk_below HbW5.out hB6
    have hbA7 : (w6.alloc (.cells #[.int .i64 a0, .slice X1 L1.length f1, .slice X2 l2.length f2] 29)).heap[w.heap.size]? = _ := blk_alloc hbA6 _
    have hbW7 : (w6.alloc (.cells #[.int .i64 a0, .slice X1 L1.length f1, .slice X2 l2.length f2] 29)).heap[w4.heap.size]? = _ := blk_alloc hbW6 _
    have hbX7 := blk_new w6 (.cells #[.int .i64 a0, .slice X1 L1.length f1, .slice X2 l2.length f2] 29)
    have hH7 := hH6.bound.below (below_alloc (Below.refl w6.heap.size w6) (.cells #[.int .i64 a0, .slice X1 L1.length f1, .slice X2 l2.length f2] 29))
    have hW7 := HW5.out.below (below_alloc hB6 (.cells #[.int .i64 a0, .slice X1 L1.length f1, .slice X2 l2.length f2] 29))
    have hB57 := below_alloc hB6 (.cells #[.int .i64 a0, .slice X1 L1.length f1, .slice X2 l2.length f2] 29)
    have hs6 := hB6.size
    have HbA7 := Aside0.mk hbA7
    have HbW7 := Aside0.mk hbW7
    have HbX7 := Aside0.mk hbX7
    have HH7 := Aside0.mk hH7
    have HW7 := Aside0.mk hW7
    have HB57 := Aside0.mk hB57
    have hX6 := hH6.bound
    have HX6 := Aside0.mk hX6
    clear hbA6 hbW6 hbA7 hbW7 hbX7 hH7 hW7 hB57 hB6 hH6 hX6
    go_wp2_with fail
    obtain ⟨w7, hw7⟩ : ∃ w7, w7 = w6.alloc (.cells #[.int .i64 a0, .slice X1 L1.length f1, .slice X2 l2.length f2] 29) := ⟨_, rfl⟩
    have hbA7 := HbA7.out
    have hbW7 := HbW7.out
    have hbX7 := HbX7.out
    have hH7 := HH7.out
    have hW7 := HW7.out
    have hB57 := HB57.out
    have hs7 : w7.heap.size = w6.heap.size + 1 := by rw [hw7]; simp
    rw [← hw7] at hbA7 hbW7 hbX7 hH7 hW7 hB57 ⊢
    clear hw7 HbA7 HbW7 HbX7 HH7 HW7 HB57
    have HbA7 := Aside0.mk hbA7
    have HbW7 := Aside0.mk hbW7
    have HbX7 := Aside0.mk hbX7
    have HX7 := Aside0.mk hH7
    have HW7 := Aside0.mk hW7
    have HB57 := Aside0.mk hB57
    clear hbA7 hbW7 hbX7 hH7 hW7 hB57
    refine (HX7.out.impl a0 id up HSL.out).mono ?_
    rintro e w8 ⟨G1, h1, G2, h2, rfl, hG8, hB8⟩
    rw [← HG0.out, ← HG1.out, ← HG2.out]
    rw [← HG1.out, ← HG2.out] at hG8
    have hbA8 : (w8.alloc (.cells #[.int .i64 g0, .slice G1 g1.length h1, .slice G2 g2.length h2] 29)).heap[w.heap.size]? = _ := blk_alloc (blk_below HbA7.out hB8) _
    have hbW8 : (w8.alloc (.cells #[.int .i64 g0, .slice G1 g1.length h1, .slice G2 g2.length h2] 29)).heap[w4.heap.size]? = _ := blk_alloc (blk_below HbW7.out hB8) _
    have hbX8 : (w8.alloc (.cells #[.int .i64 g0, .slice G1 g1.length h1, .slice G2 g2.length h2] 29)).heap[w6.heap.size]? = _ := blk_alloc (blk_below HbX7.out hB8) _
    have hbG8 := blk_new w8 (.cells #[.int .i64 g0, .slice G1 g1.length h1, .slice G2 g2.length h2] 29)
    have hBl := below_alloc hB8 (.cells #[.int .i64 g0, .slice G1 g1.length h1, .slice G2 g2.length h2] 29)
    have hGl := hG8.bound.below (below_alloc (Below.refl w8.heap.size w8) (.cells #[.int .i64 g0, .slice G1 g1.length h1, .slice G2 g2.length h2] 29))
    have hWl := HW7.out.below hBl
    have hXl := HX7.out.below hBl
    have hs8 := hB8.size
    obtain ⟨q0, q1, q2⟩ := cells3 hbW8
    have HbA9 := Aside0.mk hbA8
    have HbW9 := Aside0.mk hbW8
    have HbX9 := Aside0.mk hbX8
    have HbG9 := Aside0.mk hbG8
    have HG9 := Aside0.mk hGl
    have HW9 := Aside0.mk hWl
    have HX9 := Aside0.mk hXl
    have HB79 := Aside0.mk hBl
    clear hbA8 hbW8 hbX8 hbG8 hGl hWl hXl hBl hG8 hB8
    go_wp2_with fail
    clear q0 q1 q2
    obtain ⟨w9, hw9⟩ : ∃ w9, w9 = w8.alloc (.cells #[.int .i64 g0, .slice G1 g1.length h1, .slice G2 g2.length h2] 29) := ⟨_, rfl⟩
    have hbA9 := HbA9.out
    have hbW9 := HbW9.out
    have hbX9 := HbX9.out
    have hbG9 := HbG9.out
    have hG9 := HG9.out
    have hW9 := HW9.out
    have hX9 := HX9.out
    have hB79 := HB79.out
    have hs9 : w9.heap.size = w8.heap.size + 1 := by rw [hw9]; simp
    rw [← hw9] at hbA9 hbW9 hbX9 hbG9 hG9 hW9 hX9 hB79 ⊢
    clear hw9 HbA9 HbW9 HbX9 HbG9 HG9 HW9 HX9 HB79
    refine (Held.eq g0 hG9 hW9 HGS.out).mono ?_
    rintro e w10 ⟨rfl, hB⟩
    have hbA10 := blk_below hbA9 hB
    have hbX10 := blk_below hbX9 hB
    have HbA10 := Aside0.mk hbA10
    have HbW10 := Aside0.mk (blk_below hbW9 hB)
    have HbX10 := Aside0.mk hbX10
    have HbG10 := Aside0.mk (blk_below hbG9 hB)
    have HG10 := Aside0.mk (hG9.below hB)
    have HW10 := Aside0.mk (hW9.below hB)
    have HX10 := Aside0.mk (hX9.below hB)
    have HB710 := Aside0.mk (below_then hB79 hB79.size hB)
    have hs10 := hB.size
    obtain ⟨q0, q1, q2⟩ := cells3 hbX10
    obtain ⟨p0, p1, p2⟩ := cells3 hbA10
    clear hbA9 hbW9 hbX9 hbG9 hG9 hW9 hX9 hB79 hB hbA10 hbX10
    go_wp2_with fail
    have HBw10 := Aside0.mk (below_then (below_then HB5.out (show w.heap.size ≤ w5.heap.size by omega) HB57.out) (show w.heap.size ≤ w7.heap.size by omega) HB710.out)
    go_region_with (first | (go_at_call 9; refine (toBag.held a0 A1 c1 l1 A2 c2 l2 _ (Kd.C_below H1.out (HBw10.out.drew)) HC1.out (Kd.C_below H2.out (HBw10.out.drew)) HC2.out HSUM.out).mono ?_; rintro e w11 ⟨Y1, y1, Y2, y2, rfl, hY11, hB11⟩; rw [← HL1.out] at hY11 ⊢; obtain ⟨q0', q1', q2'⟩ := cells3 (blk_below (w := w10.drew) HbX10.out hB11); have HB11 := Aside0.mk hB11; have HY11 := Aside0.mk hY11; clear hB11 hY11) | (go_at_call 11; refine (Held.eq a0 (HX10.out.below (below_of_drew HB11.out)) HY11.out HSL.out).mono ?_; rintro e w12 ⟨rfl, hB12⟩; have HB12 := Aside0.mk hB12; clear hB12))
    all_goals
      clear q0' q1' q2' q0 q1 q2 p0 p1 p2
      have hB1012 := below_then (below_of_drew HB11.out) (below_of_drew HB11.out).size HB12.out
      have hs12 := hB1012.size
      have hbX12 := blk_below HbX10.out hB1012
      have HbA12 := Aside0.mk (blk_below HbA10.out hB1012)
      have HbW12 := Aside0.mk (blk_below HbW10.out hB1012)
      have HbX12 := Aside0.mk hbX12
      have HbG12 := Aside0.mk (blk_below HbG10.out hB1012)
      have HG12 := Aside0.mk (HG10.out.below hB1012)
      have HW12 := Aside0.mk (HW10.out.below hB1012)
      have HX12 := Aside0.mk (HX10.out.below hB1012)
      have HB712 := Aside0.mk (below_then HB710.out HB710.out.size hB1012)
      have HB512 := Aside0.mk (below_then HB57.out HB57.out.size HB712.out)
      obtain ⟨q0, q1, q2⟩ := cells3 hbX12
      clear hB1012 hbX12 HB11 HB12 HY11 HbA10 HbW10 HbX10 HbG10 HG10 HW10 HX10 HB710
      go_wp2_with fail
      refine (HX12.out.mark a0 HB512.out HSL.out).mono ?_
      rintro e w13 ⟨rfl, hX13, hB13, hK13⟩
      have hneg : ¬ ((1 : Int) + (tot L1 : Int) + (l2.length : Int) < 0) := by omega
      have hbA13 : w13.heap[w.heap.size]? = _ := (hK13.2 w.heap.size (by omega) (by omega)).trans HbA12.out
      have hbW13 : w13.heap[w4.heap.size]? = _ := (hK13.2 w4.heap.size (by omega) (by omega)).trans HbW12.out
      have hbX13 : w13.heap[w6.heap.size]? = _ := (hK13.2 w6.heap.size (by omega) (by omega)).trans HbX12.out
      have hbG13 : w13.heap[w8.heap.size]? = _ := (hK13.2 w8.heap.size (by omega) (by omega)).trans HbG12.out
      have HG13 := Aside0.mk (HG12.out.kept hK13 (fun k h1 h2 => by omega))
      have HW13 := Aside0.mk (HW12.out.kept hK13 (fun k h1 h2 => by omega))
      have hs13 := hK13.1
      have HB513 := Aside0.mk hB13
      have HbA13 := Aside0.mk hbA13
      have HbW13 := Aside0.mk hbW13
      have HbG13 := Aside0.mk hbG13
      obtain ⟨q0', q1', q2'⟩ := cells3 hbG13
      obtain ⟨p0', p1', p2'⟩ := cells3 hbW13
      clear hX13 hB13 hK13 hbA13 hbW13 hbX13 hbG13 HbA12 HbW12 HbX12 HbG12 HG12 HW12 HX12 HB512 q0 q1 q2
      go_wp2_with fail
      refine (Held.eq g0 HG13.out HW13.out HGS.out).mono ?_
      rintro e w14 ⟨rfl, hB14⟩
      have hbG14 := blk_below HbG13.out hB14
      have hs14 := hB14.size
      have HbA14 := Aside0.mk (blk_below HbA13.out hB14)
      have HbW14 := Aside0.mk (blk_below HbW13.out hB14)
      have HbG14 := Aside0.mk hbG14
      have HG14 := Aside0.mk (HG13.out.below hB14)
      have HW14 := Aside0.mk (HW13.out.below hB14)
      have HB514 := Aside0.mk (below_then HB513.out (show w5.heap.size ≤ w13.heap.size by omega) hB14)
      clear q0' q1' q2' p0' p1' p2'
      obtain ⟨q0, q1, q2⟩ := cells3 hbG14
      clear hB14 hbG14 HbA13 HbW13 HbG13 HG13 HW13 HB513
      go_wp2_with fail
      refine ((HG14.out.lower (show w5.heap.size ≤ w7.heap.size by omega)).mark g0 HB514.out HGS.out).mono ?_
      rintro e w15 ⟨rfl, hG15, hB15, hK15⟩
      have hneg2 : ¬ ((1 : Int) + (tot g1 : Int) + (g2.length : Int) < 0) := by omega
      have hbA15 : w15.heap[w.heap.size]? = _ := (hK15.2 w.heap.size (by omega) (by omega)).trans HbA14.out
      have hbW15 : w15.heap[w4.heap.size]? = _ := (hK15.2 w4.heap.size (by omega) (by omega)).trans HbW14.out
      have hbG15 : w15.heap[w8.heap.size]? = _ := (hK15.2 w8.heap.size (by omega) (by omega)).trans HbG14.out
      have hs15 := hK15.1
      have HW15 := Aside0.mk (HW14.out.kept hK15 (fun k h1 h2 => by omega))
      have HG15 := Aside0.mk hG15
      have HB515 := Aside0.mk hB15
      have HbA15 := Aside0.mk hbA15
      have HbW15 := Aside0.mk hbW15
      have HbG15 := Aside0.mk hbG15
      clear q0 q1 q2
      obtain ⟨q0, q1, q2⟩ := cells3 hbG15
      clear hG15 hB15 hK15 hbA15 hbW15 hbG15 HbA14 HbW14 HbG14 HG14 HW14 HB514
      go_wp2_with fail
      refine (HG15.out.held g0 HGS.out).mono ?_
      rintro e w16 ⟨rfl, hB16⟩
      have hs16 := hB16.size
      have hbA16 := blk_below HbA15.out hB16
      have HbA16 := Aside0.mk hbA16
      have HbW16 := Aside0.mk (blk_below HbW15.out hB16)
      have HbG16 := Aside0.mk (blk_below HbG15.out hB16)
      have HG16 := Aside0.mk (HG15.out.below hB16)
      have HW16 := Aside0.mk (HW15.out.below hB16)
      have HB516 := Aside0.mk (below_then HB515.out (show w5.heap.size ≤ w15.heap.size by omega) hB16)
      have HBw16 := Aside0.mk (below_then HB5.out (show w.heap.size ≤ w5.heap.size by omega) HB516.out)
      clear q0 q1 q2
      obtain ⟨q0, q1, q2⟩ := cells3 hbA16
      clear hB16 hbA16 HbA15 HbW15 HbG15 HG15 HW15 HB515
      go_wp2_with fail
      refine (toBag.held a0 A1 c1 l1 A2 c2 l2 w16 (Kd.C_below H1.out HBw16.out) HC1.out (Kd.C_below H2.out HBw16.out) HC2.out HSUM.out).mono ?_
      rintro e w17 ⟨Z1, z1, Z2, z2, rfl, hZ17, hB17⟩
      rw [← HL1.out] at hZ17 ⊢
      have HZ17 := Aside0.mk hZ17
      have HB17 := Aside0.mk hB17
      clear hZ17 hB17
      go_wp2_with fail
      refine (HZ17.out.impl a0 id up HSL.out).mono ?_
      rintro e w18 ⟨V1, v1, V2, v2, rfl, hV18, hB18⟩
      rw [← HG0.out, ← HG1.out, ← HG2.out]
      rw [← HG1.out, ← HG2.out] at hV18
      have hB1618 := below_then HB17.out HB17.out.size hB18
      have hB1619 := below_alloc hB1618 (.cells #[.int .i64 g0, .slice V1 g1.length v1, .slice V2 g2.length v2] 29)
      have hbW19 : (w18.alloc (.cells #[.int .i64 g0, .slice V1 g1.length v1, .slice V2 g2.length v2] 29)).heap[w4.heap.size]? = _ := blk_alloc (blk_below HbW16.out hB1618) _
      have hbG19 : (w18.alloc (.cells #[.int .i64 g0, .slice V1 g1.length v1, .slice V2 g2.length v2] 29)).heap[w8.heap.size]? = _ := blk_alloc (blk_below HbG16.out hB1618) _
      have HV19 := Aside0.mk (hV18.below (below_alloc (Below.refl w18.heap.size w18) (.cells #[.int .i64 g0, .slice V1 g1.length v1, .slice V2 g2.length v2] 29)))
      have HW19 := Aside0.mk (HW16.out.below hB1619)
      have HG19 := Aside0.mk (HG16.out.below hB1619)
      have HBw19 := Aside0.mk (below_then HBw16.out HBw16.out.size hB1619)
      clear q0 q1 q2
      obtain ⟨q0, q1, q2⟩ := cells3 hbW19
      have HbG19 := Aside0.mk hbG19
      clear hB1618 hB1619 hbW19 hbG19 hV18 hB18
      go_wp2_with fail
      refine (Held.eq g0 HV19.out HW19.out HGS.out).mono ?_
      rintro e w20 ⟨rfl, hB20⟩
      clear q0 q1 q2
      obtain ⟨q0, q1, q2⟩ := cells3 (blk_below HbG19.out hB20)
      have HG20 := Aside0.mk (HG19.out.below hB20)
      have HBw20 := Aside0.mk (below_then HBw19.out HBw19.out.size hB20)
      clear hB20
      go_wp2_with fail
      refine (HG20.out.held g0 HGS.out).mono ?_
      rintro e w21 ⟨rfl, hB21⟩
      have HBw21 := Aside0.mk (below_then HBw20.out HBw20.out.size hB21)
      clear hB21
      go_wp2_with fail
      go_ret
      exact ⟨rfl, HBw21.out⟩
end Go.Proofs.Ytppegigcclflbaa.PFnExactBagWall
