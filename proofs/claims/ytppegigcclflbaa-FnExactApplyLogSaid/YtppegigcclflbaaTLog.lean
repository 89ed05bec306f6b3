/- The law FnExactApplyLog, walked. -/
import Derived.Test.YtppegigcclflbaaTLogI
import Derived.Test.YtppegigcclflbaaTMark
import Derived.Test.YtppegigcclflbaaTEq
set_option linter.unusedSimpArgs false
namespace Go.Proofs.Ytppegigcclflbaa.PFnExactApplyCmd
open Go.RowKit Go.Proofs.YtppegigcclflbaaW.PrintWords Go.Proofs.YtppegigcclflbaaW.PrintLast Go.Proofs.YtppegigcclflbaaW.PrintMore
open Go.Proofs.Ytppegigcclflbaa.PStr

theorem R_cap {α : Type} {d : Kd α} {e base : Nat} {ok : Nat → Prop} {w : World} {A : Option Addr} {n c : Nat} {xs : List α} (h : d.R e w base ok (.slice A n c) xs) : c ≤ 9223372036854775807 := by
  obtain ⟨inner, hown⟩ := Kd.R_own h
  rcases hown.2 with ⟨h', _⟩ | ⟨g, cap, cur, h', _, _, _, hm, _⟩
  · injection h' with _ _ h3
    omega
  · injection h' with _ _ h3
    unfold maxLen at hm
    omega
/-- A copy of the log that was handed in. -/
theorem toE.calls (A : Option Addr) (c : Nat) (L : List S100) (w : World) (hr : Kd.C k100 w A L.length L) (hc : L.length ≤ c) (hl : L.length ≤ 1100000) (M : List S103) (hM : M = L.map cvE) :
    Calls Try.prog 16 #[.slice A L.length c] w fun e w' => ∃ B d, e = .returned (.slice B M.length d) ∧ Kd.R k103 103 w' w.heap.size (fun _ => True) (.slice B M.length d) M ∧ Below w.heap.size w w' := by
  refine (laws_toEntryS.calls 3000000 A c L _ w hr hc (toE_f hl (by omega))).mono ?_
  rintro e w' ⟨v, rfl, hR, hB⟩
  rw [← hM] at hR
  obtain ⟨B, d, rfl⟩ := Kd.R_slice hR
  exact ⟨B, d, rfl, hR, hB⟩

set_option maxHeartbeats 12800000 in
set_option maxRecDepth 100000 in
theorem lawLog.calls (A : Option Addr) (c : Nat) (L : List S100) (upto : Int) (w : World) (hr : Kd.C k100 w A L.length L) (hc : L.length ≤ c) (hstr : ∀ e ∈ L, Str e) :
    Calls Try.prog 4 #[.slice A L.length c, .int .i64 upto] w fun e w' => e = .returned (.bool true) ∧ Below w.heap.size w w' := by
  obtain ⟨r, hsz, hszb⟩ := szE_f (k := 3000000) (L := L) (Kd.C_max hr) (by omega) hstr
  have HC0 : Aside0 (∀ W : World, Below w.heap.size w W → Kd.C k100 W A L.length L) := ⟨fun W hW => Kd.C_below hr hW⟩
  have H1 := Aside0.mk hr
  have HC := Aside0.mk hc
  have HSZ := Aside0.mk hsz
  have HSZB := Aside0.mk hszb
  clear hr hc hstr hsz hszb
  go_enter Try.func4, Try.ntmps4
  go_wp2_with fail
  refine (laws_szEntryS.calls 3000000 A c L 1048576 r w H1.out HC.out HSZ.out).mono ?_
  rintro e w1 ⟨rfl, hB1⟩
  have HB1 := Aside0.mk hB1
  clear hB1
  by_cases hr : r < 0
  · go_wp2_with fail
    go_ret
    exact ⟨rfl, HB1.out⟩
  · obtain ⟨hl, hsm⟩ := HSZB.out (by omega)
    obtain ⟨M, hM⟩ : ∃ M, M = L.map cvE := ⟨_, rfl⟩
    have hfit : Fits M := by rw [hM]; exact fits_cv hsm
    have hML : M.length ≤ 1048576 := by rw [hM, List.length_map]; exact hl
    obtain ⟨P, hP⟩ : ∃ P, P = (logF M upto).1 := ⟨_, rfl⟩
    obtain ⟨S, hS⟩ : ∃ S, S = (logF M upto).2 := ⟨_, rfl⟩
    have hSZ : SizedT P S := by rw [hP, hS]; exact (logF_ok M upto).sized
    have HL := Aside0.mk hl
    have HML := Aside0.mk hML
    have HM := Aside0.mk hM
    have HFIT := Aside0.mk hfit
    have HP := Aside0.mk hP
    have HS := Aside0.mk hS
    have HT := Aside0.mk hSZ
    clear hl hsm hM hfit hML hP hS hSZ
    go_wp2_with fail
    refine (toE.calls A c L w1 (HC0.out _ HB1.out) HC.out (by have := HL.out; omega) M HM.out).mono ?_
    rintro e w2 ⟨A1, d1, rfl, hR2, hB2⟩
    have HR2 := Aside0.mk hR2
    have HB2 := Aside0.mk (below_then HB1.out HB1.out.size hB2)
    clear hR2 hB2
    go_wp2_with fail
    refine (spec_ApplyLog.calls A1 d1 M upto w2 (Kd.R_reads' HR2.out).2.2 (Kd.R_reads' HR2.out).2.1 HFIT.out).mono ?_
    rintro e w3 ⟨B1, e1, B2, e2, rfl, hH3, hB3⟩
    rw [← HP.out, ← HS.out] at hH3 ⊢
    have hH4 := (hH3.bound).below (below_alloc (Below.refl w3.heap.size w3) (.cells #[.slice B1 P.length e1, .slice B2 S.length e2] 40))
    have hb6 := blk_new w3 (.cells #[.slice B1 P.length e1, .slice B2 S.length e2] 40)
    have hB4 := below_alloc (below_then HB2.out HB2.out.size hB3) (.cells #[.slice B1 P.length e1, .slice B2 S.length e2] 40)
    have hz4 : (w3.alloc (.cells #[.slice B1 P.length e1, .slice B2 S.length e2] 40)).heap.size = w3.heap.size + 1 := by simp
    have hz3 := hB3.size
    have HH4 := Aside0.mk hH4
    have Hb6 := Aside0.mk hb6
    have HB4 := Aside0.mk hB4
    clear hH3 hH4 hb6 hB4 hB3 HR2
    go_wp2_with fail
    obtain ⟨w4, hw4⟩ : ∃ w4, w4 = w3.alloc (.cells #[.slice B1 P.length e1, .slice B2 S.length e2] 40) := ⟨_, rfl⟩
    rw [← hw4] at HH4 Hb6 HB4 hz4 ⊢
    clear hw4
    refine (toE.calls A c L w4 (HC0.out _ HB4.out) HC.out (by have := HL.out; omega) M HM.out).mono ?_
    rintro e w5 ⟨X, dx, rfl, hR5, hB5⟩
    have HR5 := Aside0.mk (Kd.R_mono (Kd.R_bound hR5) (ok' := fun k => w4.heap.size ≤ k ∧ k < w5.heap.size) (fun _ hk => ⟨hk.2.1, hk.2.2.1⟩))
    have HH5 := Aside0.mk (HH4.out.below hB5)
    have Hb65 := Aside0.mk (blk_below Hb6.out hB5)
    have HB45 := Aside0.mk hB5
    have hz5 := hB5.size
    clear hR5 hB5 HH4 Hb6
    go_wp2_with fail
    refine (impl_ApplyLog.calls X dx M upto w5 (Kd.R_reads' HR5.out).2.2 (Kd.R_reads' HR5.out).2.1 (R_cap HR5.out)).mono ?_
    rintro e w6 ⟨G1, g1, G2, g2, rfl, hG6, hB6⟩
    rw [← HP.out, ← HS.out] at hG6 ⊢
    have hz6 := hB6.size
    have hA := below_alloc (Below.refl w6.heap.size w6) (.cells #[.slice G1 P.length g1, .slice G2 S.length g2] 40)
    have hB57 := below_alloc hB6 (.cells #[.slice G1 P.length g1, .slice G2 S.length g2] 40)
    have hG7 := (hG6.bound).below hA
    have hb8 := blk_new w6 (.cells #[.slice G1 P.length g1, .slice G2 S.length g2] 40)
    have hz7 : (w6.alloc (.cells #[.slice G1 P.length g1, .slice G2 S.length g2] 40)).heap.size = w6.heap.size + 1 := by simp
    have HG7 := Aside0.mk hG7
    have HX7 := Aside0.mk (Kd.R_below HR5.out hB57)
    have HW7 := Aside0.mk (HH5.out.below hB57)
    have Hb67 := Aside0.mk (blk_below Hb65.out hB57)
    have Hb87 := Aside0.mk hb8
    have HB47 := Aside0.mk (below_then HB45.out HB45.out.size hB57)
    obtain ⟨q0, q1⟩ := cells2 hb8
    obtain ⟨p0, p1⟩ := cells2 (blk_below Hb65.out hB57)
    clear hG6 hB6 hA hB57 hG7 hb8 HR5 HH5 Hb65 HB45
    go_wp2_with fail
    obtain ⟨w7, hw7⟩ : ∃ w7, w7 = w6.alloc (.cells #[.slice G1 P.length g1, .slice G2 S.length g2] 40) := ⟨_, rfl⟩
    rw [← hw7] at HG7 HX7 HW7 Hb67 Hb87 HB47 hz7 ⊢
    clear q0 q1 p0 p1 hw7
    refine (HG7.out.eq HW7.out HT.out).mono ?_
    rintro e w8 ⟨rfl, hB8⟩
    have hz8 := hB8.size
    have HG8 := Aside0.mk (HG7.out.below hB8)
    have HX8 := Aside0.mk (Kd.R_below HX7.out hB8)
    have HW8 := Aside0.mk (HW7.out.below hB8)
    have Hb68 := Aside0.mk (blk_below Hb67.out hB8)
    have Hb88 := Aside0.mk (blk_below Hb87.out hB8)
    have HB48 := Aside0.mk (below_then HB47.out HB47.out.size hB8)
    clear hB8 HG7 HX7 HW7 Hb67 Hb87 HB47
    go_wp2_with fail
    refine (toE.calls A c L w8 (HC0.out _ (below_then HB4.out HB4.out.size HB48.out)) HC.out (by have := HL.out; omega) M HM.out).mono ?_
    rintro e w9 ⟨Y, dy, rfl, hY9, hB9⟩
    have hz9 := hB9.size
    have HY9 := Aside0.mk hY9
    have HG9 := Aside0.mk (HG8.out.below hB9)
    have HX9 := Aside0.mk (Kd.R_below HX8.out hB9)
    have HW9 := Aside0.mk (HW8.out.below hB9)
    have Hb69 := Aside0.mk (blk_below Hb68.out hB9)
    have Hb89 := Aside0.mk (blk_below Hb88.out hB9)
    have HB49 := Aside0.mk (below_then HB48.out HB48.out.size hB9)
    clear hB9 hY9 HG8 HX8 HW8 Hb68 Hb88 HB48
    go_wp2_with fail
    refine (eqEntryS_same.calls X Y dx dy M w9 (Kd.R_reads' HX9.out).2.2 (Kd.R_reads' HY9.out).2.2).mono ?_
    rintro e w10 ⟨rfl, hB10⟩
    have hz10 := hB10.size
    have HG10 := Aside0.mk (HG9.out.below hB10)
    have HX10 := Aside0.mk (Kd.R_below HX9.out hB10)
    have HW10 := Aside0.mk (HW9.out.below hB10)
    have Hb610 := Aside0.mk (blk_below Hb69.out hB10)
    have Hb810 := Aside0.mk (blk_below Hb89.out hB10)
    have HB410 := Aside0.mk (below_then HB49.out HB49.out.size hB10)
    clear hB10 HY9 HG9 HX9 HW9 Hb69 Hb89 HB49
    go_wp2_with fail
    refine (markEntryS.calls w4 w10 X dx M.length _ M rfl HX10.out HB410.out 1 (by omega) (by have := HML.out; omega)).mono ?_
    rintro e w11 ⟨rfl, hB11, hK11⟩
    have hz11 := hK11.1
    have hb611 : w11.heap[w3.heap.size]? = _ := (hK11.2 w3.heap.size (by omega) (by omega)).trans Hb610.out
    have hb811 : w11.heap[w6.heap.size]? = _ := (hK11.2 w6.heap.size (by omega) (by omega)).trans Hb810.out
    have HG11 := Aside0.mk (HG10.out.kept hK11 (fun k h1 h2 => by omega))
    have HW11 := Aside0.mk (HW10.out.kept hK11 (fun k h1 h2 => by omega))
    have Hb611 := Aside0.mk hb611
    have Hb811 := Aside0.mk hb811
    have HB411 := Aside0.mk hB11
    obtain ⟨q0, q1⟩ := cells2 hb811
    obtain ⟨p0, p1⟩ := cells2 hb611
    have hneg1 : ¬ ((1 : Int) + 7 * (M.length : Int) < 0) := by omega
    clear hB11 hK11 hb611 hb811 HX10 HG10 HW10 Hb610 Hb810 HB410
    go_wp2_with fail
    clear q0 q1 p0 p1
    refine (HG11.out.eq HW11.out HT.out).mono ?_
    rintro e w12 ⟨rfl, hB12⟩
    have hz12 := hB12.size
    have hb812 := blk_below Hb811.out hB12
    have HG12 := Aside0.mk (HG11.out.below hB12)
    have HW12 := Aside0.mk (HW11.out.below hB12)
    have Hb612 := Aside0.mk (blk_below Hb611.out hB12)
    have Hb812 := Aside0.mk hb812
    have HB412 := Aside0.mk (below_then HB411.out HB411.out.size hB12)
    obtain ⟨q0, q1⟩ := cells2 hb812
    clear hB12 hb812 HG11 HW11 Hb611 Hb811 HB411
    go_wp2_with fail
    clear q0 q1
    refine ((HG12.out.lower (show w4.heap.size ≤ w5.heap.size by omega)).mark HB412.out HT.out).mono ?_
    rintro e w13 ⟨rfl, hG13, hB13, hK13⟩
    have hz13 := hK13.1
    have hneg2 : ¬ ((1 : Int) + 2 * (P.length : Int) + 4 * (S.length : Int) < 0) := by omega
    have hb613 : w13.heap[w3.heap.size]? = _ := (hK13.2 w3.heap.size (by omega) (by omega)).trans Hb612.out
    have hb813 : w13.heap[w6.heap.size]? = _ := (hK13.2 w6.heap.size (by omega) (by omega)).trans Hb812.out
    have HW13 := Aside0.mk (HW12.out.kept hK13 (fun k h1 h2 => by omega))
    have HG13 := Aside0.mk hG13
    have Hb613 := Aside0.mk hb613
    have Hb813 := Aside0.mk hb813
    have HB413 := Aside0.mk hB13
    obtain ⟨q0, q1⟩ := cells2 hb813
    clear hG13 hB13 hK13 hb613 hb813 HG12 HW12 Hb612 Hb812 HB412
    go_wp2_with fail
    clear q0 q1
    refine (HG13.out.held HT.out).mono ?_
    rintro e w14 ⟨rfl, hB14⟩
    have HG14 := Aside0.mk (HG13.out.below hB14)
    have HW14 := Aside0.mk (HW13.out.below hB14)
    have Hb614 := Aside0.mk (blk_below Hb613.out hB14)
    have Hb814 := Aside0.mk (blk_below Hb813.out hB14)
    have HB414 := Aside0.mk (below_then HB413.out HB413.out.size hB14)
    clear hB14 HG13 HW13 Hb613 Hb813 HB413
    go_wp2_with fail
    refine (toE.calls A c L w14 (HC0.out _ (below_then HB4.out HB4.out.size HB414.out)) HC.out (by have := HL.out; omega) M HM.out).mono ?_
    rintro e w15 ⟨Z, dz, rfl, hZ15, hB15⟩
    have HZ15 := Aside0.mk hZ15
    have HB15 := Aside0.mk hB15
    clear hZ15 hB15
    go_wp2_with fail
    refine (impl_ApplyLog.calls Z dz M upto w15 (Kd.R_reads' HZ15.out).2.2 (Kd.R_reads' HZ15.out).2.1 (R_cap HZ15.out)).mono ?_
    rintro e w16 ⟨V1, v1, V2, v2, rfl, hV16, hB16⟩
    rw [← HP.out, ← HS.out] at hV16 ⊢
    have hB17 := below_alloc (below_then HB15.out HB15.out.size hB16) (.cells #[.slice V1 P.length v1, .slice V2 S.length v2] 40)
    have hV17 := hV16.below (below_alloc (Below.refl w16.heap.size w16) (.cells #[.slice V1 P.length v1, .slice V2 S.length v2] 40))
    have hb617 := blk_below Hb614.out hB17
    have hb817 := blk_below Hb814.out hB17
    have HG17 := Aside0.mk (HG14.out.below hB17)
    have HW17 := Aside0.mk (HW14.out.below hB17)
    have HV17 := Aside0.mk hV17
    have Hb817 := Aside0.mk hb817
    have HB417 := Aside0.mk (below_then HB414.out HB414.out.size hB17)
    obtain ⟨p0, p1⟩ := cells2 hb617
    clear hV16 hB16 hB17 hV17 hb617 hb817 HG14 HW14 Hb614 Hb814 HB414 HZ15 HB15
    go_wp2_with fail
    clear p0 p1
    refine (HV17.out.eq HW17.out HT.out).mono ?_
    rintro e w18 ⟨rfl, hB18⟩
    obtain ⟨q0, q1⟩ := cells2 (blk_below Hb817.out hB18)
    have HG18 := Aside0.mk (HG17.out.below hB18)
    have HB418 := Aside0.mk (below_then HB417.out HB417.out.size hB18)
    clear hB18 HG17 HW17 HV17 Hb817 HB417
    go_wp2_with fail
    refine (HG18.out.held HT.out).mono ?_
    rintro e w19 ⟨rfl, hB19⟩
    have HB419 := Aside0.mk (below_then HB418.out HB418.out.size hB19)
    clear hB19
    go_wp2_with fail
    go_ret
    exact ⟨rfl, below_then HB4.out HB4.out.size HB419.out⟩
end Go.Proofs.Ytppegigcclflbaa.PFnExactApplyCmd
