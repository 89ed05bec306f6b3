/- laws.eqTable and laws.eqApplyAnswer at arguments that hold the same. -/
import Derived.Test.YtppegigcclflbaaTLawP
import Derived.Test.YtppegigcclflbaaRG
set_option linter.unusedSimpArgs false
namespace Go.Proofs.Ytppegigcclflbaa.PFnExactApplyCmd
open Go.RowKit Go.Proofs.YtppegigcclflbaaW.PrintWords Go.Proofs.YtppegigcclflbaaW.PrintLast Go.Proofs.YtppegigcclflbaaW.PrintMore
open Go.Proofs.Ytppegigcclflbaa.PStr

set_option maxHeartbeats 3200000 in
set_option maxRecDepth 100000 in
theorem eq114_same.calls (x0 x1 : ByteArray) (w : World) : Calls Try.prog 114 #[.agg #[.string x0, .string x1], .agg #[.string x0, .string x1]] w fun e w' => e = .returned (.bool true) ∧ Below w.heap.size w w' := by
  go_enter Try.func114, Try.ntmps114
  go_wp2_with fail
  go_ret
  exact ⟨rfl, below_alloc (below_alloc (Below.refl _ _) _) _⟩
set_option maxHeartbeats 6400000 in
set_option maxRecDepth 100000 in
theorem eq66_same.calls (A B : Option Addr) (c d : Nat) (L : List S157) (w : World) (ha : Kd.C k157 w A L.length L) (hb : Kd.C k157 w B L.length L) :
    Calls Try.prog 66 #[.slice A L.length c, .slice B L.length d] w fun e w' => e = .returned (.bool true) ∧ Below w.heap.size w w' := by
  have HA := Aside0.mk ha
  have HB := Aside0.mk hb
  have HM := Aside0.mk (Kd.C_max ha)
  clear ha hb
  go_enter Try.func66, Try.ntmps66
  go_wp2_with fail
  go_loopg [5] L.length (fun k i wr => ∃ j : Nat, j + k = L.length ∧ i = .int .i64 j ∧ Below w.heap.size w wr)
  case atStart => exact ⟨0, by omega, rfl, Below.refl _ _⟩
  case round =>
    obtain ⟨j, hjk, rfl, hBw⟩ := hrel
    by_cases hlt : j < L.length
    · obtain ⟨ad, rfl, h0, h1⟩ := at_T157 HA.out (j : Int) (by omega) (by omega)
      obtain ⟨bd, rfl, g0, g1⟩ := at_T157 HB.out (j : Int) (by omega) (by omega)
      obtain ⟨p, hpe⟩ : ∃ p, p = L[j] := ⟨_, rfl⟩
      rw [rd157_at hlt, ← hpe] at h0  h1  g0  g1
      simp only [Int.toNat_natCast] at h0  h1  g0  g1
      have hBd := below_drew1 hBw
      replace h0 := pw_cell_below hBd h0
      replace h1 := pw_cell_below hBd h1
      replace g0 := pw_cell_below hBd g0
      replace g1 := pw_cell_below hBd g1
      have hj0 : (0 : Int) ≤ (j : Int) := by omega
      have hj1 : (j : Int) < (L.length : Int) := by omega
      have HBd := Aside0.mk hBd
      have HJK := Aside0.mk hjk
      have hjb : (j : Int) ≤ 9223372036854775806 := by have := HM.out; omega
      clear hpe hjk hBw hBd
      go_wp2_with fail
      refine RG.rs 10 (fun w' => w'.cell? (ad.add (j * 2)) = some (.string p.f0) ∧ w'.cell? ⟨(ad.add (j * 2)).block, (ad.add (j * 2)).off + 1, none⟩ = some (.string p.f1) ∧ w'.cell? (bd.add (j * 2)) = some (.string p.f0) ∧ w'.cell? ⟨(bd.add (j * 2)).block, (bd.add (j * 2)).off + 1, none⟩ = some (.string p.f1)) [8] (by kernel_rfl) rfl ⟨h0, h1, g0, g1⟩ (fun hHeld => ?_)
      generalize wr.drew = wd at HBd hHeld ⊢
      clear h0  h1  g0  g1
      refine RG.rp (v := ?_) (a' := ?_) 0 17 rfl rfl (by kernel_rfl) (fun _ _ _ h => h) (by rfl) ?_ ?_ ?_; rotate_left 2; (intro w'; go_simp; with_reducible rfl); (go_simp; rfl)
      refine RG.rp (v := ?_) (a' := ?_) 1 18 rfl rfl (by kernel_rfl) (fun _ _ _ h => h) (by rfl) ?_ ?_ ?_; rotate_left 2; (intro w'; go_simp; with_reducible rfl); (go_simp; rfl)
      refine RG.rp (v := ?_) (a' := ?_) 2 19 rfl rfl (by kernel_rfl) (fun _ _ _ h => h) (by rfl) ?_ ?_ ?_; rotate_left 2; (intro w'; go_simp; with_reducible rfl); (go_simp; rfl)
      refine RG.rt (v := ?_) (a' := ?_) 3 20 rfl rfl (by kernel_rfl) (fun _ _ _ h => h) (by rfl) ?_ hHeld ?_ ?_; rotate_left 2; (rintro w' ⟨s0, s1, s2, s3⟩; go_simp; with_reducible rfl); (go_simp; rfl)
      refine RG.rp (v := ?_) (a' := ?_) 4 21 rfl rfl (by kernel_rfl) (fun _ _ _ h => h) (by rfl) ?_ ?_ ?_; rotate_left 2; (intro w'; go_simp; with_reducible rfl); (go_simp; rfl)
      refine RG.rp (v := ?_) (a' := ?_) 5 22 rfl rfl (by kernel_rfl) (fun _ _ _ h => h) (by rfl) ?_ ?_ ?_; rotate_left 2; (intro w'; go_simp; with_reducible rfl); (go_simp; rfl)
      refine RG.rp (v := ?_) (a' := ?_) 6 23 rfl rfl (by kernel_rfl) (fun _ _ _ h => h) (by rfl) ?_ ?_ ?_; rotate_left 2; (intro w'; go_simp; with_reducible rfl); (go_simp; rfl)
      refine RG.rt (v := ?_) (a' := ?_) 7 24 rfl rfl (by kernel_rfl) (fun _ _ _ h => h) (by rfl) ?_ hHeld ?_ ?_; rotate_left 2; (rintro w' ⟨s0, s1, s2, s3⟩; go_simp; with_reducible rfl); (go_simp; rfl)
      refine RG.rl 8 (some 25) rfl rfl (by kernel_rfl) (by decide) (fun K hK => ?_)
      refine goes_ Try.func114 (by kernel_rfl) rfl #[.agg #[.string p.f0, .string p.f1], .agg #[.string p.f0, .string p.f1]] (by rfl) rfl rfl (by simp only [List.map_toArray, List.map_cons, List.map_nil]; rfl) ?_
      refine (eq114_same.calls p.f0 p.f1 wd).mono ?_
      rintro e w5 ⟨rfl, hB5⟩
      have HB5 := Aside0.mk (below_then HBd.out HBd.out.size hB5)
      refine ⟨_, rfl, hK.out _ _ ?_⟩
      clear hB5
      clear hK K
      refine norm_ (a' := ?_) ?_ ?_; rotate_left; (show Act.put _ (some 25) _ = _; go_simp; rfl)
      refine RG.rp (v := ?_) (a' := ?_) 9 26 rfl rfl (by kernel_rfl) (fun _ _ _ h => h) (by rfl) ?_ ?_ ?_; rotate_left 2; (intro w'; go_simp; with_reducible rfl); (go_simp; rfl)
      refine done_ (by kernel_rfl) ?_
      go_wp2_with fail
      go_roundg (gk - 1)
      case measure => have := HJK.out; omega
      case rel => exact ⟨j + 1, by have := HJK.out; omega, by go_num, HB5.out⟩
    · have hj : j = L.length := by omega
      subst hj
      have hj1 : ¬ (L.length : Int) < (L.length : Int) := by omega
      have HBw := Aside0.mk hBw
      clear hBw hjk hlt
      go_wp2_with fail
      go_ret
      exact ⟨rfl, HBw.out⟩
set_option maxHeartbeats 3200000 in
set_option maxRecDepth 100000 in
theorem eq115_same.calls (x0 x1 x2 : Int) (x3 : ByteArray) (w : World) : Calls Try.prog 115 #[.agg #[.int .i64 x0, .int .i64 x1, .int .i64 x2, .string x3], .agg #[.int .i64 x0, .int .i64 x1, .int .i64 x2, .string x3]] w fun e w' => e = .returned (.bool true) ∧ Below w.heap.size w w' := by
  go_enter Try.func115, Try.ntmps115
  go_wp2_with fail
  go_ret
  exact ⟨rfl, below_alloc (below_alloc (Below.refl _ _) _) _⟩
set_option maxHeartbeats 6400000 in
set_option maxRecDepth 100000 in
theorem eq67_same.calls (A B : Option Addr) (c d : Nat) (L : List S146) (w : World) (ha : Kd.C k146 w A L.length L) (hb : Kd.C k146 w B L.length L) :
    Calls Try.prog 67 #[.slice A L.length c, .slice B L.length d] w fun e w' => e = .returned (.bool true) ∧ Below w.heap.size w w' := by
  have HA := Aside0.mk ha
  have HB := Aside0.mk hb
  have HM := Aside0.mk (Kd.C_max ha)
  clear ha hb
  go_enter Try.func67, Try.ntmps67
  go_wp2_with fail
  go_loopg [5] L.length (fun k i wr => ∃ j : Nat, j + k = L.length ∧ i = .int .i64 j ∧ Below w.heap.size w wr)
  case atStart => exact ⟨0, by omega, rfl, Below.refl _ _⟩
  case round =>
    obtain ⟨j, hjk, rfl, hBw⟩ := hrel
    by_cases hlt : j < L.length
    · obtain ⟨ad, rfl, h0, h1, h2, h3⟩ := at_T146 HA.out (j : Int) (by omega) (by omega)
      obtain ⟨bd, rfl, g0, g1, g2, g3⟩ := at_T146 HB.out (j : Int) (by omega) (by omega)
      obtain ⟨p, hpe⟩ : ∃ p, p = L[j] := ⟨_, rfl⟩
      rw [rd146_at hlt, ← hpe] at h0  h1  h2  h3  g0  g1  g2  g3
      simp only [Int.toNat_natCast] at h0  h1  h2  h3  g0  g1  g2  g3
      have hBd := below_drew1 hBw
      replace h0 := pw_cell_below hBd h0
      replace h1 := pw_cell_below hBd h1
      replace h2 := pw_cell_below hBd h2
      replace h3 := pw_cell_below hBd h3
      replace g0 := pw_cell_below hBd g0
      replace g1 := pw_cell_below hBd g1
      replace g2 := pw_cell_below hBd g2
      replace g3 := pw_cell_below hBd g3
      have hj0 : (0 : Int) ≤ (j : Int) := by omega
      have hj1 : (j : Int) < (L.length : Int) := by omega
      have HBd := Aside0.mk hBd
      have HJK := Aside0.mk hjk
      have hjb : (j : Int) ≤ 9223372036854775806 := by have := HM.out; omega
      clear hpe hjk hBw hBd
      go_wp2_with fail
      refine RG.rs 10 (fun w' => w'.cell? (ad.add (j * 4)) = some (.int .i64 p.f0) ∧ w'.cell? ⟨(ad.add (j * 4)).block, (ad.add (j * 4)).off + 1, none⟩ = some (.int .i64 p.f1) ∧ w'.cell? ⟨(ad.add (j * 4)).block, (ad.add (j * 4)).off + 2, none⟩ = some (.int .i64 p.f2) ∧ w'.cell? ⟨(ad.add (j * 4)).block, (ad.add (j * 4)).off + 3, none⟩ = some (.string p.f3) ∧ w'.cell? (bd.add (j * 4)) = some (.int .i64 p.f0) ∧ w'.cell? ⟨(bd.add (j * 4)).block, (bd.add (j * 4)).off + 1, none⟩ = some (.int .i64 p.f1) ∧ w'.cell? ⟨(bd.add (j * 4)).block, (bd.add (j * 4)).off + 2, none⟩ = some (.int .i64 p.f2) ∧ w'.cell? ⟨(bd.add (j * 4)).block, (bd.add (j * 4)).off + 3, none⟩ = some (.string p.f3)) [8] (by kernel_rfl) rfl ⟨h0, h1, h2, h3, g0, g1, g2, g3⟩ (fun hHeld => ?_)
      generalize wr.drew = wd at HBd hHeld ⊢
      clear h0  h1  h2  h3  g0  g1  g2  g3
      refine RG.rp (v := ?_) (a' := ?_) 0 17 rfl rfl (by kernel_rfl) (fun _ _ _ h => h) (by rfl) ?_ ?_ ?_; rotate_left 2; (intro w'; go_simp; with_reducible rfl); (go_simp; rfl)
      refine RG.rp (v := ?_) (a' := ?_) 1 18 rfl rfl (by kernel_rfl) (fun _ _ _ h => h) (by rfl) ?_ ?_ ?_; rotate_left 2; (intro w'; go_simp; with_reducible rfl); (go_simp; rfl)
      refine RG.rp (v := ?_) (a' := ?_) 2 19 rfl rfl (by kernel_rfl) (fun _ _ _ h => h) (by rfl) ?_ ?_ ?_; rotate_left 2; (intro w'; go_simp; with_reducible rfl); (go_simp; rfl)
      refine RG.rt (v := ?_) (a' := ?_) 3 20 rfl rfl (by kernel_rfl) (fun _ _ _ h => h) (by rfl) ?_ hHeld ?_ ?_; rotate_left 2; (rintro w' ⟨s0, s1, s2, s3, s4, s5, s6, s7⟩; go_simp; with_reducible rfl); (go_simp; rfl)
      refine RG.rp (v := ?_) (a' := ?_) 4 21 rfl rfl (by kernel_rfl) (fun _ _ _ h => h) (by rfl) ?_ ?_ ?_; rotate_left 2; (intro w'; go_simp; with_reducible rfl); (go_simp; rfl)
      refine RG.rp (v := ?_) (a' := ?_) 5 22 rfl rfl (by kernel_rfl) (fun _ _ _ h => h) (by rfl) ?_ ?_ ?_; rotate_left 2; (intro w'; go_simp; with_reducible rfl); (go_simp; rfl)
      refine RG.rp (v := ?_) (a' := ?_) 6 23 rfl rfl (by kernel_rfl) (fun _ _ _ h => h) (by rfl) ?_ ?_ ?_; rotate_left 2; (intro w'; go_simp; with_reducible rfl); (go_simp; rfl)
      refine RG.rt (v := ?_) (a' := ?_) 7 24 rfl rfl (by kernel_rfl) (fun _ _ _ h => h) (by rfl) ?_ hHeld ?_ ?_; rotate_left 2; (rintro w' ⟨s0, s1, s2, s3, s4, s5, s6, s7⟩; go_simp; with_reducible rfl); (go_simp; rfl)
      refine RG.rl 8 (some 25) rfl rfl (by kernel_rfl) (by decide) (fun K hK => ?_)
      refine goes_ Try.func115 (by kernel_rfl) rfl #[.agg #[.int .i64 p.f0, .int .i64 p.f1, .int .i64 p.f2, .string p.f3], .agg #[.int .i64 p.f0, .int .i64 p.f1, .int .i64 p.f2, .string p.f3]] (by rfl) rfl rfl (by simp only [List.map_toArray, List.map_cons, List.map_nil]; rfl) ?_
      refine (eq115_same.calls p.f0 p.f1 p.f2 p.f3 wd).mono ?_
      rintro e w5 ⟨rfl, hB5⟩
      have HB5 := Aside0.mk (below_then HBd.out HBd.out.size hB5)
      refine ⟨_, rfl, hK.out _ _ ?_⟩
      clear hB5
      clear hK K
      refine norm_ (a' := ?_) ?_ ?_; rotate_left; (show Act.put _ (some 25) _ = _; go_simp; rfl)
      refine RG.rp (v := ?_) (a' := ?_) 9 26 rfl rfl (by kernel_rfl) (fun _ _ _ h => h) (by rfl) ?_ ?_ ?_; rotate_left 2; (intro w'; go_simp; with_reducible rfl); (go_simp; rfl)
      refine done_ (by kernel_rfl) ?_
      go_wp2_with fail
      go_roundg (gk - 1)
      case measure => have := HJK.out; omega
      case rel => exact ⟨j + 1, by have := HJK.out; omega, by go_num, HB5.out⟩
    · have hj : j = L.length := by omega
      subst hj
      have hj1 : ¬ (L.length : Int) < (L.length : Int) := by omega
      have HBw := Aside0.mk hBw
      clear hBw hjk hlt
      go_wp2_with fail
      go_ret
      exact ⟨rfl, HBw.out⟩
set_option maxHeartbeats 3200000 in
set_option maxRecDepth 100000 in
theorem HeldT.eq {W : World} {b b' : Nat} {ok ok' : Nat → Prop} {A1 A2 B1 B2 : Option Addr} {c1 c2 d1 d2 : Nat} {P : List S157} {S : List S146} (h : HeldT W b ok A1 c1 P A2 c2 S) (h' : HeldT W b' ok' B1 d1 P B2 d2 S) :
    Calls Try.prog 18 #[.agg #[.slice A1 P.length c1, .slice A2 S.length c2], .agg #[.slice B1 P.length d1, .slice B2 S.length d2]] W fun e w' => e = .returned (.bool true) ∧ Below W.heap.size W w' := by
  have H1 := Aside0.mk h
  have H2 := Aside0.mk h'
  clear h h'
  go_enter Try.func18, Try.ntmps18
  go_wp2_with fail
  have hB0 := below_alloc (below_alloc (Below.refl W.heap.size W) (.cells #[.slice A1 P.length c1, .slice A2 S.length c2] 40)) (.cells #[.slice B1 P.length d1, .slice B2 S.length d2] 40)
  obtain ⟨w2, hw2⟩ : ∃ w2, w2 = (W.alloc (.cells #[.slice A1 P.length c1, .slice A2 S.length c2] 40)).alloc (.cells #[.slice B1 P.length d1, .slice B2 S.length d2] 40) := ⟨_, rfl⟩
  have hb0 : w2.heap[W.heap.size]? = some (.cells #[.slice A1 P.length c1, .slice A2 S.length c2] 40 (0, 0)) := by rw [hw2]; exact blk_alloc (blk_new _ _) _
  have hb1 : w2.heap[W.heap.size + 1]? = some (.cells #[.slice B1 P.length d1, .slice B2 S.length d2] 40 (0, 0)) := by
    rw [hw2]
    have := blk_new (W.alloc (.cells #[.slice A1 P.length c1, .slice A2 S.length c2] 40)) (.cells #[.slice B1 P.length d1, .slice B2 S.length d2] 40)
    simpa using this
  rw [← hw2] at hB0 ⊢
  have HB0 := Aside0.mk hB0
  have Q0 := Aside0.mk hb0
  have Q1 := Aside0.mk hb1
  clear hw2 hB0 hb0 hb1
  refine (eq66_same.calls A1 B1 c1 d1 P w2 (H1.out.below HB0.out).cp (H2.out.below HB0.out).cp).mono ?_
  rintro e w3 ⟨rfl, hB3⟩
  have HB3 := Aside0.mk (below_then HB0.out HB0.out.size hB3)
  obtain ⟨x0, x1⟩ := cells2 (blk_below Q0.out hB3)
  obtain ⟨y0, y1⟩ := cells2 (blk_below Q1.out hB3)
  clear hB3
  go_wp2_with fail
  refine (eq67_same.calls A2 B2 c2 d2 S w3 (H1.out.below HB3.out).cs (H2.out.below HB3.out).cs).mono ?_
  rintro e w4 ⟨rfl, hB4⟩
  have HB4 := Aside0.mk (below_then HB3.out HB3.out.size hB4)
  clear hB4 x0 x1 y0 y1
  go_wp2_with fail
  go_ret
  exact ⟨rfl, HB4.out⟩
set_option maxHeartbeats 3200000 in
set_option maxRecDepth 100000 in
theorem HeldT.eqA {W : World} {b b' : Nat} {ok ok' : Nat → Prop} {A1 A2 B1 B2 : Option Addr} {c1 c2 d1 d2 : Nat} {P : List S157} {S : List S146} (x0 x1 : Int) (x2 : ByteArray) (h : HeldT W b ok A1 c1 P A2 c2 S) (h' : HeldT W b' ok' B1 d1 P B2 d2 S) :
    Calls Try.prog 29 #[.agg #[.int .i64 x0, .int .i64 x1, .string x2, .slice A1 P.length c1, .slice A2 S.length c2], .agg #[.int .i64 x0, .int .i64 x1, .string x2, .slice B1 P.length d1, .slice B2 S.length d2]] W fun e w' => e = .returned (.bool true) ∧ Below W.heap.size W w' := by
  have H1 := Aside0.mk h
  have H2 := Aside0.mk h'
  clear h h'
  go_enter Try.func29, Try.ntmps29
  go_wp2_with fail
  have hB0 := below_alloc (below_alloc (Below.refl W.heap.size W) (.cells #[.int .i64 x0, .int .i64 x1, .string x2, .slice A1 P.length c1, .slice A2 S.length c2] 58)) (.cells #[.int .i64 x0, .int .i64 x1, .string x2, .slice B1 P.length d1, .slice B2 S.length d2] 58)
  refine ((H1.out.below hB0).eq (H2.out.below hB0)).mono ?_
  have HB0 := Aside0.mk hB0
  clear hB0
  rintro e w4 ⟨rfl, hB4⟩
  have HB4 := Aside0.mk (below_then HB0.out HB0.out.size hB4)
  clear hB4 HB0
  go_wp2_with fail
  go_ret
  exact ⟨rfl, HB4.out⟩
end Go.Proofs.Ytppegigcclflbaa.PFnExactApplyCmd
