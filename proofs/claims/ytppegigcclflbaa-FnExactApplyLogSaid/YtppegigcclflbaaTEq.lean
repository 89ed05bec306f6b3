/- laws.eqEntryS at two rows that hold the same entries. -/
import Derived.Test.YtppegigcclflbaaTLogS
set_option linter.unusedSimpArgs false
namespace Go.Proofs.Ytppegigcclflbaa.PFnExactApplyCmd
open Go.RowKit Go.Proofs.YtppegigcclflbaaW.PrintWords Go.Proofs.YtppegigcclflbaaW.PrintLast Go.Proofs.YtppegigcclflbaaW.PrintMore
open Go.Proofs.Ytppegigcclflbaa.PStr

set_option maxHeartbeats 3200000 in
set_option maxRecDepth 100000 in
theorem eqCmd_same.calls (c0 c1 c2 : Int) (key val old : ByteArray) (w : World) : Calls Try.prog 116 #[.agg #[.int .i64 c0, .int .i64 c1, .int .i64 c2, .string key, .string val, .string old], .agg #[.int .i64 c0, .int .i64 c1, .int .i64 c2, .string key, .string val, .string old]] w fun e w' => e = .returned (.bool true) ∧ Below w.heap.size w w' := by
  go_enter Try.func116, Try.ntmps116
  go_wp2_with fail
  go_ret
  exact ⟨rfl, below_alloc (below_alloc (Below.refl _ _) _) _⟩
set_option maxHeartbeats 3200000 in
set_option maxRecDepth 100000 in
theorem eqEntry_same.calls (t c0 c1 c2 : Int) (key val old : ByteArray) (w : World) : Calls Try.prog 68 #[.agg #[.int .i64 t, .int .i64 c0, .int .i64 c1, .int .i64 c2, .string key, .string val, .string old], .agg #[.int .i64 t, .int .i64 c0, .int .i64 c1, .int .i64 c2, .string key, .string val, .string old]] w fun e w' => e = .returned (.bool true) ∧ Below w.heap.size w w' := by
  go_enter Try.func68, Try.ntmps68
  go_wp2_with fail
  refine (eqCmd_same.calls c0 c1 c2 key val old _).mono ?_
  rintro e w' ⟨rfl, hB⟩
  go_wp2_with fail
  go_ret
  exact ⟨rfl, below_then (below_alloc (below_alloc (Below.refl _ _) _) _) (by simp; omega) hB⟩
set_option maxHeartbeats 6400000 in
set_option maxRecDepth 100000 in
theorem eqEntryS_same.calls (A B : Option Addr) (c d : Nat) (L : List S103) (w : World) (ha : Kd.C k103 w A L.length L) (hb : Kd.C k103 w B L.length L) :
    Calls Try.prog 19 #[.slice A L.length c, .slice B L.length d] w fun e w' => e = .returned (.bool true) ∧ Below w.heap.size w w' := by
  have HA := Aside0.mk ha
  have HB := Aside0.mk hb
  have HM := Aside0.mk (Kd.C_max ha)
  clear ha hb
  go_enter Try.func19, Try.ntmps19
  go_wp2_with fail
  go_loopg [5] L.length (fun k i wr => ∃ j : Nat, j + k = L.length ∧ i = .int .i64 j ∧ Below w.heap.size w wr)
  case atStart => exact ⟨0, by omega, rfl, Below.refl _ _⟩
  case round =>
    obtain ⟨j, hjk, rfl, hBw⟩ := hrel
    by_cases hlt : j < L.length
    · obtain ⟨ad, rfl, h0, h1, h2, h3, h4, h5, h6⟩ := at_T103 HA.out (j : Int) (by omega) (by omega)
      obtain ⟨bd, rfl, g0, g1, g2, g3, g4, g5, g6⟩ := at_T103 HB.out (j : Int) (by omega) (by omega)
      obtain ⟨p, hpe⟩ : ∃ p, p = L[j] := ⟨_, rfl⟩
      rw [rd103_at hlt, ← hpe] at h0 h1 h2 h3 h4 h5 h6 g0 g1 g2 g3 g4 g5 g6
      simp only [Int.toNat_natCast] at h0 h1 h2 h3 h4 h5 h6 g0 g1 g2 g3 g4 g5 g6
      have hBd := below_drew1 hBw
      replace h0 := pw_cell_below hBd h0
      replace h1 := pw_cell_below hBd h1
      replace h2 := pw_cell_below hBd h2
      replace h3 := pw_cell_below hBd h3
      replace h4 := pw_cell_below hBd h4
      replace h5 := pw_cell_below hBd h5
      replace h6 := pw_cell_below hBd h6
      replace g0 := pw_cell_below hBd g0
      replace g1 := pw_cell_below hBd g1
      replace g2 := pw_cell_below hBd g2
      replace g3 := pw_cell_below hBd g3
      replace g4 := pw_cell_below hBd g4
      replace g5 := pw_cell_below hBd g5
      replace g6 := pw_cell_below hBd g6
      have hj0 : (0 : Int) ≤ (j : Int) := by omega
      have hj1 : (j : Int) < (L.length : Int) := by omega
      have HBd := Aside0.mk hBd
      have HJK := Aside0.mk hjk
      have hjb : (j : Int) ≤ 9223372036854775806 := by have := HM.out; omega
      clear hpe hjk hBw hBd
      go_wp2_with fail
      refine start_ (n := 10) (S := fun w' => w'.cell? (ad.add (j * 7)) = some (.int .i64 p.f0) ∧ w'.cell? ⟨(ad.add (j * 7)).block, (ad.add (j * 7)).off + 1, none⟩ = some (.int .i64 p.f1.f0) ∧ w'.cell? ⟨(ad.add (j * 7)).block, (ad.add (j * 7)).off + 2, none⟩ = some (.int .i64 p.f1.f1) ∧ w'.cell? ⟨(ad.add (j * 7)).block, (ad.add (j * 7)).off + 3, none⟩ = some (.int .i64 p.f1.f2) ∧ w'.cell? ⟨(ad.add (j * 7)).block, (ad.add (j * 7)).off + 4, none⟩ = some (.string p.f1.f3) ∧ w'.cell? ⟨(ad.add (j * 7)).block, (ad.add (j * 7)).off + 5, none⟩ = some (.string p.f1.f4) ∧ w'.cell? ⟨(ad.add (j * 7)).block, (ad.add (j * 7)).off + 6, none⟩ = some (.string p.f1.f5) ∧ w'.cell? (bd.add (j * 7)) = some (.int .i64 p.f0) ∧ w'.cell? ⟨(bd.add (j * 7)).block, (bd.add (j * 7)).off + 1, none⟩ = some (.int .i64 p.f1.f0) ∧ w'.cell? ⟨(bd.add (j * 7)).block, (bd.add (j * 7)).off + 2, none⟩ = some (.int .i64 p.f1.f1) ∧ w'.cell? ⟨(bd.add (j * 7)).block, (bd.add (j * 7)).off + 3, none⟩ = some (.int .i64 p.f1.f2) ∧ w'.cell? ⟨(bd.add (j * 7)).block, (bd.add (j * 7)).off + 4, none⟩ = some (.string p.f1.f3) ∧ w'.cell? ⟨(bd.add (j * 7)).block, (bd.add (j * 7)).off + 5, none⟩ = some (.string p.f1.f4) ∧ w'.cell? ⟨(bd.add (j * 7)).block, (bd.add (j * 7)).off + 6, none⟩ = some (.string p.f1.f5)) (ds := [8]) #[false, false, false, false, false, false, false, false, false, false] (by kernel_rfl) rfl rfl ⟨h0, h1, h2, h3, h4, h5, h6, g0, g1, g2, g3, g4, g5, g6⟩ (fun hHeld => ?_)
      generalize wr.drew = wd at HBd hHeld ⊢
      clear h0 h1 h2 h3 h4 h5 h6 g0 g1 g2 g3 g4 g5 g6
      refine pure_ (i := 0) (N := some 17) (v := ?_) (a' := ?_) #[true, false, false, false, false, false, false, false, false, false] rfl rfl (by kernel_rfl) (fun _ _ _ h => h) (Or.inl ⟨by rfl, ?_⟩) ?_ ?_
      rotate_left
      · intro w'
        go_simp
        with_reducible rfl
      rotate_left
      · simp only [Act.put, List.setIfInBounds_toArray, List.set_cons_zero, List.set_cons_succ, i64_w, i32_w]
        rfl
      refine pure_ (i := 1) (N := some 18) (v := ?_) (a' := ?_) #[true, true, false, false, false, false, false, false, false, false] rfl rfl (by kernel_rfl) (fun _ _ _ h => h) (Or.inl ⟨by rfl, ?_⟩) ?_ ?_
      rotate_left
      · intro w'
        go_simp
        with_reducible rfl
      rotate_left
      · simp only [Act.put, List.setIfInBounds_toArray, List.set_cons_zero, List.set_cons_succ, i64_w, i32_w]
        rfl
      refine pure_ (i := 2) (N := some 19) (v := ?_) (a' := ?_) #[true, true, true, false, false, false, false, false, false, false] rfl rfl (by kernel_rfl) (fun _ _ _ h => h) (Or.inl ⟨by rfl, ?_⟩) ?_ ?_
      rotate_left
      · intro w'
        go_simp
        with_reducible rfl
      rotate_left
      · simp only [Act.put, List.setIfInBounds_toArray, List.set_cons_zero, List.set_cons_succ, i64_w, i32_w]
        rfl
      refine take_ (i := 3) (N := some 20) (v := ?_) (a' := ?_) #[true, true, true, true, false, false, false, false, false, false] rfl rfl (by kernel_rfl) (fun _ _ _ h => h) (Or.inl ⟨by rfl, ?_⟩) hHeld ?_ ?_
      rotate_left
      · rintro w' ⟨s0, s1, s2, s3, s4, s5, s6, s7, s8, s9, s10, s11, s12, s13⟩
        go_simp
        with_reducible rfl
      rotate_left
      · simp only [Act.put, List.setIfInBounds_toArray, List.set_cons_zero, List.set_cons_succ, i64_w, i32_w]
        rfl
      refine pure_ (i := 4) (N := some 21) (v := ?_) (a' := ?_) #[true, true, true, true, true, false, false, false, false, false] rfl rfl (by kernel_rfl) (fun _ _ _ h => h) (Or.inl ⟨by rfl, ?_⟩) ?_ ?_
      rotate_left
      · intro w'
        go_simp
        with_reducible rfl
      rotate_left
      · simp only [Act.put, List.setIfInBounds_toArray, List.set_cons_zero, List.set_cons_succ, i64_w, i32_w]
        rfl
      refine pure_ (i := 5) (N := some 22) (v := ?_) (a' := ?_) #[true, true, true, true, true, true, false, false, false, false] rfl rfl (by kernel_rfl) (fun _ _ _ h => h) (Or.inl ⟨by rfl, ?_⟩) ?_ ?_
      rotate_left
      · intro w'
        go_simp
        with_reducible rfl
      rotate_left
      · simp only [Act.put, List.setIfInBounds_toArray, List.set_cons_zero, List.set_cons_succ, i64_w, i32_w]
        rfl
      refine pure_ (i := 6) (N := some 23) (v := ?_) (a' := ?_) #[true, true, true, true, true, true, true, false, false, false] rfl rfl (by kernel_rfl) (fun _ _ _ h => h) (Or.inl ⟨by rfl, ?_⟩) ?_ ?_
      rotate_left
      · intro w'
        go_simp
        with_reducible rfl
      rotate_left
      · simp only [Act.put, List.setIfInBounds_toArray, List.set_cons_zero, List.set_cons_succ, i64_w, i32_w]
        rfl
      refine take_ (i := 7) (N := some 24) (v := ?_) (a' := ?_) #[true, true, true, true, true, true, true, true, false, false] rfl rfl (by kernel_rfl) (fun _ _ _ h => h) (Or.inl ⟨by rfl, ?_⟩) hHeld ?_ ?_
      rotate_left
      · rintro w' ⟨s0, s1, s2, s3, s4, s5, s6, s7, s8, s9, s10, s11, s12, s13⟩
        go_simp
        with_reducible rfl
      rotate_left
      · simp only [Act.put, List.setIfInBounds_toArray, List.set_cons_zero, List.set_cons_succ, i64_w, i32_w]
        rfl
      refine last_ (i := 8) (N := some 25) #[true, true, true, true, true, true, true, true, true, false] rfl rfl (by kernel_rfl) (by decide) (fun K hK => ?_)
      refine goes_ Try.func68 (by kernel_rfl) rfl #[.agg #[.int .i64 p.f0, .int .i64 p.f1.f0, .int .i64 p.f1.f1, .int .i64 p.f1.f2, .string p.f1.f3, .string p.f1.f4, .string p.f1.f5], .agg #[.int .i64 p.f0, .int .i64 p.f1.f0, .int .i64 p.f1.f1, .int .i64 p.f1.f2, .string p.f1.f3, .string p.f1.f4, .string p.f1.f5]] (by rfl) rfl rfl (by simp only [List.map_toArray, List.map_cons, List.map_nil]; rfl) ?_
      refine (eqEntry_same.calls p.f0 p.f1.f0 p.f1.f1 p.f1.f2 p.f1.f3 p.f1.f4 p.f1.f5 wd).mono ?_
      rintro e w5 ⟨rfl, hB5⟩
      have HB5 := Aside0.mk (below_then HBd.out HBd.out.size hB5)
      refine ⟨_, rfl, hK.out _ _ ?_⟩
      clear hB5
      clear hK K
      refine norm_ (a' := ?_) ?_ ?_
      rotate_left
      · show Act.put _ (some 25) _ = _
        simp only [Act.put, List.setIfInBounds_toArray, List.set_cons_zero, List.set_cons_succ, i64_w, i32_w]
        rfl
      refine pure_ (i := 9) (N := some 26) (v := ?_) (a' := ?_) #[true, true, true, true, true, true, true, true, true, true] rfl rfl (by kernel_rfl) (fun _ _ _ h => h) (Or.inl ⟨by rfl, ?_⟩) ?_ ?_
      rotate_left
      · intro w'
        go_simp
        with_reducible rfl
      rotate_left
      · simp only [Act.put, List.setIfInBounds_toArray, List.set_cons_zero, List.set_cons_succ, i64_w, i32_w]
        rfl
      refine done_ (by kernel_rfl) ?_
      go_wp2_with fail
      go_roundg (gk - 1)
      case measure => have := HJK.out; omega
      case rel => exact ⟨j + 1, by have := HJK.out; omega, by go_num, HB5.out⟩
    · have hj : j = L.length := by omega
      subst hj
      have hj1 : ¬ (L.length : Int) < (L.length : Int) := by omega
      have HBw := Aside0.mk hBw
      clear hBw hjk hlt
      go_wp2_with fail
      go_ret
      exact ⟨rfl, HBw.out⟩
end Go.Proofs.Ytppegigcclflbaa.PFnExactApplyCmd
