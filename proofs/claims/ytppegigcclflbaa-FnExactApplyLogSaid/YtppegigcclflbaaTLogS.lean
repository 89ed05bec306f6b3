/- What the reference's ApplyLog answers. -/
import Derived.Test.YtppegigcclflbaaTInvE
set_option linter.unusedSimpArgs false
namespace Go.Proofs.Ytppegigcclflbaa.PFnExactApplyCmd
open Go.RowKit Go.Proofs.YtppegigcclflbaaW.PrintWords Go.Proofs.YtppegigcclflbaaW.PrintLast Go.Proofs.YtppegigcclflbaaW.PrintMore
open Go.Proofs.Ytppegigcclflbaa.PStr

def Big : Nat := 140737488351232
structure Fits (L : List S103) : Prop where
  fits : ∀ e ∈ L, e.f1.f3.size ≤ Big ∧ e.f1.f4.size ≤ Big ∧ e.f1.f5.size ≤ Big
theorem rd103_at {xs : List S103} {i : Nat} (h : i < xs.length) : rd_T103 xs (i : Int) = xs[i] := by
  unfold rd_T103
  rw [Int.toNat_natCast, List.getD_eq_getElem?_getD, List.getElem?_eq_getElem h]
  rfl
/-- A table told: two rows of T. -/
def TabAns (T : List S157 × List S146) (w : World) (e : Ending) (w' : World) : Prop := ∃ B1 e1 B2 e2, e = .returned (.agg #[.slice B1 T.1.length e1, .slice B2 T.2.length e2]) ∧ HeldT w' w.heap.size (fun _ => True) B1 e1 T.1 B2 e2 T.2 ∧ Below w.heap.size w w'
theorem held_nil (w : World) (b : Nat) (ok : Nat → Prop) : HeldT w b ok none 0 [] none 0 [] := ⟨Kd.R_nil _ _ _ _ _, Kd.R_nil _ _ _ _ _⟩

set_option maxHeartbeats 6400000 in
set_option maxRecDepth 100000 in
theorem spec_ApplyLog.calls (A : Option Addr) (d : Nat) (L : List S103) (upto : Int) (w : World) (hr : Kd.C k103 w A L.length L) (hc : L.length ≤ d) (hsz : Fits L) :
    Calls Try.prog 15 #[.slice A L.length d, .int .i64 upto] w (TabAns (logF L upto) w) := by
  have HR := Aside0.mk hr
  have HC := Aside0.mk hc
  have HSZ := Aside0.mk hsz
  clear hr hc hsz
  have hgen : ∀ wz : World, wz = (w.alloc (.cells #[.slice none 0 0, .slice none 0 0] 40)).alloc (.cells #[.slice none 0 0, .slice none 0 0] 40) →
      wz.heap[w.heap.size]? = some (.cells #[.slice none 0 0, .slice none 0 0] 40 (0, 0)) ∧ wz.heap[w.heap.size + 1]? = some (.cells #[.slice none 0 0, .slice none 0 0] 40 (0, 0)) ∧ Below w.heap.size w wz := by
    intro wz hwz
    refine ⟨?_, ?_, ?_⟩
    · rw [hwz]; exact blk_alloc (blk_new _ _) _
    · rw [hwz]
      have := blk_new (w.alloc (.cells #[.slice none 0 0, .slice none 0 0] 40)) (.cells #[.slice none 0 0, .slice none 0 0] 40)
      simpa using this
    · rw [hwz]; exact below_alloc (below_alloc (Below.refl _ _) _) _
  have HGEN := Aside0.mk hgen
  clear hgen
  by_cases h0 : 4096 < L.length
  · have hT : logF L upto = ([], []) := by
      unfold logF
      rw [if_neg (by omega)]
    rw [hT]
    have h0' : (4096 : Int) < (L.length : Int) := by omega
    clear hT h0
    go_enter Try.func15, Try.ntmps15
    go_wp2_with fail
    obtain ⟨z0, z1, z2⟩ := HGEN.out _ rfl
    refine bodyPost_ret (v := .agg #[.slice none 0 0, .slice none 0 0]) (results_single rfl (Vals.cell w.heap.size 40 _ (0, 0) _ rfl ?e1 Try.underlying40 rfl (by kernel_rfl) Vals.nil)) rfl ?_
    case e1 => exact blk_alloc (blk_new _ _) _
    exact ⟨none, 0, none, 0, rfl, held_nil _ _ _, z2⟩
  · have h0' : ¬ (4096 : Int) < (L.length : Int) := by omega
    have h00 : L.length ≤ 4096 := by omega
    have H00 := Aside0.mk h00
    clear h0 h00
    go_enter Try.func15, Try.ntmps15
    go_wp2_with fail
    obtain ⟨wz, hwz⟩ : ∃ wz, wz = (w.alloc (.cells #[.slice none 0 0, .slice none 0 0] 40)).alloc (.cells #[.slice none 0 0, .slice none 0 0] 40) := ⟨_, rfl⟩
    obtain ⟨z0, z1, z2⟩ := HGEN.out _ hwz
    rw [← hwz]
    have Z0 := Aside0.mk z0
    have Z1 := Aside0.mk z1
    have Z2 := Aside0.mk z2
    clear hwz z0 z1 z2
    go_loopg [6] L.length (fun k i wr => ∃ j : Nat, j + k = L.length ∧ i = .int .i64 j ∧ (L.take j).all okE = true ∧ wr.heap[w.heap.size]? = some (.cells #[.slice none 0 0, .slice none 0 0] 40 (0, 0)) ∧ wr.heap[w.heap.size + 1]? = some (.cells #[.slice none 0 0, .slice none 0 0] 40 (0, 0)) ∧ Below w.heap.size w wr)
    case atStart => exact ⟨0, by omega, rfl, rfl, Z0.out, Z1.out, Z2.out⟩
    case round =>
      clear Z0 Z1 Z2
      obtain ⟨j, hjk, rfl, hall, b0, b1, hB⟩ := hrel
      by_cases hlt : j < L.length
      · obtain ⟨ad, rfl, h0, h1, h2, h3, h4, h5, h6⟩ := at_T103 HR.out (j : Int) (by omega) (by omega)
        obtain ⟨p, hpe⟩ : ∃ p, p = L[j] := ⟨_, rfl⟩
        rw [rd103_at hlt, ← hpe] at h0 h1 h2 h3 h4 h5 h6
        simp only [Int.toNat_natCast] at h0 h1 h2 h3 h4 h5 h6
        replace h0 := pw_cell_below hB h0
        replace h1 := pw_cell_below hB h1
        replace h2 := pw_cell_below hB h2
        replace h3 := pw_cell_below hB h3
        replace h4 := pw_cell_below hB h4
        replace h5 := pw_cell_below hB h5
        replace h6 := pw_cell_below hB h6
        have hj0 : (0 : Int) ≤ (j : Int) := by omega
        have hj1 : (j : Int) < (L.length : Int) := by omega
        have HPM := Aside0.mk (HSZ.out.fits p (hpe ▸ List.getElem_mem hlt))
        have HPE := Aside0.mk hpe
        have HJK := Aside0.mk hjk
        have HALL := Aside0.mk hall
        have B0 := Aside0.mk b0
        have B1 := Aside0.mk b1
        have HB := Aside0.mk hB
        clear hpe hjk hall b0 b1 hB
        go_wp2_with fail
        refine (spec_l1entryOk.calls _ _ _ _ _ _ _ wr HPM.out.1 HPM.out.2.1 HPM.out.2.2).mono ?_
        rintro e w5 ⟨rfl, hB5⟩
        have C0 := Aside0.mk (blk_below B0.out hB5)
        have C1 := Aside0.mk (blk_below B1.out hB5)
        have CB := Aside0.mk (below_then HB.out HB.out.size hB5)
        clear hB5 h0 h1 h2 h3 h4 h5 h6
        obtain ⟨b, hb⟩ : ∃ b, b = entryB p.f0 p.f1.f0 p.f1.f1 p.f1.f2 p.f1.f3 p.f1.f4 p.f1.f5 := ⟨_, rfl⟩
        rw [← hb]
        have HOK : Aside0 (okE L[j] = b) := ⟨by rw [hb, ← HPE.out]; rfl⟩
        clear hb
        cases b with
        | true =>
          go_wp2_with fail
          go_roundg (gk - 1)
          case measure => have := HJK.out; omega
          case rel => exact ⟨j + 1, by have := HJK.out; omega, by go_num, all_step hlt HALL.out HOK.out, C0.out, C1.out, CB.out⟩
        | false =>
          have hT : logF L upto = ([], []) := by
            unfold logF
            rw [if_neg (fun h => not_all hlt HOK.out h.2)]
          have HT := Aside0.mk hT
          obtain ⟨x0, x1⟩ := cells2 C1.out
          obtain ⟨y0, y1⟩ := cells2 C0.out
          have f0 := blk_frozen C0.out 0
          have f1 := blk_frozen C0.out 1
          clear hT
          go_wp2_with fail
          have e1 := blk_put C0.out 0 (.slice none 0 0) (cs' := #[.slice none 0 0, .slice none 0 0]) (by simp)
          have e2 := blk_put e1 1 (.slice none 0 0) (cs' := #[.slice none 0 0, .slice none 0 0]) (by simp)
          refine bodyPost_ret (v := .agg #[.slice none 0 0, .slice none 0 0]) (results_single rfl (Vals.cell w.heap.size 40 _ (0, 0) _ rfl e2 Try.underlying40 rfl (by kernel_rfl) Vals.nil)) rfl ?_
          rw [HT.out]
          exact ⟨none, 0, none, 0, rfl, held_nil _ _ _, below_set (below_set CB.out (Nat.le_refl _)) (Nat.le_refl _)⟩
      · have hj : j = L.length := by omega
        subst hj
        rw [List.take_length] at hall
        have hT : logF L upto = foldT (L.take (upT L.length upto)) := by
          unfold logF
          rw [if_pos ⟨H00.out, hall⟩]
        have HT := Aside0.mk hT
        have hj1 : ¬ (L.length : Int) < (L.length : Int) := by omega
        have HALL := Aside0.mk hall
        have B0 := Aside0.mk b0
        have B1 := Aside0.mk b1
        have HB := Aside0.mk hB
        clear hall b0 b1 hB hT hjk hlt
        go_wp2_with fail
        go_loopg [7] (upT L.length upto) (fun k i wr => ∃ (j : Nat) (B1 : Option Addr) (e1 : Nat) (B2 : Option Addr) (e2 n1 n2 : Nat), j + k = upT L.length upto ∧ j ≤ upT L.length upto ∧ n1 = (foldT (L.take j)).1.length ∧ n2 = (foldT (L.take j)).2.length ∧ i = .int .i64 j ∧ wr.heap[w.heap.size]? = some (.cells #[.slice none 0 0, .slice none 0 0] 40 (0, 0)) ∧ wr.heap[w.heap.size + 1]? = some (.cells #[.slice B1 n1 e1, .slice B2 n2 e2] 40 (0, 0)) ∧ HeldT wr w.heap.size (fun _ => True) B1 e1 (foldT (L.take j)).1 B2 e2 (foldT (L.take j)).2 ∧ Below w.heap.size w wr)
        case atStart => exact ⟨0, none, 0, none, 0, 0, 0, by omega, by omega, rfl, rfl, rfl, B0.out, B1.out, held_nil _ _ _, HB.out⟩
        case round =>
          clear B0 B1 HB
          obtain ⟨j, B1, e1, B2, e2, n1, n2, hjk, hju, hn1, hn2, rfl, b0, b1, hH, hB⟩ := hrel
          by_cases hlt : j < upT L.length upto
          · have hlL : j < L.length := Nat.lt_of_lt_of_le hlt (upT_le _ _)
            have hlu : (j : Int) < upto := by
              unfold upT at hlt
              omega
            obtain ⟨ad, rfl, h0, h1, h2, h3, h4, h5, h6⟩ := at_T103 HR.out (j : Int) (by omega) (by omega)
            obtain ⟨p, hpe⟩ : ∃ p, p = L[j] := ⟨_, rfl⟩
            rw [rd103_at hlL, ← hpe] at h0 h1 h2 h3 h4 h5 h6
            simp only [Int.toNat_natCast] at h0 h1 h2 h3 h4 h5 h6
            have hBd := below_drew1 hB
            replace h1 := pw_cell_below hBd h1
            replace h2 := pw_cell_below hBd h2
            replace h3 := pw_cell_below hBd h3
            replace h4 := pw_cell_below hBd h4
            replace h5 := pw_cell_below hBd h5
            replace h6 := pw_cell_below hBd h6
            have hj0 : (0 : Int) ≤ (j : Int) := by omega
            have hj1 : (j : Int) < (L.length : Int) := by omega
            obtain ⟨T, hTe⟩ : ∃ T, T = foldT (L.take j) := ⟨_, rfl⟩
            have hst := foldT_take hlL
            rw [← hTe] at hn1 hn2 hH hst
            rw [← hpe] at hst
            have HST1 : Aside0 ((stepT T p).1 = (foldT (L.take (j + 1))).1) := ⟨by rw [hst]⟩
            have HST2 : Aside0 ((stepT T p).2 = (foldT (L.take (j + 1))).2) := ⟨by rw [hst]⟩
            have HTK : Aside0 (TOk T.1 T.2) := ⟨by rw [hTe]; exact foldT_ok (all_take HALL.out j)⟩
            have HCK : Aside0 (∀ W : World, Below w.heap.size w W → Kd.C k103 W (some ad) L.length L) := ⟨fun W hW => Kd.C_below HR.out hW⟩
            have Hd0 := Aside0.mk (blk_drew b0)
            have Hd1 := Aside0.mk (blk_drew b1)
            have H1 := Aside0.mk b1
            have HHd := Aside0.mk (hH.below (below_drew1 (Below.refl _ _)))
            have HCd := Aside0.mk (Kd.C_below HR.out hBd)
            have HBd := Aside0.mk hBd
            have HN1 := Aside0.mk hn1
            have HN2 := Aside0.mk hn2
            have HJK := Aside0.mk hjk
            clear hpe hst hTe hn1 hn2 hjk hju hH hB hBd b0 b1 h0
            go_wp2_with fail
            refine start_ (n := 9) (S := fun w' => w'.cell? ⟨w.heap.size + 1, 0, none⟩ = some (.slice B1 n1 e1) ∧ w'.cell? ⟨w.heap.size + 1, 1, none⟩ = some (.slice B2 n2 e2) ∧ w'.cell? ⟨(ad.add (j * 7)).block, (ad.add (j * 7)).off + 1, none⟩ = some (.int .i64 p.f1.f0) ∧ w'.cell? ⟨(ad.add (j * 7)).block, (ad.add (j * 7)).off + 2, none⟩ = some (.int .i64 p.f1.f1) ∧ w'.cell? ⟨(ad.add (j * 7)).block, (ad.add (j * 7)).off + 3, none⟩ = some (.int .i64 p.f1.f2) ∧ w'.cell? ⟨(ad.add (j * 7)).block, (ad.add (j * 7)).off + 4, none⟩ = some (.string p.f1.f3) ∧ w'.cell? ⟨(ad.add (j * 7)).block, (ad.add (j * 7)).off + 5, none⟩ = some (.string p.f1.f4) ∧ w'.cell? ⟨(ad.add (j * 7)).block, (ad.add (j * 7)).off + 6, none⟩ = some (.string p.f1.f5)) (ds := [6, 8]) #[false, false, false, false, false, false, false, false, false] (by kernel_rfl) rfl rfl ⟨(blk_cell (blk_drew H1.out) 0).trans rfl, (blk_cell (blk_drew H1.out) 1).trans rfl, h1, h2, h3, h4, h5, h6⟩ (fun hHeld => ?_)
            generalize wr.drew = wd at Hd0 Hd1 HHd HCd HBd hHeld ⊢
            clear h1 h2 h3 h4 h5 h6
            refine take_ (i := 0) (N := some 37) (v := ?_) (a' := ?_) #[true, false, false, false, false, false, false, false, false] rfl rfl (by kernel_rfl) (fun _ _ _ h => h) (Or.inl ⟨by rfl, ?_⟩) hHeld ?_ ?_
            rotate_left
            · rintro w' ⟨s0, s1, s2, s3, s4, s5, s6, s7⟩
              go_simp
              with_reducible rfl
            rotate_left
            · simp only [Act.put, List.setIfInBounds_toArray, List.set_cons_zero, List.set_cons_succ, i64_w, i32_w]
              rfl
            refine pure_ (i := 1) (N := some 38) (v := ?_) (a' := ?_) #[true, true, false, false, false, false, false, false, false] rfl rfl (by kernel_rfl) (fun _ _ _ h => h) (Or.inl ⟨by rfl, ?_⟩) ?_ ?_
            rotate_left
            · intro w'
              go_simp
              with_reducible rfl
            rotate_left
            · simp only [Act.put, List.setIfInBounds_toArray, List.set_cons_zero, List.set_cons_succ, i64_w, i32_w]
              rfl
            refine pure_ (i := 2) (N := some 39) (v := ?_) (a' := ?_) #[true, true, true, false, false, false, false, false, false] rfl rfl (by kernel_rfl) (fun _ _ _ h => h) (Or.inl ⟨by rfl, ?_⟩) ?_ ?_
            rotate_left
            · intro w'
              go_simp
              with_reducible rfl
            rotate_left
            · simp only [Act.put, List.setIfInBounds_toArray, List.set_cons_zero, List.set_cons_succ, i64_w, i32_w]
              rfl
            refine pure_ (i := 3) (N := some 40) (v := ?_) (a' := ?_) #[true, true, true, true, false, false, false, false, false] rfl rfl (by kernel_rfl) (fun _ _ _ h => h) (Or.inl ⟨by rfl, ?_⟩) ?_ ?_
            rotate_left
            · intro w'
              go_simp
              with_reducible rfl
            rotate_left
            · simp only [Act.put, List.setIfInBounds_toArray, List.set_cons_zero, List.set_cons_succ, i64_w, i32_w]
              rfl
            refine pure_ (i := 4) (N := some 41) (v := ?_) (a' := ?_) #[true, true, true, true, true, false, false, false, false] rfl rfl (by kernel_rfl) (fun _ _ _ h => h) (Or.inl ⟨by rfl, ?_⟩) ?_ ?_
            rotate_left
            · intro w'
              go_simp
              with_reducible rfl
            rotate_left
            · simp only [Act.put, List.setIfInBounds_toArray, List.set_cons_zero, List.set_cons_succ, i64_w, i32_w]
              rfl
            refine take_ (i := 5) (N := some 42) (v := ?_) (a' := ?_) #[true, true, true, true, true, true, false, false, false] rfl rfl (by kernel_rfl) (fun _ _ _ h => h) (Or.inl ⟨by rfl, ?_⟩) hHeld ?_ ?_
            rotate_left
            · rintro w' ⟨s0, s1, s2, s3, s4, s5, s6, s7⟩
              go_simp
              with_reducible rfl
            rotate_left
            · simp only [Act.put, List.setIfInBounds_toArray, List.set_cons_zero, List.set_cons_succ, i64_w, i32_w]
              rfl
            refine last_ (i := 6) (N := some 43) #[true, true, true, true, true, true, true, false, false] rfl rfl (by kernel_rfl) (by decide) (fun K hK => ?_)
            refine goes_ Try.func60 (by kernel_rfl) rfl #[.agg #[.slice B1 n1 e1, .slice B2 n2 e2], .agg #[.int .i64 p.f1.f0, .int .i64 p.f1.f1, .int .i64 p.f1.f2, .string p.f1.f3, .string p.f1.f4, .string p.f1.f5]] (by rfl) rfl rfl (by simp only [List.map_toArray, List.map_cons, List.map_nil]; rfl) ?_
            rw [HN1.out, HN2.out]
            refine (l5apply.calls B1 e1 T.1 B2 e2 T.2 _ _ _ _ _ _ wd HHd.out.cp HHd.out.lp HHd.out.cs HHd.out.ls (by have := HTK.out.l; omega) (by have := few HTK.out.s; omega)).mono ?_
            rintro e w5 ⟨C1, g1, C2, g2, rfl, hH, hB5⟩
            have hT1 : (applyF T.1 T.2 p.f1.f0 p.f1.f1 p.f1.f2 p.f1.f3 p.f1.f4 p.f1.f5).2.2.2.1 = (foldT (L.take (j + 1))).1 := HST1.out
            have hT2 : (applyF T.1 T.2 p.f1.f0 p.f1.f1 p.f1.f2 p.f1.f3 p.f1.f4 p.f1.f5).2.2.2.2 = (foldT (L.take (j + 1))).2 := HST2.out
            rw [hT1, hT2] at hH ⊢
            generalize (applyF T.1 T.2 p.f1.f0 p.f1.f1 p.f1.f2 p.f1.f3 p.f1.f4 p.f1.f5).1 = r1
            generalize (applyF T.1 T.2 p.f1.f0 p.f1.f1 p.f1.f2 p.f1.f3 p.f1.f4 p.f1.f5).2.1 = r2
            generalize (applyF T.1 T.2 p.f1.f0 p.f1.f1 p.f1.f2 p.f1.f3 p.f1.f4 p.f1.f5).2.2.1 = r3
            obtain ⟨m1, hm1⟩ : ∃ m, m = (foldT (L.take (j + 1))).1.length := ⟨_, rfl⟩
            obtain ⟨m2, hm2⟩ : ∃ m, m = (foldT (L.take (j + 1))).2.length := ⟨_, rfl⟩
            rw [← hm1, ← hm2]
            have HM1 := Aside0.mk hm1
            have HM2 := Aside0.mk hm2
            have HH5 := Aside0.mk (hH.lower HBd.out.size)
            have H05 := Aside0.mk (blk_below Hd0.out hB5)
            have H15 := Aside0.mk (blk_below Hd1.out hB5)
            have HC5 := Aside0.mk (Kd.C_below HCd.out hB5)
            have HB5 := Aside0.mk (below_then HBd.out HBd.out.size hB5)
            refine ⟨_, rfl, hK.out _ _ ?_⟩
            clear hm1 hm2 hH hB5 hT1 hT2
            clear hK K
            refine norm_ (a' := ?_) ?_ ?_
            rotate_left
            · show Act.put _ (some 43) _ = _
              simp only [Act.put, List.setIfInBounds_toArray, List.set_cons_zero, List.set_cons_succ, i64_w, i32_w]
              rfl
            have hfield : ∀ w', (Instr.field 58 (.agg #[.int .i64 r1, .int .i64 r2, .string r3, .slice C1 m1 g1, .slice C2 m2 g2]) 3).run Try.prog w' = .ok (.agg #[.slice C1 m1 g1, .slice C2 m2 g2]) w' := fun _ => by kernel_rfl
            refine pure_ (i := 7) (N := some 44) (v := ?_) (a' := ?_) #[true, true, true, true, true, true, true, true, false] rfl rfl (by kernel_rfl) (fun _ _ _ h => h) (Or.inl ⟨by rfl, ?_⟩) ?_ ?_
            rotate_left
            · intro w'
              go_simp
              with_reducible rfl
            rotate_left
            · simp only [Act.put, List.setIfInBounds_toArray, List.set_cons_zero, List.set_cons_succ, i64_w, i32_w]
              rfl
            clear hfield
            refine last_ (i := 8) (N := none) #[true, true, true, true, true, true, true, true, true] rfl rfl (by kernel_rfl) (by decide) (fun K hK => ?_)
            have hs0 : w5.cell? ⟨w.heap.size + 1, 0, none⟩ = some (.slice B1 n1 e1) := (blk_cell H15.out 0).trans rfl
            have hs1 : w5.cell? ⟨w.heap.size + 1, 1, none⟩ = some (.slice B2 n2 e2) := (blk_cell H15.out 1).trans rfl
            have hf0 := blk_frozen H15.out 0
            have hf1 := blk_frozen H15.out 1
            refine skip_ (w1 := ?_) (by rfl) rfl ?_ ?_
            rotate_left
            · go_simp
              rfl
            refine hK.out _ _ ?_
            clear hK K
            refine done_ (by kernel_rfl) ?_
            clear hs0 hs1 hf0 hf1
            have g1' := blk_put H15.out 0 (.slice C1 m1 g1) (cs' := #[.slice C1 m1 g1, .slice B2 n2 e2]) (by simp)
            have g2' := blk_put g1' 1 (.slice C2 m2 g2) (cs' := #[.slice C1 m1 g1, .slice C2 m2 g2]) (by simp)
            have G0 := Aside0.mk (blk_far (blk_far H05.out (p := ⟨w.heap.size + 1, 0, none⟩) (show w.heap.size ≠ w.heap.size + 1 by omega) (.slice C1 m1 g1)) (p := ⟨w.heap.size + 1, 1, none⟩) (show w.heap.size ≠ w.heap.size + 1 by omega) (.slice C2 m2 g2))
            have GH : Aside0 (HeldT _ w.heap.size (fun _ => True) C1 g1 (foldT (L.take (j + 1))).1 C2 g2 (foldT (L.take (j + 1))).2) := ⟨HeldT.mk (Kd.R_set (Kd.R_set HH5.out.p H15.out (by decide) 0 (.slice C1 m1 g1)) g1' (by decide) 1 (.slice C2 m2 g2)) (Kd.R_set (Kd.R_set HH5.out.s H15.out (by decide) 0 (.slice C1 m1 g1)) g1' (by decide) 1 (.slice C2 m2 g2))⟩
            have GC := Aside0.mk (HCK.out _ (below_set (j := 1) (v := .slice C2 m2 g2) (below_set (j := 0) (v := .slice C1 m1 g1) HB5.out (show w.heap.size ≤ w.heap.size + 1 by omega)) (show w.heap.size ≤ w.heap.size + 1 by omega)))
            have GB := Aside0.mk (below_set (j := 1) (v := .slice C2 m2 g2) (below_set (j := 0) (v := .slice C1 m1 g1) HB5.out (show w.heap.size ≤ w.heap.size + 1 by omega)) (show w.heap.size ≤ w.heap.size + 1 by omega))
            have G1 := Aside0.mk g2'
            clear g1' g2'
            go_wp2_with fail
            go_roundg (gk - 1)
            case measure => have := HJK.out; omega
            case rel => exact ⟨j + 1, C1, g1, C2, g2, m1, m2, by have := HJK.out; omega, by omega, HM1.out, HM2.out, by go_num, G0.out, G1.out, GH.out, GB.out⟩
          · have hj : j = upT L.length upto := by omega
            subst hj
            have hle := upT_le L.length upto
            obtain ⟨x0, x1⟩ := cells2 b1
            obtain ⟨y0, y1⟩ := cells2 b0
            have f0 := blk_frozen b0 0
            have f1 := blk_frozen b0 1
            have hor : upT L.length upto = L.length ∨ (upT L.length upto < L.length ∧ upto ≤ (upT L.length upto : Int)) := by
              unfold upT
              omega
            generalize upT L.length upto = j at *
            have HH := Aside0.mk hH
            have HB := Aside0.mk hB
            have B0 := Aside0.mk b0
            have HN1 := Aside0.mk hn1
            have HN2 := Aside0.mk hn2
            clear hH hB b0 b1 hn1 hn2 hjk hju hlt
            rcases hor with hc | ⟨hc1, hc2⟩
            · have hc3 : ¬ (j : Int) < (L.length : Int) := by omega
              clear hc hle
              go_wp2_with fail
              have k1 := blk_put B0.out 0 (.slice B1 n1 e1) (cs' := #[.slice B1 n1 e1, .slice none 0 0]) (by simp)
              have k2 := blk_put k1 1 (.slice B2 n2 e2) (cs' := #[.slice B1 n1 e1, .slice B2 n2 e2]) (by simp)
              refine bodyPost_ret (v := .agg #[.slice B1 n1 e1, .slice B2 n2 e2]) (results_single rfl (Vals.cell w.heap.size 40 _ (0, 0) _ rfl k2 Try.underlying40 rfl (by kernel_rfl) Vals.nil)) rfl ?_
              rw [HT.out]
              exact ⟨B1, e1, B2, e2, by rw [HN1.out, HN2.out], HeldT.mk (Kd.R_set (Kd.R_set HH.out.p B0.out (by decide) 0 _) k1 (by decide) 1 _) (Kd.R_set (Kd.R_set HH.out.s B0.out (by decide) 0 _) k1 (by decide) 1 _), below_set (below_set HB.out (Nat.le_refl _)) (Nat.le_refl _)⟩
            · have hc3 : (j : Int) < (L.length : Int) := by omega
              have hc4 : ¬ (j : Int) < upto := by omega
              clear hc1 hc2 hle
              go_wp2_with fail
              have k1 := blk_put B0.out 0 (.slice B1 n1 e1) (cs' := #[.slice B1 n1 e1, .slice none 0 0]) (by simp)
              have k2 := blk_put k1 1 (.slice B2 n2 e2) (cs' := #[.slice B1 n1 e1, .slice B2 n2 e2]) (by simp)
              refine bodyPost_ret (v := .agg #[.slice B1 n1 e1, .slice B2 n2 e2]) (results_single rfl (Vals.cell w.heap.size 40 _ (0, 0) _ rfl k2 Try.underlying40 rfl (by kernel_rfl) Vals.nil)) rfl ?_
              rw [HT.out]
              exact ⟨B1, e1, B2, e2, by rw [HN1.out, HN2.out], HeldT.mk (Kd.R_set (Kd.R_set HH.out.p B0.out (by decide) 0 _) k1 (by decide) 1 _) (Kd.R_set (Kd.R_set HH.out.s B0.out (by decide) 0 _) k1 (by decide) 1 _), below_set (below_set HB.out (Nat.le_refl _)) (Nat.le_refl _)⟩
end Go.Proofs.Ytppegigcclflbaa.PFnExactApplyCmd
