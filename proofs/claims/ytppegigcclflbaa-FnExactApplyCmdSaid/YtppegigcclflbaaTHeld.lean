/- laws.heldTable and laws.heldApplyAnswer at rows that bear the marks. -/
import Derived.Test.YtppegigcclflbaaTLawP
import Derived.Test.YtppegigcclflbaaRG
set_option linter.unusedSimpArgs false
set_option linter.unusedVariables false
namespace Go.Proofs.Ytppegigcclflbaa.PFnExactApplyCmd
open Go.RowKit Go.Proofs.YtppegigcclflbaaW.PrintWords Go.Proofs.YtppegigcclflbaaW.PrintLast Go.Proofs.YtppegigcclflbaaW.PrintMore
open Go.Proofs.Ytppegigcclflbaa.PStr

theorem ret_ii {a b : Int} (h : a = b) : Ending.returned (.int .i64 a) = .returned (.int .i64 b) := by rw [h]
theorem pw_cell_keep {w w' : World} (hb : Below w.heap.size w w') {p : Addr} {v : Value} (h : w.cell? p = some v) : w'.cell? p = some v := (hb.cell (World.block_lt_of_cell? w _ h)).trans h
theorem markPs_at : ∀ (l : List S157) (n : Int) (j : Nat) (h : j < (markPs n l).length), (markPs n l)[j] = ⟨txt (n + 2 * (j : Int)), txt (n + 2 * (j : Int) + 1)⟩
  | [], n, j, h => by simp [markPs] at h
  | p :: ps, n, 0, h => by simp [markPs]
  | p :: ps, n, j + 1, h => by
    have h2 : j < (markPs (n + 2) ps).length := by simpa [markPs] using h
    have := markPs_at ps (n + 2) j h2
    simp only [markPs, List.getElem_cons_succ]
    rw [this, show n + 2 + 2 * (j : Int) = n + 2 * ((j + 1 : Nat) : Int) by omega]
theorem markSs_at : ∀ (l : List S146) (n : Int) (j : Nat) (h : j < (markSs n l).length), (markSs n l)[j] = ⟨n + 4 * (j : Int), n + 4 * (j : Int) + 1, n + 4 * (j : Int) + 2, txt (n + 4 * (j : Int) + 3)⟩
  | [], n, j, h => by simp [markSs] at h
  | p :: ps, n, 0, h => by simp [markSs]
  | p :: ps, n, j + 1, h => by
    have h2 : j < (markSs (n + 4) ps).length := by simpa [markSs] using h
    have := markSs_at ps (n + 4) j h2
    simp only [markSs, List.getElem_cons_succ]
    rw [this, show n + 4 + 4 * (j : Int) = n + 4 * ((j + 1 : Nat) : Int) by omega]
set_option maxHeartbeats 6400000 in
set_option maxRecDepth 100000 in
theorem held72.calls (A : Option Addr) (c : Nat) (P : List S157) (n : Int) (w : World) (hr : Kd.C k157 w A P.length (markPs n P)) (h0 : 0 ≤ n) (hmax : n + 2 * (P.length : Int) < 4611686018427387000) :
    Calls Try.prog 72 #[.slice A P.length c, .int .i64 n] w fun e w' => e = .returned (.int .i64 (n + 2 * (P.length : Int))) ∧ Below w.heap.size w w' := by
  have HR := Aside0.mk hr
  have HMAX := Aside0.mk hmax
  clear hr hmax
  go_enter Try.func72, Try.ntmps72
  go_wp2_with fail
  go_loopg [1, 5] P.length (fun k v1 v5 wr => ∃ (j : Nat) (m : Int), j + k = P.length ∧ m = n + 2 * (j : Int) ∧ v1 = .int .i64 m ∧ v5 = .int .i64 j ∧ Below w.heap.size w wr)
  case atStart => exact ⟨0, n, by omega, by omega, rfl, rfl, Below.refl _ _⟩
  case round =>
    obtain ⟨j, m, hjk, hm, rfl, rfl, hB⟩ := hrel
    by_cases hlt : j < P.length
    · obtain ⟨ad, rfl, h0, h1⟩ := at_T157 HR.out (j : Int) (by omega) (by omega)
      have hl : j < (markPs n P).length := by rw [markPs_len]; exact hlt
      have hat := markPs_at P n j hl
      rw [rd157_at hl, hat, ← hm] at h0 h1
      simp only [Int.toNat_natCast] at h0 h1
      have K0 := Aside0.mk h0
      have K1 := Aside0.mk h1
      have hj0 : (0 : Int) ≤ (j : Int) := by omega
      have hj1 : (j : Int) < (P.length : Int) := by omega
      have hm0 : 0 ≤ m := by omega
      have hm1 : m + 2 < 4611686018427387000 := by have := HMAX.out; omega
      have hjb : (j : Int) ≤ 4611686018427387000 := by have := HMAX.out; omega
      have HJK := Aside0.mk hjk
      have HM := Aside0.mk hm
      have HB := Aside0.mk hB
      clear hjk hm hat hl hB h0 h1
      go_wp2_with fail
      have hB' := below_drew1 HB.out
      have hx := pw_cell_below hB' K0.out
      refine RG.rs 8 (fun w' => w'.cell? (ad.add (j * 2)) = some (.string (txt m))) [] (by kernel_rfl) rfl hx (fun hHeld => ?_)
      generalize wr.drew = wd at hB' hx hHeld ⊢
      clear hx
      refine RG.rp (v := ?_) (a' := ?_) 0 12 rfl rfl (by kernel_rfl) (fun _ _ _ h => h) (by rfl) ?_ ?_ ?_; rotate_left 2; (intro w'; go_simp; with_reducible rfl); (go_simp; rfl)
      refine RG.rp (v := ?_) (a' := ?_) 1 13 rfl rfl (by kernel_rfl) (fun _ _ _ h => h) (by rfl) ?_ ?_ ?_; rotate_left 2; (intro w'; go_simp; with_reducible rfl); (go_simp; rfl)
      refine RG.rp (v := ?_) (a' := ?_) 2 14 rfl rfl (by kernel_rfl) (fun _ _ _ h => h) (by rfl) ?_ ?_ ?_; rotate_left 2; (intro w'; go_simp; with_reducible rfl); (go_simp; rfl)
      refine RG.rp (v := ?_) (a' := ?_) 3 15 rfl rfl (by kernel_rfl) (fun _ _ _ h => h) (by rfl) ?_ ?_ ?_; rotate_left 2; (intro w'; go_simp; with_reducible rfl); (go_simp; rfl)
      refine RG.rt (v := ?_) (a' := ?_) 4 16 rfl rfl (by kernel_rfl) (fun _ _ _ h => h) (by rfl) ?_ hHeld ?_ ?_; rotate_left 2; (intro w' s0; go_simp; with_reducible rfl); (go_simp; rfl)
      refine RG.rp (v := ?_) (a' := ?_) 5 17 rfl rfl (by kernel_rfl) (fun _ _ _ h => h) (by rfl) ?_ ?_ ?_; rotate_left 2; (intro w'; go_simp; with_reducible rfl); (go_simp; rfl)
      refine RG.r1 6 (some 18) rfl rfl (by kernel_rfl) (by decide) (fun K hK => ?_)
      refine goes_ Try.func69 (by kernel_rfl) rfl #[.int .i64 (m)] (by rfl) rfl rfl (by simp only [List.map_toArray, List.map_cons, List.map_nil]; rfl) ?_
      refine (laws_markText.calls 64 _ _ _ (mt_f (by omega) (by omega))).mono ?_
      rintro e w5 ⟨rfl, hB5⟩
      replace HB := Aside0.mk (below_then hB' hB'.size hB5)
      refine ⟨_, rfl, hK.out _ _ (pw_cell_keep hB5 hHeld) (fun _ => ?_)⟩
      clear hB5 hHeld hB'
      clear hK K
      refine norm_ (a' := ?_) ?_ ?_; rotate_left; (show Act.put _ (some 18) _ = _; go_simp; rfl)
      refine RG.rp (v := ?_) (a' := ?_) 7 19 rfl rfl (by kernel_rfl) (fun _ _ _ h => h) (by rfl) ?_ ?_ ?_; rotate_left 2; (intro w'; go_simp; with_reducible rfl); (go_simp; rfl)
      refine done_ (by kernel_rfl) ?_
      go_wp2_with fail
      have hB' := below_drew1 HB.out
      have hx := pw_cell_below hB' K1.out
      refine RG.rs 8 (fun w' => w'.cell? ⟨(ad.add (j * 2)).block, (ad.add (j * 2)).off + 1, none⟩ = some (.string (txt (m + 1)))) [] (by kernel_rfl) rfl hx (fun hHeld => ?_)
      generalize w5.drew = wd at hB' hx hHeld ⊢
      clear hx
      refine RG.rp (v := ?_) (a' := ?_) 0 22 rfl rfl (by kernel_rfl) (fun _ _ _ h => h) (by rfl) ?_ ?_ ?_; rotate_left 2; (intro w'; go_simp; with_reducible rfl); (go_simp; rfl)
      refine RG.rp (v := ?_) (a' := ?_) 1 23 rfl rfl (by kernel_rfl) (fun _ _ _ h => h) (by rfl) ?_ ?_ ?_; rotate_left 2; (intro w'; go_simp; with_reducible rfl); (go_simp; rfl)
      refine RG.rp (v := ?_) (a' := ?_) 2 24 rfl rfl (by kernel_rfl) (fun _ _ _ h => h) (by rfl) ?_ ?_ ?_; rotate_left 2; (intro w'; go_simp; with_reducible rfl); (go_simp; rfl)
      refine RG.rp (v := ?_) (a' := ?_) 3 25 rfl rfl (by kernel_rfl) (fun _ _ _ h => h) (by rfl) ?_ ?_ ?_; rotate_left 2; (intro w'; go_simp; with_reducible rfl); (go_simp; rfl)
      refine RG.rt (v := ?_) (a' := ?_) 4 26 rfl rfl (by kernel_rfl) (fun _ _ _ h => h) (by rfl) ?_ hHeld ?_ ?_; rotate_left 2; (intro w' s0; go_simp; with_reducible rfl); (go_simp; rfl)
      refine RG.rp (v := ?_) (a' := ?_) 5 27 rfl rfl (by kernel_rfl) (fun _ _ _ h => h) (by rfl) ?_ ?_ ?_; rotate_left 2; (intro w'; go_simp; with_reducible rfl); (go_simp; rfl)
      refine RG.r1 6 (some 28) rfl rfl (by kernel_rfl) (by decide) (fun K hK => ?_)
      refine goes_ Try.func69 (by kernel_rfl) rfl #[.int .i64 (m + 1)] (by rfl) rfl rfl (by simp only [List.map_toArray, List.map_cons, List.map_nil]; rfl) ?_
      refine (laws_markText.calls 64 _ _ _ (mt_f (by omega) (by omega))).mono ?_
      rintro e w6 ⟨rfl, hB5⟩
      replace HB := Aside0.mk (below_then hB' hB'.size hB5)
      refine ⟨_, rfl, hK.out _ _ (pw_cell_keep hB5 hHeld) (fun _ => ?_)⟩
      clear hB5 hHeld hB'
      clear hK K
      refine norm_ (a' := ?_) ?_ ?_; rotate_left; (show Act.put _ (some 28) _ = _; go_simp; rfl)
      refine RG.rp (v := ?_) (a' := ?_) 7 29 rfl rfl (by kernel_rfl) (fun _ _ _ h => h) (by rfl) ?_ ?_ ?_; rotate_left 2; (intro w'; go_simp; with_reducible rfl); (go_simp; rfl)
      refine done_ (by kernel_rfl) ?_
      go_wp2_with fail
      go_roundg (gk - 1)
      case measure => have := HJK.out; omega
      case rel => exact ⟨j + 1, m + 1 + 1, by have := HJK.out; omega, by have := HM.out; omega, rfl, by go_num, HB.out⟩
    · have hj : j = P.length := by omega
      subst hj
      have hj1 : ¬ (P.length : Int) < (P.length : Int) := by omega
      have HM := Aside0.mk hm
      have HB := Aside0.mk hB
      clear hB hm hjk hlt
      go_wp2_with fail
      go_ret
      exact ⟨ret_ii HM.out, HB.out⟩
set_option maxHeartbeats 6400000 in
set_option maxRecDepth 100000 in
theorem held73.calls (A : Option Addr) (c : Nat) (P : List S146) (n : Int) (w : World) (hr : Kd.C k146 w A P.length (markSs n P)) (h0 : 0 ≤ n) (hmax : n + 4 * (P.length : Int) < 4611686018427387000) :
    Calls Try.prog 73 #[.slice A P.length c, .int .i64 n] w fun e w' => e = .returned (.int .i64 (n + 4 * (P.length : Int))) ∧ Below w.heap.size w w' := by
  have HR := Aside0.mk hr
  have HMAX := Aside0.mk hmax
  clear hr hmax
  go_enter Try.func73, Try.ntmps73
  go_wp2_with fail
  go_loopg [1, 5] P.length (fun k v1 v5 wr => ∃ (j : Nat) (m : Int), j + k = P.length ∧ m = n + 4 * (j : Int) ∧ v1 = .int .i64 m ∧ v5 = .int .i64 j ∧ Below w.heap.size w wr)
  case atStart => exact ⟨0, n, by omega, by omega, rfl, rfl, Below.refl _ _⟩
  case round =>
    obtain ⟨j, m, hjk, hm, rfl, rfl, hB⟩ := hrel
    by_cases hlt : j < P.length
    · obtain ⟨ad, rfl, h0, h1, h2, h3⟩ := at_T146 HR.out (j : Int) (by omega) (by omega)
      have hl : j < (markSs n P).length := by rw [markSs_len]; exact hlt
      have hat := markSs_at P n j hl
      rw [rd146_at hl, hat, ← hm] at h0 h1 h2 h3
      simp only [Int.toNat_natCast] at h0 h1 h2 h3
      have K0 := Aside0.mk h0
      have K1 := Aside0.mk h1
      have K2 : Aside0 (w.cell? ⟨(ad.add (j * 4)).block, (ad.add (j * 4)).off + 2, none⟩ = some (.int .i64 (m + 1 + 1))) := ⟨by rw [show m + 1 + 1 = m + 2 by omega]; exact h2⟩
      have K3 : Aside0 (w.cell? ⟨(ad.add (j * 4)).block, (ad.add (j * 4)).off + 3, none⟩ = some (.string (txt (m + 1 + 1 + 1)))) := ⟨by rw [show m + 1 + 1 + 1 = m + 3 by omega]; exact h3⟩
      have hj0 : (0 : Int) ≤ (j : Int) := by omega
      have hj1 : (j : Int) < (P.length : Int) := by omega
      have hm0 : 0 ≤ m := by omega
      have hm1 : m + 4 < 4611686018427387000 := by have := HMAX.out; omega
      have hjb : (j : Int) ≤ 4611686018427387000 := by have := HMAX.out; omega
      have HJK := Aside0.mk hjk
      have HM := Aside0.mk hm
      have HB := Aside0.mk hB
      clear hjk hm hat hl hB h0 h1 h2 h3
      have h0 := pw_cell_below HB.out K0.out
      have h1 := pw_cell_below HB.out K1.out
      have h2 := pw_cell_below HB.out K2.out
      go_wp2_with fail
      clear h0 h1 h2
      have hB' := below_drew1 HB.out
      have hx := pw_cell_below hB' K3.out
      refine RG.rs 8 (fun w' => w'.cell? ⟨(ad.add (j * 4)).block, (ad.add (j * 4)).off + 3, none⟩ = some (.string (txt (m + 1 + 1 + 1)))) [] (by kernel_rfl) rfl hx (fun hHeld => ?_)
      generalize wr.drew = wd at hB' hx hHeld ⊢
      clear hx
      refine RG.rp (v := ?_) (a' := ?_) 0 39 rfl rfl (by kernel_rfl) (fun _ _ _ h => h) (by rfl) ?_ ?_ ?_; rotate_left 2; (intro w'; go_simp; with_reducible rfl); (go_simp; rfl)
      refine RG.rp (v := ?_) (a' := ?_) 1 40 rfl rfl (by kernel_rfl) (fun _ _ _ h => h) (by rfl) ?_ ?_ ?_; rotate_left 2; (intro w'; go_simp; with_reducible rfl); (go_simp; rfl)
      refine RG.rp (v := ?_) (a' := ?_) 2 41 rfl rfl (by kernel_rfl) (fun _ _ _ h => h) (by rfl) ?_ ?_ ?_; rotate_left 2; (intro w'; go_simp; with_reducible rfl); (go_simp; rfl)
      refine RG.rp (v := ?_) (a' := ?_) 3 42 rfl rfl (by kernel_rfl) (fun _ _ _ h => h) (by rfl) ?_ ?_ ?_; rotate_left 2; (intro w'; go_simp; with_reducible rfl); (go_simp; rfl)
      refine RG.rt (v := ?_) (a' := ?_) 4 43 rfl rfl (by kernel_rfl) (fun _ _ _ h => h) (by rfl) ?_ hHeld ?_ ?_; rotate_left 2; (intro w' s0; go_simp; with_reducible rfl); (go_simp; rfl)
      refine RG.rp (v := ?_) (a' := ?_) 5 44 rfl rfl (by kernel_rfl) (fun _ _ _ h => h) (by rfl) ?_ ?_ ?_; rotate_left 2; (intro w'; go_simp; with_reducible rfl); (go_simp; rfl)
      refine RG.r1 6 (some 45) rfl rfl (by kernel_rfl) (by decide) (fun K hK => ?_)
      refine goes_ Try.func69 (by kernel_rfl) rfl #[.int .i64 (m + 1 + 1 + 1)] (by rfl) rfl rfl (by simp only [List.map_toArray, List.map_cons, List.map_nil]; rfl) ?_
      refine (laws_markText.calls 64 _ _ _ (mt_f (by omega) (by omega))).mono ?_
      rintro e w5 ⟨rfl, hB5⟩
      replace HB := Aside0.mk (below_then hB' hB'.size hB5)
      refine ⟨_, rfl, hK.out _ _ (pw_cell_keep hB5 hHeld) (fun _ => ?_)⟩
      clear hB5 hHeld hB'
      clear hK K
      refine norm_ (a' := ?_) ?_ ?_; rotate_left; (show Act.put _ (some 45) _ = _; go_simp; rfl)
      refine RG.rp (v := ?_) (a' := ?_) 7 46 rfl rfl (by kernel_rfl) (fun _ _ _ h => h) (by rfl) ?_ ?_ ?_; rotate_left 2; (intro w'; go_simp; with_reducible rfl); (go_simp; rfl)
      refine done_ (by kernel_rfl) ?_
      go_wp2_with fail
      go_roundg (gk - 1)
      case measure => have := HJK.out; omega
      case rel => exact ⟨j + 1, m + 1 + 1 + 1 + 1, by have := HJK.out; omega, by have := HM.out; omega, rfl, by go_num, HB.out⟩
    · have hj : j = P.length := by omega
      subst hj
      have hj1 : ¬ (P.length : Int) < (P.length : Int) := by omega
      have HM := Aside0.mk hm
      have HB := Aside0.mk hB
      clear hB hm hjk hlt
      go_wp2_with fail
      go_ret
      exact ⟨ret_ii HM.out, HB.out⟩
set_option maxHeartbeats 3200000 in
set_option maxRecDepth 100000 in
theorem HeldT.held {W : World} {b : Nat} {ok : Nat → Prop} {A1 A2 : Option Addr} {c1 c2 : Nat} {P : List S157} {S : List S146} (h : HeldT W b ok A1 c1 (markPs 1 P) A2 c2 (markSs (1 + 2 * (P.length : Int)) S)) (hs : SizedT P S) :
    Calls Try.prog 22 #[.agg #[.slice A1 P.length c1, .slice A2 S.length c2], .int .i64 1] W fun e w' => e = .returned (.int .i64 (1 + 2 * (P.length : Int) + 4 * (S.length : Int))) ∧ Below W.heap.size W w' := by
  have H1 := Aside0.mk h
  have HS := Aside0.mk hs
  clear h hs
  go_enter Try.func22, Try.ntmps22
  go_wp2_with fail
  have hB0 := below_alloc (Below.refl W.heap.size W) (.cells #[.slice A1 P.length c1, .slice A2 S.length c2] 40)
  have hb0 := blk_new W (.cells #[.slice A1 P.length c1, .slice A2 S.length c2] 40)
  have HB0 := Aside0.mk hB0
  have Q0 := Aside0.mk hb0
  have hC := (H1.out.below hB0).cp
  rw [markPs_len] at hC
  have HC := Aside0.mk hC
  clear hB0 hb0 hC
  refine (held72.calls A1 c1 P 1 _ HC.out (by omega) (by have := HS.out.p; omega)).mono ?_
  rintro e w3 ⟨rfl, hB3⟩
  have HB3 := Aside0.mk (below_then HB0.out HB0.out.size hB3)
  obtain ⟨x0, x1⟩ := cells2 (blk_below Q0.out hB3)
  have hC := (H1.out.below HB3.out).cs
  rw [markSs_len] at hC
  have HC2 := Aside0.mk hC
  have hn : ¬ ((1 : Int) + 2 * (P.length : Int) < 0) := by omega
  clear hB3 hC x0 HC HB0
  go_wp2_with fail
  refine (held73.calls A2 c2 S (1 + 2 * (P.length : Int)) w3 HC2.out (by omega) (by have := HS.out.p; have := HS.out.s; omega)).mono ?_
  rintro e w4 ⟨rfl, hB4⟩
  have HB4 := Aside0.mk (below_then HB3.out HB3.out.size hB4)
  have hn2 : ¬ ((1 : Int) + 2 * (P.length : Int) + 4 * (S.length : Int) < 0) := by omega
  clear hB4 x1
  go_wp2_with fail
  go_ret
  exact ⟨rfl, HB4.out⟩
set_option maxHeartbeats 3200000 in
set_option maxRecDepth 100000 in
theorem HeldT.heldA {W : World} {b : Nat} {ok : Nat → Prop} {A1 A2 : Option Addr} {c1 c2 : Nat} {P : List S157} {S : List S146} (c r : Int) (v : ByteArray) (h : HeldT W b ok A1 c1 (markPs 1 P) A2 c2 (markSs (1 + 2 * (P.length : Int)) S)) (hs : SizedT P S) :
    Calls Try.prog 31 #[.agg #[.int .i64 c, .int .i64 r, .string v, .slice A1 P.length c1, .slice A2 S.length c2], .int .i64 1] W fun e w' => e = .returned (.int .i64 (1 + 2 * (P.length : Int) + 4 * (S.length : Int))) ∧ Below W.heap.size W w' := by
  have H1 := Aside0.mk h
  have HS := Aside0.mk hs
  clear h hs
  go_enter Try.func31, Try.ntmps31
  go_wp2_with fail
  have hB0 := below_alloc (Below.refl W.heap.size W) (.cells #[.int .i64 c, .int .i64 r, .string v, .slice A1 P.length c1, .slice A2 S.length c2] 58)
  refine ((H1.out.below hB0).held HS.out).mono ?_
  have HB0 := Aside0.mk hB0
  clear hB0
  rintro e w4 ⟨rfl, hB4⟩
  have HB4 := Aside0.mk (below_then HB0.out HB0.out.size hB4)
  have hn2 : ¬ ((1 : Int) + 2 * (P.length : Int) + 4 * (S.length : Int) < 0) := by omega
  clear hB4 HB0
  go_wp2_with fail
  go_ret
  exact ⟨rfl, HB4.out⟩
end Go.Proofs.Ytppegigcclflbaa.PFnExactApplyCmd
