/- What impl's tell answers: the table. -/
import Derived.Test.YtppegigcclflbaaTSort
import Derived.Test.YtppegigcclflbaaTCarry2
import Derived.Test.YtppegigcclflbaaRG
set_option linter.unusedSimpArgs false
namespace Go.Proofs.Ytppegigcclflbaa.PFnExactApplyCmd
open Go.RowKit Go.Proofs.YtppegigcclflbaaW.PrintWords Go.Proofs.YtppegigcclflbaaW.PrintLast Go.Proofs.YtppegigcclflbaaW.PrintMore
open Go.Proofs.Ytppegigcclflbaa.PStr
open Go.Maps (has IsMap)

theorem lookP_run1 {D : DataW Unit} {P : List S157} {w : World} {b n : Nat} (hown : w.ownsMap Try.prog 9 (plainElem Try.prog 9) b n D) (hD : ∀ k : List UInt8, has D (.string k) = (lookP P k).isSome ∧ ∀ v, lookP P k = some v → ∀ zd, D.atKey (.string k) zd = .lit (.string v.data.toList)) {key v : ByteArray} (hk : key.size ≤ 1000000) (hv : lookP P key.toList = some v) :
    (Instr.lookup 152 (.map (some b)) (.string key) false).run Try.prog w = .ok (.string v) w := by
  obtain ⟨u, ps, hrun, hu⟩ := hown.lookup (Maps.string_keyed Try.underlying9) Try.underlying152 (z := .string ⟨#[]⟩) (by simp [Try.zeroValue9]) (plainElem_string Try.underlying9 (s := ⟨#[]⟩) (by decide)) (key_str hk)
  obtain ⟨s, rfl, hs⟩ := plainElem_string_inv hu
  rw [hrun]
  obtain ⟨_, h2⟩ := hD key.data.toList
  simp only [Prod.mk.injEq] at hs
  have hs1 := hs.1
  rw [tl] at hv
  rw [h2 v hv] at hs1
  simp at hs1
  have e : s = v := data_inj (by simpa using hs1.symm)
  rw [e]

theorem lookP_tabs {W : World} {base g bp np : Nat} {P : List S157} {bs ns : Nat} {S : List S146} (h : Tabs W base g bp np P bs ns S) {key v : ByteArray} (hk : key.size ≤ 1000000) (hv : lookP P key.toList = some v) :
    (Instr.lookup 152 (.map (some bp)) (.string key) false).run Try.prog W = .ok (.string v) W := by
  obtain ⟨D, hown, hD⟩ := h.pairs
  exact lookP_run1 hown hD hk hv
theorem lookS_tabs {W : World} {base g bp np : Nat} {P : List S157} {bs ns : Nat} {S : List S146} (h : Tabs W base g bp np P bs ns S) {p : S146} (hk : 1 ≤ p.f0 ∧ p.f0 ≤ 8) (hv : lookS S p.f0 = some p) :
    (Instr.lookup 153 (.map (some bs)) (.int .i64 p.f0) false).run Try.prog W = .ok (.agg #[.int .i64 p.f0, .int .i64 p.f1, .int .i64 p.f2, .string p.f3]) W := by
  obtain ⟨D, hown, hD⟩ := h.sess
  have hr := lookS_run hown hD (c := p.f0) (by omega)
  rw [hv] at hr
  exact hr
theorem grown_set (W : World) (b o : Nat) (v : Value) : W.grownBy (W.setCell ⟨b, o, none⟩ v) (some b) :=
  ⟨rfl, rfl, rfl, by simp, fun i _ hi => Below.heap_setCell W ⟨b, o, none⟩ v i (fun e => hi (by rw [e]))⟩
theorem Tabs.step {W W1 : World} {base g bp np : Nat} {P : List S157} {bs ns : Nat} {S : List S146} {row : Option Nat} (h : Tabs W base g bp np P bs ns S) (hg : W.grownBy W1 row) (hr : ∀ k, row = some k → k ≠ g ∧ k ≠ bp ∧ k ≠ bs) : Tabs W1 base g bp np P bs ns S :=
  ⟨(hg.block g (blk_lt h.cells) (fun e => (hr g e.symm).1 rfl)).trans h.cells, h.pairs.kept hg (fun e => (hr bp e.symm).2.1 rfl), h.sess.kept hg (fun e => (hr bs e.symm).2.2 rfl), h.g0, h.p0, h.s0, h.ps⟩

set_option maxHeartbeats 6400000 in
set_option maxRecDepth 100000 in
theorem tell.calls (w0 w : World) (g bp np : Nat) (P : List S157) (bs ns : Nat) (S : List S146) (hT : Tabs w w0.heap.size g bp np P bs ns S)
    (hP : SortedP P) (hS : SortedS S) (hl : P.length ≤ 1000000) (hls : S.length ≤ 1000000) (hns : ns ≤ 1000000000) (hk : ∀ p ∈ P, p.f0.size ≤ 1000000) :
    Calls Try.prog 65 #[.pointer (some ⟨g, 0, none⟩)] w fun e w' => ∃ B1 e1 B2 e2, e = .returned (.agg #[.slice B1 P.length e1, .slice B2 S.length e2]) ∧ HeldT w' w.heap.size (fun _ => True) B1 e1 P B2 e2 S ∧ Below w.heap.size w w' := by
  have HT := Aside0.mk hT
  have HP := Aside0.mk hP
  have HS := Aside0.mk hS
  have HK := Aside0.mk hk
  clear hT hP hS hk
  go_enter Try.func65, Try.ntmps65
  obtain ⟨wz, hwz⟩ : ∃ wz, wz = (w.alloc (.cells #[.slice none 0 0, .slice none 0 0] 40)).alloc (.cells #[.slice none 0 0, .slice none 0 0] 40) := ⟨_, rfl⟩
  have hBz : Below w.heap.size w wz := by rw [hwz]; exact below_alloc (below_alloc (Below.refl _ _) _) _
  have hTz := HT.out.below hBz
  obtain ⟨t0, t1⟩ := cells2 hTz.cells
  rw [hwz] at t0 t1
  go_wp2_with fail
  have hz0 : wz.heap[w.heap.size]? = some (.cells #[.slice none 0 0, .slice none 0 0] 40 (0, 0)) := by rw [hwz]; exact blk_alloc (blk_new _ _) _
  have hz1 : wz.heap[w.heap.size + 1]? = some (.cells #[.slice none 0 0, .slice none 0 0] 40 (0, 0)) := by
    rw [hwz]
    have := blk_new (w.alloc (.cells #[.slice none 0 0, .slice none 0 0] 40)) (.cells #[.slice none 0 0, .slice none 0 0] 40)
    simpa using this
  rw [← hwz] at t0 t1 ⊢
  clear hwz
  refine (keys112.calls (some bp) wz).mono ?_
  rintro e w1 ⟨rfl, rfl⟩
  have HTz := Aside0.mk hTz
  have HBz := Aside0.mk hBz
  have HZ0 := Aside0.mk hz0
  have HZ1 := Aside0.mk hz1
  clear hTz hBz hz0 hz1 t0 t1
  go_wp2_with fail
  refine (sorted111.calls bp np P wz HTz.out.pairs HP.out hl).mono ?_
  rintro e w2 ⟨vk, rfl, hRk, hB2⟩
  obtain ⟨Ak, ck, hv⟩ := Kd.R_slice hRk
  subst hv
  have hT2 := HTz.out.below hB2
  have h20 := blk_below HZ0.out hB2
  have h21 := blk_below HZ1.out hB2
  have hBw2 := below_then HBz.out HBz.out.size hB2
  rw [List.length_map] at hRk
  have hRk' := Kd.R_lower hRk HBz.out.size
  have HT2 := Aside0.mk hT2
  have H20 := Aside0.mk h20
  have H21 := Aside0.mk h21
  have HB2 := Aside0.mk hBw2
  have HRk := Aside0.mk hRk'
  clear hRk hRk' hB2 hT2 h20 h21 hBw2 HTz HBz HZ0 HZ1
  go_wp2_with fail
  go_loopg [15] P.length (fun k i wr => ∃ (j : Nat) (u : Value), j + k = P.length ∧ i = .int .i64 j ∧ Tabs wr w0.heap.size g bp np P bs ns S ∧ wr.heap[w.heap.size]? = some (.cells #[.slice none 0 0, .slice none 0 0] 40 (0, 0)) ∧ wr.heap[w.heap.size + 1]? = some (.cells #[u, .slice none 0 0] 40 (0, 0)) ∧ Kd.R k157 157 wr w.heap.size (fun _ => True) u (P.take j) ∧ Kd.R Kd.string 9 wr w.heap.size (fun _ => True) (.slice Ak P.length ck) (P.map (fun p => p.f0)) ∧ Below w.heap.size w wr)
  case atStart => exact ⟨0, .slice none 0 0, by omega, rfl, HT2.out, H20.out, H21.out, Kd.R_nil _ _ _ _ _, HRk.out, HB2.out⟩
  case round =>
    obtain ⟨j, u, hjk, rfl, hT, h0, h1, hR, hRk, hB⟩ := hrel
    by_cases hlt : j < P.length
    · obtain ⟨p, hpe⟩ : ∃ p, p = P[j] := ⟨_, rfl⟩
      have hPl : (P.map (fun p => p.f0)).length = P.length := List.length_map ..
      have hC := (Kd.R_reads' hRk).2.2
      obtain ⟨ad, cc, hA, hcl, hKc, hcc⟩ := Kd.C_get hC (⟨#[]⟩ : ByteArray) (j : Int) (by omega) (by omega)
      subst hA
      clear hcl
      have hKc' : cc = [.string p.f0] := by
        have hh : cc = [.string ((P.map (fun p => p.f0)).getD (j : Int).toNat ⟨#[]⟩)] := hKc
        rw [hh, Int.toNat_natCast, List.getD_eq_getElem?_getD, List.getElem?_map, List.getElem?_eq_getElem hlt, hpe]
        rfl
      subst hKc'
      have hkc : wr.cell? (ad.add j) = some (.string p.f0) := by
        have := hcc 0 _ rfl
        simpa [Kd.string, Kd.scalar] using this
      have hj0 : (0 : Int) ≤ (j : Int) := by omega
      have hj1 : (j : Int) < (P.length : Int) := by omega
      have hpm : p ∈ P := hpe ▸ List.getElem_mem hlt
      have HKp := Aside0.mk (HK.out p hpm)
      have HLp := Aside0.mk (lookP_mem HP.out hpm)
      have HTd := Aside0.mk (hT.below (below_drew1 (Below.refl _ _)))
      have Hd0 := Aside0.mk (blk_drew h0)
      have Hd1 := Aside0.mk (blk_drew h1)
      have HRd := Aside0.mk (Kd.R_drew hR)
      have HRkd := Aside0.mk (Kd.R_drew hRk)
      have HBd := Aside0.mk (below_drew1 hB)
      have HPE := Aside0.mk hpe
      have HJK := Aside0.mk hjk
      have HTr := Aside0.mk hT
      have H1 := Aside0.mk h1
      have HLT := Aside0.mk hlt
      have HPL := Aside0.mk hl
      have HTK : Aside0 (P.take j ++ [(⟨p.f0, p.f1⟩ : S157)] = P.take (j + 1)) := ⟨by rw [List.take_succ_eq_append_getElem hlt, ← hpe]⟩
      have HLg : Aside0 (g < w.heap.size) := ⟨blk_lt HT.out.cells⟩
      have HLp2 : Aside0 (bp < w.heap.size) := ⟨HT.out.pairs.lt⟩
      have HLs2 : Aside0 (bs < w.heap.size) := ⟨HT.out.sess.lt⟩
      clear hpe hjk hT h0 h1 hR hRk hB hC hKc hcc hPl hpm
      go_wp2_with fail
      refine RG.rs 14 (fun w' => w'.cell? ⟨w.heap.size + 1, 0, none⟩ = some u ∧ w'.cell? ⟨g, 0, none⟩ = some (.map (some bp)) ∧ (Instr.lookup 152 (.map (some bp)) (.string p.f0) false).run Try.prog w' = .ok (.string p.f1) w') [11, 13] (by kernel_rfl) rfl ⟨(blk_cell (blk_drew H1.out) 0).trans rfl, (blk_cell (blk_drew HTr.out.cells) 0).trans rfl, lookP_tabs HTd.out HKp.out HLp.out⟩ (fun hHeld => ?_)
      generalize wr.drew = wd at HTd Hd0 Hd1 HRd HRkd HBd hHeld ⊢
      refine RG.rp (v := ?_) (a' := ?_) 0 19 rfl rfl (by kernel_rfl) (fun _ _ _ h => h) (by rfl) ?_ ?_ ?_; rotate_left 2; (intro w'; go_simp; with_reducible rfl); (go_simp; rfl)
      refine RG.rp (v := ?_) (a' := ?_) 2 21 rfl rfl (by kernel_rfl) (fun _ _ _ h => h) (by rfl) ?_ ?_ ?_; rotate_left 2; (intro w'; go_simp; with_reducible rfl); (go_simp; rfl)
      refine RG.rp (v := ?_) (a' := ?_) 3 22 rfl rfl (by kernel_rfl) (fun _ _ _ h => h) (by rfl) ?_ ?_ ?_; rotate_left 2; (intro w'; go_simp; with_reducible rfl); (go_simp; rfl)
      refine RG.rp (v := ?_) (a' := ?_) 4 23 rfl rfl (by kernel_rfl) (fun _ _ _ h => h) (by rfl) ?_ ?_ ?_; rotate_left 2; (intro w'; go_simp; with_reducible rfl); (go_simp; rfl)
      refine RG.rp (v := ?_) (a' := ?_) 5 24 rfl rfl (by kernel_rfl) (fun _ _ _ h => h) (by rfl) ?_ ?_ ?_; rotate_left 2; (intro w'; go_simp; with_reducible rfl); (go_simp; rfl)
      refine RG.rt (v := ?_) (a' := ?_) 6 25 rfl rfl (by kernel_rfl) (fun _ _ _ h => h) (by rfl) ?_ hHeld ?_ ?_; rotate_left 2; (rintro w' ⟨s0, s1, s2⟩; go_simp; with_reducible rfl); (go_simp; rfl)
      refine RG.rp (v := ?_) (a' := ?_) 7 26 rfl rfl (by kernel_rfl) (fun _ _ _ h => h) (by rfl) ?_ ?_ ?_; rotate_left 2; (intro w'; go_simp; with_reducible rfl); (go_simp; rfl)
      refine RG.rt (v := ?_) (a' := ?_) 8 27 rfl rfl (by kernel_rfl) (fun _ _ _ h => h) (by rfl) ?_ hHeld ?_ ?_; rotate_left 2; (rintro w' ⟨s0, s1, s2⟩; go_simp; with_reducible rfl); (go_simp; rfl)
      refine RG.rp (v := ?_) (a' := ?_) 9 28 rfl rfl (by kernel_rfl) (fun _ _ _ h => h) (by rfl) ?_ ?_ ?_; rotate_left 2; (intro w'; go_simp; with_reducible rfl); (go_simp; rfl)
      refine RG.rt (v := ?_) (a' := ?_) 1 20 rfl rfl (by kernel_rfl) (fun _ _ _ h => h) (by rfl) ?_ hHeld ?_ ?_; rotate_left 2; (rintro w' ⟨s0, s1, s2⟩; go_simp; with_reducible rfl); (go_simp; rfl)
      refine RG.r1 10 (some 29) rfl rfl (by kernel_rfl) (by decide) (fun K hK => ?_)
      refine value_ (w1 := ?_) (v := ?_) (by rfl) rfl ?_ ?_; rotate_left 2; (go_simp; constructor; rfl; rfl)
      refine hK.out _ _ ⟨(blk_cell (blk_alloc Hd1.out _) 0).trans rfl, (blk_cell (blk_alloc HTd.out.cells _) 0).trans rfl, lookP_tabs (HTd.out.below (below_alloc (Below.refl _ _) _)) HKp.out HLp.out⟩ (fun hHeld => ?_)
      clear hK K
      refine norm_ (a' := ?_) ?_ ?_; rotate_left; (show Act.put _ (some 29) _ = _; go_simp; rfl)
      refine RG.rl 11 (some 30) rfl rfl (by kernel_rfl) (by decide) (fun K hK => ?_)
      refine Kd.R_append_step k157 (w0 := w) w.heap.size (by rfl) (.tmp 20) (.tmp 29) 37 157 (.agg #[(.string ⟨#[]⟩), (.string ⟨#[]⟩)]) 32 rfl Try.underlying37 info157 rfl (by decide) (by omega) u (P.take j) (⟨p.f0, p.f1⟩ : S157) [.string p.f0, .string p.f1] (fun _ => True) (fun _ => False) rfl rfl ?aP (fun _ hk => hk.elim) ?aF ?aO ?aB ?aS ?aL ?_
      (case aP => exact k157_mkM _ _ _ (⟨p.f0, p.f1⟩ : S157))
      (case aB => exact HBd.out)
      (case aF => exact (fun _ _ => trivial))
      (case aO => exact HRd.out)
      (case aS => exact HBd.out.size)
      (case aL => have := HPL.out; rw [List.length_take]; omega)
      intro v1 w5 ho hb hg hat
      rw [HTK.out] at ho
      obtain ⟨Av, cv, hv⟩ := Kd.R_slice ho
      generalize (P.take (j + 1)).length = n1 at hv
      subst hv
      refine hK.out _ _ ?_
      clear hK K
      refine norm_ (a' := ?_) ?_ ?_; rotate_left; (show Act.put _ (some 30) _ = _; go_simp; rfl)
      have hrow : ∀ k, u.ownBlock = some k → w.heap.size ≤ k := Kd.R_base HRd.out
      have HT5 := Aside0.mk (HTd.out.step hg (fun k hk => by have := hrow k hk; have := HLg.out; have := HLp2.out; have := HLs2.out; omega))
      have h0g : some w.heap.size ≠ u.ownBlock := Kd.R_ne HRd.out Hd0.out (by decide)
      have h1g : some (w.heap.size + 1) ≠ u.ownBlock := Kd.R_ne HRd.out Hd1.out (by decide)
      have HK5 := Aside0.mk (Kd.R_over' HRkd.out (Kd.R_typed HRd.out) (by decide) hg)
      have H05 := Aside0.mk (blk_grown Hd0.out hg h0g)
      have H15 := Aside0.mk (blk_grown Hd1.out hg h1g)
      have HB5 := Aside0.mk hb
      have HO5 := Aside0.mk ho
      clear ho hb hg hat hrow h0g h1g
      refine RG.rp (v := ?_) (a' := ?_) 12 31 rfl rfl (by kernel_rfl) (fun _ _ _ h => h) (by rfl) ?_ ?_ ?_; rotate_left 2; (intro w'; go_simp; with_reducible rfl); (go_simp; rfl)
      refine RG.rl 13 none rfl rfl (by kernel_rfl) (by decide) (fun K hK => ?_)
      have hs17 : w5.cell? ⟨w.heap.size + 1, 0, none⟩ = some u := (blk_cell H15.out 0).trans rfl
      have hfs17 := blk_frozen H15.out 0
      refine skip_ (w1 := ?_) (by rfl) rfl ?_ ?_; rotate_left; (go_simp; rfl)
      refine hK.out _ _ ?_
      clear hK K
      refine done_ (by kernel_rfl) ?_
      clear hs17 hfs17
      have hBs := below_set (j := 0) (v := .slice Av n1 cv) HB5.out (show w.heap.size ≤ w.heap.size + 1 by omega)
      have hTs := HT5.out.step (grown_set w5 (w.heap.size + 1) 0 (.slice Av n1 cv)) (fun k hk => by injection hk with hk; have := HLg.out; have := HLp2.out; have := HLs2.out; omega)
      have h0s := blk_far H05.out (p := ⟨w.heap.size + 1, 0, none⟩) (show w.heap.size ≠ w.heap.size + 1 by omega) (.slice Av n1 cv)
      have h1s := blk_put H15.out 0 (.slice Av n1 cv) (cs' := #[.slice Av n1 cv, .slice none 0 0]) (by simp)
      have hOs := Kd.R_set HO5.out H15.out (by decide) 0 (.slice Av n1 cv)
      have hKs := Kd.R_set HK5.out H15.out (by decide) 0 (.slice Av n1 cv)
      have HBs := Aside0.mk hBs
      have HTs := Aside0.mk hTs
      have H0s := Aside0.mk h0s
      have H1s := Aside0.mk h1s
      have HOs := Aside0.mk hOs
      have HKs := Aside0.mk hKs
      clear hBs hTs h0s h1s hOs hKs
      go_wp2_with fail
      go_roundg (gk - 1)
      case measure => have := HJK.out; omega
      case rel => exact ⟨j + 1, .slice Av n1 cv, by have := HJK.out; omega, by go_num, HTs.out, H0s.out, H1s.out, HOs.out, HKs.out, HBs.out⟩
    · have hj : j = P.length := by omega
      subst hj
      rw [List.take_length] at hR
      have hj1 : ¬ (P.length : Int) < (P.length : Int) := by omega
      obtain ⟨Au, cu, hv⟩ := Kd.R_slice hR
      subst hv
      obtain ⟨t0, t1⟩ := cells2 hT.cells
      have HTr := Aside0.mk hT
      have H0 := Aside0.mk h0
      have H1 := Aside0.mk h1
      have HR := Aside0.mk hR
      have HB := Aside0.mk hB
      clear hT h0 h1 hR hRk hB hjk hlt
      go_wp2_with fail
      refine (keys113.calls (some bs) wr).mono ?_
      rintro e w1 ⟨rfl, rfl⟩
      clear t0 t1
      go_wp2_with fail
      refine (sorted50.calls bs ns S wr HTr.out.sess HS.out hns).mono ?_
      rintro e w2 ⟨vk, rfl, hRk, hB2⟩
      obtain ⟨Ak2, ck2, hv⟩ := Kd.R_slice hRk
      subst hv
      rw [List.length_map] at hRk
      have HT2 := Aside0.mk (HTr.out.below hB2)
      have H20 := Aside0.mk (blk_below H0.out hB2)
      have H21 := Aside0.mk (blk_below H1.out hB2)
      have HR2 := Aside0.mk (Kd.R_below HR.out hB2)
      have HRk2 := Aside0.mk (Kd.R_lower hRk HB.out.size)
      have HB2 := Aside0.mk (below_then HB.out HB.out.size hB2)
      clear hRk hB2 HTr H0 H1 HR HB
      go_wp2_with fail
      go_loopg [40] S.length (fun k i wr => ∃ (j : Nat) (u : Value), j + k = S.length ∧ i = .int .i64 j ∧ Tabs wr w0.heap.size g bp np P bs ns S ∧ wr.heap[w.heap.size]? = some (.cells #[.slice none 0 0, .slice none 0 0] 40 (0, 0)) ∧ wr.heap[w.heap.size + 1]? = some (.cells #[.slice Au P.length cu, u] 40 (0, 0)) ∧ Kd.R k146 146 wr w.heap.size (fun _ => True) u (S.take j) ∧ Kd.R k157 157 wr w.heap.size (fun _ => True) (.slice Au P.length cu) P ∧ Kd.R (Kd.int .i64) 3 wr w.heap.size (fun _ => True) (.slice Ak2 S.length ck2) (S.map (fun p => p.f0)) ∧ Below w.heap.size w wr)
      case atStart => exact ⟨0, .slice none 0 0, by omega, rfl, HT2.out, H20.out, H21.out, Kd.R_nil _ _ _ _ _, HR2.out, HRk2.out, HB2.out⟩
      case round =>
        clear HT2 H20 H21 HR2 HRk2 HB2
        obtain ⟨j, u, hjk, rfl, hT, h0, h1, hR, hRp, hRk, hB⟩ := hrel
        by_cases hlt : j < S.length
        · obtain ⟨p, hpe⟩ : ∃ p, p = S[j] := ⟨_, rfl⟩
          have hPl : (S.map (fun p => p.f0)).length = S.length := List.length_map ..
          have hC := (Kd.R_reads' hRk).2.2
          obtain ⟨ad, cc, hA, hcl, hKc, hcc⟩ := Kd.C_get hC (0 : Int) (j : Int) (by omega) (by omega)
          subst hA
          clear hcl
          have hKc' : cc = [.int .i64 p.f0] := by
            have hh : cc = [.int .i64 ((S.map (fun p => p.f0)).getD (j : Int).toNat 0)] := hKc
            rw [hh, Int.toNat_natCast, List.getD_eq_getElem?_getD, List.getElem?_map, List.getElem?_eq_getElem hlt, hpe]
            rfl
          subst hKc'
          have hkc : wr.cell? (ad.add j) = some (.int .i64 p.f0) := by
            have := hcc 0 _ rfl
            simpa [Kd.int, Kd.scalar] using this
          have hj0 : (0 : Int) ≤ (j : Int) := by omega
          have hj1 : (j : Int) < (S.length : Int) := by omega
          have hpm : p ∈ S := hpe ▸ List.getElem_mem hlt
          have HPI := Aside0.mk (HS.out.2 p hpm)
          have HLp := Aside0.mk (lookS_mem HS.out hpm)
          have HTd := Aside0.mk (hT.below (below_drew1 (Below.refl _ _)))
          have Hd0 := Aside0.mk (blk_drew h0)
          have Hd1 := Aside0.mk (blk_drew h1)
          have HRd := Aside0.mk (Kd.R_drew hR)
          have HRpd := Aside0.mk (Kd.R_drew hRp)
          have HRkd := Aside0.mk (Kd.R_drew hRk)
          have HBd := Aside0.mk (below_drew1 hB)
          have HPE := Aside0.mk hpe
          have HJK := Aside0.mk hjk
          have HTr := Aside0.mk hT
          have H1 := Aside0.mk h1
          have HPL := Aside0.mk hls
          have HTK : Aside0 (S.take j ++ [(⟨p.f0, p.f1, p.f2, p.f3⟩ : S146)] = S.take (j + 1)) := ⟨by rw [List.take_succ_eq_append_getElem hlt, ← hpe]⟩
          have HLg : Aside0 (g < w.heap.size) := ⟨blk_lt HT.out.cells⟩
          have HLp2 : Aside0 (bp < w.heap.size) := ⟨HT.out.pairs.lt⟩
          have HLs2 : Aside0 (bs < w.heap.size) := ⟨HT.out.sess.lt⟩
          clear hpe hjk hT h0 h1 hR hRp hRk hB hC hKc hcc hPl hpm
          go_wp2_with fail
          refine RG.rs 12 (fun w' => w'.cell? ⟨w.heap.size + 1, 1, none⟩ = some u ∧ w'.cell? ⟨g, 1, none⟩ = some (.map (some bs)) ∧ (Instr.lookup 153 (.map (some bs)) (.int .i64 p.f0) false).run Try.prog w' = .ok (.agg #[.int .i64 p.f0, .int .i64 p.f1, .int .i64 p.f2, .string p.f3]) w') [9, 11] (by kernel_rfl) rfl ⟨(blk_cell (blk_drew H1.out) 1).trans rfl, (blk_cell (blk_drew HTr.out.cells) 1).trans rfl, lookS_tabs HTd.out HPI.out HLp.out⟩ (fun hHeld => ?_)
          generalize wr.drew = wd at HTd Hd0 Hd1 HRd HRpd HRkd HBd hHeld ⊢
          refine RG.rp (v := ?_) (a' := ?_) 0 44 rfl rfl (by kernel_rfl) (fun _ _ _ h => h) (by rfl) ?_ ?_ ?_; rotate_left 2; (intro w'; go_simp; with_reducible rfl); (go_simp; rfl)
          refine RG.rp (v := ?_) (a' := ?_) 2 46 rfl rfl (by kernel_rfl) (fun _ _ _ h => h) (by rfl) ?_ ?_ ?_; rotate_left 2; (intro w'; go_simp; with_reducible rfl); (go_simp; rfl)
          refine RG.rp (v := ?_) (a' := ?_) 3 47 rfl rfl (by kernel_rfl) (fun _ _ _ h => h) (by rfl) ?_ ?_ ?_; rotate_left 2; (intro w'; go_simp; with_reducible rfl); (go_simp; rfl)
          refine RG.rp (v := ?_) (a' := ?_) 4 48 rfl rfl (by kernel_rfl) (fun _ _ _ h => h) (by rfl) ?_ ?_ ?_; rotate_left 2; (intro w'; go_simp; with_reducible rfl); (go_simp; rfl)
          refine RG.rt (v := ?_) (a' := ?_) 5 49 rfl rfl (by kernel_rfl) (fun _ _ _ h => h) (by rfl) ?_ hHeld ?_ ?_; rotate_left 2; (rintro w' ⟨s0, s1, s2⟩; go_simp; with_reducible rfl); (go_simp; rfl)
          refine RG.rp (v := ?_) (a' := ?_) 6 50 rfl rfl (by kernel_rfl) (fun _ _ _ h => h) (by rfl) ?_ ?_ ?_; rotate_left 2; (intro w'; go_simp; with_reducible rfl); (go_simp; rfl)
          refine RG.rt (v := ?_) (a' := ?_) 7 51 rfl rfl (by kernel_rfl) (fun _ _ _ h => h) (by rfl) ?_ hHeld ?_ ?_; rotate_left 2; (rintro w' ⟨s0, s1, s2⟩; go_simp; with_reducible rfl); (go_simp; rfl)
          refine RG.rt (v := ?_) (a' := ?_) 1 45 rfl rfl (by kernel_rfl) (fun _ _ _ h => h) (by rfl) ?_ hHeld ?_ ?_; rotate_left 2; (rintro w' ⟨s0, s1, s2⟩; go_simp; with_reducible rfl); (go_simp; rfl)
          refine RG.r1 8 (some 52) rfl rfl (by kernel_rfl) (by decide) (fun K hK => ?_)
          refine value_ (w1 := ?_) (v := ?_) (by rfl) rfl ?_ ?_; rotate_left 2; (go_simp; constructor; rfl; rfl)
          refine hK.out _ _ ⟨(blk_cell (blk_alloc Hd1.out _) 1).trans rfl, (blk_cell (blk_alloc HTd.out.cells _) 1).trans rfl, lookS_tabs (HTd.out.below (below_alloc (Below.refl _ _) _)) HPI.out HLp.out⟩ (fun hHeld => ?_)
          clear hK K
          refine norm_ (a' := ?_) ?_ ?_; rotate_left; (show Act.put _ (some 52) _ = _; go_simp; rfl)
          refine RG.rl 9 (some 53) rfl rfl (by kernel_rfl) (by decide) (fun K hK => ?_)
          refine Kd.R_append_step k146 (w0 := w) w.heap.size (by rfl) (.tmp 45) (.tmp 52) 38 146 (.agg #[(.int .i64 0), (.int .i64 0), (.int .i64 0), (.string ⟨#[]⟩)]) 40 rfl Try.underlying38 info146 rfl (by decide) (by omega) u (S.take j) (⟨p.f0, p.f1, p.f2, p.f3⟩ : S146) [.int .i64 p.f0, .int .i64 p.f1, .int .i64 p.f2, .string p.f3] (fun _ => True) (fun _ => False) rfl rfl ?aP (fun _ hk => hk.elim) ?aF ?aO ?aB ?aS ?aL ?_
          (case aP => exact k146_mkM _ _ _ (⟨p.f0, p.f1, p.f2, p.f3⟩ : S146))
          (case aB => exact HBd.out)
          (case aF => exact (fun _ _ => trivial))
          (case aO => exact HRd.out)
          (case aS => exact HBd.out.size)
          (case aL => have := HPL.out; rw [List.length_take]; omega)
          intro v1 w5 ho hb hg hat
          rw [HTK.out] at ho
          obtain ⟨Av, cv, hv⟩ := Kd.R_slice ho
          generalize (S.take (j + 1)).length = n1 at hv
          subst hv
          refine hK.out _ _ ?_
          clear hK K
          refine norm_ (a' := ?_) ?_ ?_; rotate_left; (show Act.put _ (some 53) _ = _; go_simp; rfl)
          have hrow : ∀ k, u.ownBlock = some k → w.heap.size ≤ k := Kd.R_base HRd.out
          have HT5 := Aside0.mk (HTd.out.step hg (fun k hk => by have := hrow k hk; have := HLg.out; have := HLp2.out; have := HLs2.out; omega))
          have h0g : some w.heap.size ≠ u.ownBlock := Kd.R_ne HRd.out Hd0.out (by decide)
          have h1g : some (w.heap.size + 1) ≠ u.ownBlock := Kd.R_ne HRd.out Hd1.out (by decide)
          have HK5 := Aside0.mk (Kd.R_over' HRkd.out (Kd.R_typed HRd.out) (by decide) hg)
          have HP5 := Aside0.mk (Kd.R_over' HRpd.out (Kd.R_typed HRd.out) (by decide) hg)
          have H05 := Aside0.mk (blk_grown Hd0.out hg h0g)
          have H15 := Aside0.mk (blk_grown Hd1.out hg h1g)
          have HB5 := Aside0.mk hb
          have HO5 := Aside0.mk ho
          clear ho hb hg hat hrow h0g h1g
          refine RG.rp (v := ?_) (a' := ?_) 10 54 rfl rfl (by kernel_rfl) (fun _ _ _ h => h) (by rfl) ?_ ?_ ?_; rotate_left 2; (intro w'; go_simp; with_reducible rfl); (go_simp; rfl)
          refine RG.rl 11 none rfl rfl (by kernel_rfl) (by decide) (fun K hK => ?_)
          have hs17 : w5.cell? ⟨w.heap.size + 1, 1, none⟩ = some u := (blk_cell H15.out 1).trans rfl
          have hfs17 := blk_frozen H15.out 1
          refine skip_ (w1 := ?_) (by rfl) rfl ?_ ?_; rotate_left; (go_simp; rfl)
          refine hK.out _ _ ?_
          clear hK K
          refine done_ (by kernel_rfl) ?_
          clear hs17 hfs17
          have hBs := below_set (j := 1) (v := .slice Av n1 cv) HB5.out (show w.heap.size ≤ w.heap.size + 1 by omega)
          have hTs := HT5.out.step (grown_set w5 (w.heap.size + 1) 1 (.slice Av n1 cv)) (fun k hk => by injection hk with hk; have := HLg.out; have := HLp2.out; have := HLs2.out; omega)
          have h0s := blk_far H05.out (p := ⟨w.heap.size + 1, 1, none⟩) (show w.heap.size ≠ w.heap.size + 1 by omega) (.slice Av n1 cv)
          have h1s := blk_put H15.out 1 (.slice Av n1 cv) (cs' := #[.slice Au P.length cu, .slice Av n1 cv]) (by simp)
          have hOs := Kd.R_set HO5.out H15.out (by decide) 1 (.slice Av n1 cv)
          have hPs := Kd.R_set HP5.out H15.out (by decide) 1 (.slice Av n1 cv)
          have hKs := Kd.R_set HK5.out H15.out (by decide) 1 (.slice Av n1 cv)
          have HBs := Aside0.mk hBs
          have HTs := Aside0.mk hTs
          have H0s := Aside0.mk h0s
          have H1s := Aside0.mk h1s
          have HOs := Aside0.mk hOs
          have HPs := Aside0.mk hPs
          have HKs := Aside0.mk hKs
          clear hBs hTs h0s h1s hOs hPs hKs
          go_wp2_with fail
          go_roundg (gk - 1)
          case measure => have := HJK.out; omega
          case rel => exact ⟨j + 1, .slice Av n1 cv, by have := HJK.out; omega, by go_num, HTs.out, H0s.out, H1s.out, HOs.out, HPs.out, HKs.out, HBs.out⟩
        · have hj : j = S.length := by omega
          subst hj
          rw [List.take_length] at hR
          have hj1 : ¬ (S.length : Int) < (S.length : Int) := by omega
          obtain ⟨As, cs, hv⟩ := Kd.R_slice hR
          subst hv
          obtain ⟨x0, x1⟩ := cells2 h1
          obtain ⟨y0, y1⟩ := cells2 h0
          have z0 := blk_frozen h0 0
          have z1 := blk_frozen h0 1
          have H0 := Aside0.mk h0
          have H1 := Aside0.mk h1
          have HR := Aside0.mk hR
          have HRp := Aside0.mk hRp
          have HB := Aside0.mk hB
          clear hT h0 h1 hR hRp hRk hB hjk hlt
          go_wp2_with fail
          have e1 := blk_put H0.out 0 (.slice Au P.length cu) (cs' := #[.slice Au P.length cu, .slice none 0 0]) (by simp)
          have e2 := blk_put e1 1 (.slice As S.length cs) (cs' := #[.slice Au P.length cu, .slice As S.length cs]) (by simp)
          refine bodyPost_ret (v := .agg #[.slice Au P.length cu, .slice As S.length cs]) (results_single rfl (Vals.cell w.heap.size 40 _ (0, 0) _ rfl e2 Try.underlying40 rfl (by kernel_rfl) Vals.nil)) rfl ?_
          refine ⟨Au, cu, As, cs, rfl, ⟨?_, ?_⟩, below_set (below_set HB.out (Nat.le_refl _)) (Nat.le_refl _)⟩
          · exact Kd.R_set (Kd.R_set HRp.out H0.out (by decide) 0 _) e1 (by decide) 1 _
          · exact Kd.R_set (Kd.R_set HR.out H0.out (by decide) 0 _) e1 (by decide) 1 _
end Go.Proofs.Ytppegigcclflbaa.PFnExactApplyCmd
