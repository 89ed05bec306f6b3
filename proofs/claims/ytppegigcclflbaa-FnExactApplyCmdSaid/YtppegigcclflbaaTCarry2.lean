/- What impl's carry does. -/
import Derived.Test.YtppegigcclflbaaTChange
namespace Go.Proofs.Ytppegigcclflbaa.PFnExactApplyCmd
open Go.RowKit Go.Proofs.YtppegigcclflbaaW.PrintWords Go.Proofs.YtppegigcclflbaaW.PrintLast Go.Proofs.YtppegigcclflbaaW.PrintMore
open Go.Proofs.Ytppegigcclflbaa.PStr
open Go.Maps (has IsMap)

theorem Tabs.moreB {W : World} {base g bp np : Nat} {P : List S157} {bs ns : Nat} {S : List S146} (h : Tabs W base g bp np P bs ns S) : Tabs W base g bp (np + 1) P bs (ns + 1) S := by
  obtain ⟨D, hown, hD⟩ := h.sess
  have h2 := h.more
  exact ⟨h2.cells, h2.pairs, ⟨D, hown.mono (Nat.le_succ _), hD⟩, h2.g0, h2.p0, h2.s0, h2.ps⟩
theorem lookS_run {D : DataW Unit} {S : List S146} {w : World} {b n : Nat} (hown : w.ownsMap Try.prog 3 sessElem b n D) (hD : ∀ c : Int, has D (.int .i64 c) = (lookS S c).isSome ∧ ∀ s, lookS S c = some s → ∀ zd, D.atKey (.int .i64 c) zd = sessD s) {c : Int} (hc : -4000000000000000000 ≤ c ∧ c ≤ 4000000000000000000) :
    (Instr.lookup 153 (.map (some b)) (.int .i64 c) false).run Try.prog w = .ok (sessV ((lookS S c).getD z146)) w := by
  obtain ⟨v, ps, hrun, hv⟩ := hown.lookup (Maps.int_keyed Try.underlying3) Try.underlying153 (z := sessV z146) (by simp [Try.zeroValue146, sessV, z146]) (sessElem_mk z146) (key_int hc)
  obtain ⟨s, rfl, hs⟩ := sessElem_inv hv
  rw [hrun]
  obtain ⟨h1, h2⟩ := hD c
  simp only [Prod.mk.injEq] at hs
  have hs1 := hs.1
  cases hl : lookS S c with
  | none =>
    rw [hl] at h1
    rw [Go.Maps.atKey_of_not_has h1] at hs1
    rw [← sessD_inj hs1]
    rfl
  | some v =>
    rw [h2 v hl] at hs1
    rw [← sessD_inj hs1]
    rfl

set_option maxHeartbeats 3200000 in
set_option maxRecDepth 100000 in
theorem carry.keeps (w0 w : World) (g bp np : Nat) (P : List S157) (bs ns : Nat) (S : List S146) (c0 c1 c2 : Int) (key val old : ByteArray) (hB : Below w0.heap.size w0 w) (hT : Tabs w w0.heap.size g bp np P bs ns S)
    (hP : SortedP P) (hS : SortedS S) (hl : P.length ≤ 256) (hn : np ≤ 1000000000) (hns : ns ≤ 1000000000) (hc : c2 = 0 ∨ (c2 = 1 ∨ c2 = 2 ∨ c2 = 3 ∨ c2 = 4) ∧ 1 ≤ c0 ∧ c0 ≤ 8) (hk : key.size ≤ 1000000) (hv : val.size ≤ 1000000) :
    Calls Try.prog 64 #[.pointer (some ⟨g, 0, none⟩), .agg #[.int .i64 c0, .int .i64 c1, .int .i64 c2, .string key, .string val, .string old]] w fun e w' =>
      e = .returned (.tuple #[.int .i64 (applyF P S c0 c1 c2 key val old).1, .int .i64 (applyF P S c0 c1 c2 key val old).2.1, .string (applyF P S c0 c1 c2 key val old).2.2.1]) ∧ Tabs w' w0.heap.size g bp (np + 1) (applyF P S c0 c1 c2 key val old).2.2.2.1 bs (ns + 1) (applyF P S c0 c1 c2 key val old).2.2.2.2 ∧ Below w0.heap.size w0 w' ∧ Kept w w' (fun k => k = bp ∨ k = bs) := by
  obtain ⟨F, hF⟩ : ∃ F, F = applyF P S c0 c1 c2 key val old := ⟨_, rfl⟩
  rw [← hF]
  unfold applyF at hF
  have hnz := blk_new w (.cells #[.int .i64 c0, .int .i64 c1, .int .i64 c2, .string key, .string val, .string old] 61)
  have hTz := hT.below (below_alloc (Below.refl w.heap.size w) (.cells #[.int .i64 c0, .int .i64 c1, .int .i64 c2, .string key, .string val, .string old] 61))
  have hBz := below_alloc hB (.cells #[.int .i64 c0, .int .i64 c1, .int .i64 c2, .string key, .string val, .string old] 61)
  have HT := Aside0.mk hTz
  have HB := Aside0.mk hBz
  have HN := Aside0.mk hnz
  have HW0 := Aside0.mk hB.size
  have HF := Aside0.mk hF
  clear hT hTz hBz hnz hB hF
  go_enter Try.func64, Try.ntmps64
  by_cases h0 : c2 = 0
  · have hF := HF.out
    rw [if_pos h0] at hF
    subst hF
    subst h0
    go_wp2_with fail
    go_ret3
    first | exact ⟨rfl, HT.out.moreB, HB.out, Kept.of_below (below_alloc (Below.refl _ _) _) _⟩ | exact ⟨HT.out.moreB, HB.out, Kept.of_below (below_alloc (Below.refl _ _) _) _⟩
  · have hF := HF.out
    rw [if_neg h0] at hF
    have hcc := hc.resolve_left h0
    go_wp2_with fail
    obtain ⟨wz, hwz⟩ : ∃ wz, wz = w.alloc (.cells #[.int .i64 c0, .int .i64 c1, .int .i64 c2, .string key, .string val, .string old] 61) := ⟨_, rfl⟩
    have hTz := HT.out
    have hBz := HB.out
    have hNz := HN.out
    have hKz : Kept w wz (fun k => k = bp ∨ k = bs) := by rw [hwz]; exact Kept.of_below (below_alloc (Below.refl _ _) _) _
    have HKz := Aside0.mk hKz
    clear hKz
    rw [← hwz] at hTz hBz hNz ⊢
    clear hwz HT HB HN
    obtain ⟨D, hown, hD⟩ := hTz.sess
    obtain ⟨X, hX⟩ : ∃ X, X = (lookS S c0).getD z146 := ⟨_, rfl⟩
    rw [← hX] at hF
    have hall : ∀ w5, Below wz.heap.size wz w5 → w5.cell? ⟨g, 1, none⟩ = some (.map (some bs)) ∧ w5.cell? ⟨w.heap.size, 0, none⟩ = some (.int .i64 c0) ∧ (Instr.lookup 153 (.map (some bs)) (.int .i64 c0) false).run Try.prog w5 = .ok (.agg #[.int .i64 X.f0, .int .i64 X.f1, .int .i64 X.f2, .string X.f3]) w5 := by
      intro w5 hb
      refine ⟨(cells2 (blk_below hTz.cells hb)).2, (cells6 (blk_below hNz hb)).1, ?_⟩
      have h := lookS_run (w := w5) (hown.kept (grown_of_below hb none) (by simp)) hD (c := c0) (by omega)
      rw [← hX] at h
      exact h
    have HALL := Aside0.mk hall
    have HT := Aside0.mk hTz
    have HB := Aside0.mk hBz
    have HN := Aside0.mk hNz
    have HX := Aside0.mk hX
    clear hTz hBz hNz hown hD hX hall
    obtain ⟨xa, xb, xc⟩ := HALL.out wz.drew (below_drew (Below.refl _ _))
    obtain ⟨ya, yb, yc⟩ := HALL.out (wz.alloc (.cells #[.int .i64 0, .int .i64 0, .int .i64 0, .string ⟨#[]⟩] 146)).drew (below_drew (below_alloc (Below.refl _ _) _))
    obtain ⟨za, zb, zc⟩ := HALL.out (wz.alloc (.cells #[.int .i64 X.f0, .int .i64 X.f1, .int .i64 X.f2, .string X.f3] 146)).drew (below_drew (below_alloc (Below.refl _ _) _))
    go_region_held3 (fun w' => w'.cell? ⟨g, 1, none⟩ = some (.map (some bs)) ∧ w'.cell? ⟨w.heap.size, 0, none⟩ = some (.int .i64 c0) ∧ (Instr.lookup 153 (.map (some bs)) (.int .i64 c0) false).run Try.prog w' = .ok (.agg #[.int .i64 X.f0, .int .i64 X.f1, .int .i64 X.f2, .string X.f3]) w')
      (first | (with_reducible exact ⟨xa, xb, xc⟩) | (with_reducible exact ⟨ya, yb, yc⟩) | (with_reducible exact ⟨za, zb, zc⟩))
      (fail)
    all_goals
      clear xa xb xc ya yb yc za zb zc
      obtain ⟨w5, hw5⟩ : ∃ w5, w5 = (wz.alloc (.cells #[.int .i64 X.f0, .int .i64 X.f1, .int .i64 X.f2, .string X.f3] 146)).drew := ⟨_, rfl⟩
      have hb5 : Below wz.heap.size wz (wz.alloc (.cells #[.int .i64 X.f0, .int .i64 X.f1, .int .i64 X.f2, .string X.f3] 146)).drew := below_drew (below_alloc (Below.refl _ _) _)
      have hT5 := HT.out.below hb5
      have hB5 := below_then HB.out (by have := HB.out.size; omega) hb5
      have hN5 := blk_below HN.out hb5
      have hK5 := Kept.below HKz.out hb5
      have hX5 := blk_drew (blk_new wz (.cells #[.int .i64 X.f0, .int .i64 X.f1, .int .i64 X.f2, .string X.f3] 146))
      rw [← hw5] at hT5 hB5 hN5 hX5 hK5 ⊢
      clear hw5 hb5 HALL HT HB HN
      obtain ⟨t0, t1⟩ := cells2 hT5.cells
      obtain ⟨y0, y1, y2, y3, y4, y5⟩ := cells6 hN5
      have m1 : w5.cell? ⟨wz.heap.size, 1, none⟩ = some (.int .i64 X.f1) := (blk_cell hX5 1).trans rfl
      have m2 : w5.cell? ⟨wz.heap.size, 2, none⟩ = some (.int .i64 X.f2) := (blk_cell hX5 2).trans rfl
      have m3 : w5.cell? ⟨wz.heap.size, 3, none⟩ = some (.string X.f3) := (blk_cell hX5 3).trans rfl
      have HT := Aside0.mk hT5
      have HB := Aside0.mk hB5
      have HN := Aside0.mk hN5
      have HK := Aside0.mk hK5
      clear hT5 hB5 hN5 hX5 hK5
      by_cases h3 : X.f1 > c1
      · rw [if_pos h3] at hF
        subst hF
        go_wp2_with fail
        go_ret3
        first | exact ⟨rfl, HT.out.moreB, HB.out, HK.out⟩ | exact ⟨HT.out.moreB, HB.out, HK.out⟩
      · rw [if_neg h3] at hF
        by_cases h4 : X.f1 = c1
        · rw [if_pos h4] at hF
          subst hF
          have h4b : (X.f1 == c1) = true := by simpa using h4
          subst h4
          go_wp2_with fail
          go_quiet (fail)
          go_wp2
          go_ret3
          first | exact ⟨rfl, (HT.out.below (pw_below_drewN (Below.refl _ _) _)).moreB, pw_below_drewN HB.out _, Kept.drewN HK.out _⟩ | exact ⟨(HT.out.below (pw_below_drewN (Below.refl _ _) _)).moreB, pw_below_drewN HB.out _, Kept.drewN HK.out _⟩
        · rw [if_neg h4] at hF
          go_wp2_with fail
          refine (change.calls w0 w5 g bp np P bs ns S c0 c1 c2 key val old HB.out HT.out hP hl hn hcc.1 hk hv).mono ?_
          obtain ⟨C, hC⟩ : ∃ C, C = changeF P c2 key val old := ⟨_, rfl⟩
          rw [← hC] at hF ⊢
          clear hC
          rintro e w6 ⟨rfl, hT6, hB6, hK6⟩
          have HK6 : Aside0 (Kept w w6 (fun k => k = bp ∨ k = bs)) := ⟨HK.out.then_ hK6 (fun k hk => .inl (.inl hk))⟩
          subst hF
          have hN6 : w6.heap[w.heap.size]? = some (.cells #[.int .i64 c0, .int .i64 c1, .int .i64 c2, .string key, .string val, .string old] 61 (0, 0)) := by
            refine (hK6.2 w.heap.size (blk_lt HN.out) (fun e => ?_)).trans HN.out
            obtain ⟨D3, ⟨es, clock, hbb, _⟩, _⟩ := HT.out.pairs
            have h5 := HN.out
            rw [e, hbb] at h5
            cases h5
          clear t0 t1 y0 y1 y2 y3 y4 y5 m1 m2 m3
          obtain ⟨t0, t1⟩ := cells2 hT6.cells
          obtain ⟨y0, y1, y2, y3, y4, y5⟩ := cells6 hN6
          have HT6 := Aside0.mk hT6
          have HB6 := Aside0.mk hB6
          clear hT6 hB6 hN6
          go_wp2_with fail
          go_still_tail 13, (by kernel_rfl)
          obtain ⟨D2, hown2, hD2⟩ := HT6.out.sess
          refine wpList_mapUpdate_own _ rfl _ _ _ 153 rfl 3 146 (Maps.int_keyed Try.underlying3) Try.underlying153 sessElem bs ns D2 rfl hown2.drew (by unfold maxLen; omega) _ (sessV ⟨c0, c1, C.1, C.2.1⟩) (.int .i64 c0) rfl rfl (key_int (by omega)) _ [] (sessElem_mk _) ?_
          intro w7 hown7 hgrow7
          have hsn := putS hown2.isMap hS hD2 ⟨c0, c1, C.1, C.2.1⟩ hcc.2 ((Maps.int_keyed Try.underlying3).key (key_int (c := c0) (by omega)))
          have hgrow : w6.grownBy w7 (some bs) := ⟨hgrow7.os, hgrow7.tape, hgrow7.output, hgrow7.size, hgrow7.block⟩
          have HT7 := Aside0.mk (HT6.out.turnS hgrow ⟨_, hown7, hsn⟩)
          have hs0 := HT6.out.s0
          have HB7 := Aside0.mk (HB6.out.grown hgrow HB6.out.size (fun k hk => by injection hk with hk; omega))
          have HK7 : Aside0 (Kept w w7 (fun k => k = bp ∨ k = bs)) := ⟨HK6.out.of_grown hgrow (fun k hk => by injection hk with hk; exact .inl (.inr hk.symm))⟩
          clear hown7 hgrow7 hsn hgrow hown2 hD2
          go_wp2_with fail
          go_ret3
          first | exact ⟨rfl, HT7.out, HB7.out, HK7.out⟩ | exact ⟨HT7.out, HB7.out, HK7.out⟩
theorem carry.calls (w0 w : World) (g bp np : Nat) (P : List S157) (bs ns : Nat) (S : List S146) (c0 c1 c2 : Int) (key val old : ByteArray) (hB : Below w0.heap.size w0 w) (hT : Tabs w w0.heap.size g bp np P bs ns S)
    (hP : SortedP P) (hS : SortedS S) (hl : P.length ≤ 256) (hn : np ≤ 1000000000) (hns : ns ≤ 1000000000) (hc : c2 = 0 ∨ (c2 = 1 ∨ c2 = 2 ∨ c2 = 3 ∨ c2 = 4) ∧ 1 ≤ c0 ∧ c0 ≤ 8) (hk : key.size ≤ 1000000) (hv : val.size ≤ 1000000) :
    Calls Try.prog 64 #[.pointer (some ⟨g, 0, none⟩), .agg #[.int .i64 c0, .int .i64 c1, .int .i64 c2, .string key, .string val, .string old]] w fun e w' =>
      e = .returned (.tuple #[.int .i64 (applyF P S c0 c1 c2 key val old).1, .int .i64 (applyF P S c0 c1 c2 key val old).2.1, .string (applyF P S c0 c1 c2 key val old).2.2.1]) ∧ Tabs w' w0.heap.size g bp (np + 1) (applyF P S c0 c1 c2 key val old).2.2.2.1 bs (ns + 1) (applyF P S c0 c1 c2 key val old).2.2.2.2 ∧ Below w0.heap.size w0 w' :=
  (carry.keeps w0 w g bp np P bs ns S c0 c1 c2 key val old hB hT hP hS hl hn hns hc hk hv).mono fun _ _ ⟨h1, h2, h3, _⟩ => ⟨h1, h2, h3⟩
end Go.Proofs.Ytppegigcclflbaa.PFnExactApplyCmd
