/- What impl's change and carry do. -/
import Derived.Test.YtppegigcclflbaaTCarry
import Derived.Test.YtppegigcclflbaaTKeys
namespace Go.Proofs.Ytppegigcclflbaa.PFnExactApplyCmd
open Go.RowKit Go.Proofs.YtppegigcclflbaaW.PrintWords Go.Proofs.YtppegigcclflbaaW.PrintLast Go.Proofs.YtppegigcclflbaaW.PrintMore
open Go.Proofs.Ytppegigcclflbaa.PStr
open Go.Maps (has IsMap)

theorem Tabs.more {W : World} {base g bp np : Nat} {P : List S157} {bs ns : Nat} {S : List S146} (h : Tabs W base g bp np P bs ns S) : Tabs W base g bp (np + 1) P bs ns S := by
  obtain ⟨D, hown, hD⟩ := h.pairs
  exact ⟨h.cells, ⟨D, hown.mono (Nat.le_succ _), hD⟩, h.sess, h.g0, h.p0, h.s0, h.ps⟩
theorem plainElem_string_inv {v : Value} {z : DataW Unit × List MemPlace} (h : plainElem Try.prog 9 v = some z) : ∃ s : ByteArray, v = .string s ∧ z = (.lit (.string s.data.toList), []) := by
  have hu := Try.underlying9
  generalize Try.prog = Pr at h hu
  unfold plainElem at h
  rw [hu] at h
  cases v <;> simp at h
  obtain ⟨_, rfl⟩ := h
  exact ⟨_, rfl, rfl⟩
theorem lookP_run {D : DataW Unit} {P : List S157} {w : World} {b n : Nat} (hown : w.ownsMap Try.prog 9 (plainElem Try.prog 9) b n D) (hD : ∀ k : List UInt8, has D (.string k) = (lookP P k).isSome ∧ ∀ v, lookP P k = some v → ∀ zd, D.atKey (.string k) zd = .lit (.string v.data.toList)) {key : ByteArray} (hk : key.size ≤ 1000000) :
    (Instr.lookup 152 (.map (some b)) (.string key) true).run Try.prog w = .ok (.tuple #[.string ((lookP P key.toList).getD ⟨#[]⟩), .bool (lookP P key.toList).isSome]) w := by
  obtain ⟨v, ps, hrun, hv⟩ := hown.look_ok (Maps.string_keyed Try.underlying9) Try.underlying152 (z := .string ⟨#[]⟩) (by simp [Try.zeroValue9]) (plainElem_string Try.underlying9 (s := ⟨#[]⟩) (by decide)) (key_str hk)
  obtain ⟨s, rfl, hs⟩ := plainElem_string_inv hv
  rw [hrun]
  obtain ⟨h1, h2⟩ := hD key.data.toList
  rw [← tl] at h1 h2
  simp only [Prod.mk.injEq] at hs
  have hs1 := hs.1
  rw [tl] at h1 h2 ⊢
  cases hl : lookP P key.data.toList with
  | none =>
    rw [hl] at h1
    rw [Go.Maps.atKey_of_not_has h1] at hs1
    rw [h1]
    simp at hs1
    have e : s = ⟨#[]⟩ := data_inj (by simpa using hs1.symm)
    rw [e]
    rfl
  | some v =>
    rw [hl] at h1
    rw [h2 v hl] at hs1
    simp at hs1
    have e : s = v := data_inj (by simpa using hs1.symm)
    rw [h1, e]
    rfl

set_option maxHeartbeats 3200000 in
set_option maxRecDepth 100000 in
theorem change.calls (w0 w : World) (g bp np : Nat) (P : List S157) (bs ns : Nat) (S : List S146) (c0 c1 c2 : Int) (key val old : ByteArray) (hB : Below w0.heap.size w0 w) (hT : Tabs w w0.heap.size g bp np P bs ns S)
    (hP : SortedP P) (hl : P.length ≤ 256) (hn : np ≤ 1000000000) (hc : c2 = 1 ∨ c2 = 2 ∨ c2 = 3 ∨ c2 = 4) (hk : key.size ≤ 1000000) (hv : val.size ≤ 1000000) :
    Calls Try.prog 110 #[.pointer (some ⟨g, 0, none⟩), .agg #[.int .i64 c0, .int .i64 c1, .int .i64 c2, .string key, .string val, .string old]] w fun e w' =>
      e = .returned (.tuple #[.int .i64 (changeF P c2 key val old).1, .string (changeF P c2 key val old).2.1]) ∧ Tabs w' w0.heap.size g bp (np + 1) (changeF P c2 key val old).2.2 bs ns S ∧ Below w0.heap.size w0 w' ∧ Kept w w' (fun k => k = bp) := by
  obtain ⟨C, hC⟩ : ∃ C, C = changeF P c2 key val old := ⟨_, rfl⟩
  rw [← hC]
  have hC' := hC
  unfold changeF at hC'
  obtain ⟨wz, hwz⟩ : ∃ wz, wz = w.alloc (.cells #[.int .i64 c0, .int .i64 c1, .int .i64 c2, .string key, .string val, .string old] 61) := ⟨_, rfl⟩
  have hTz := hT.below (below_alloc (Below.refl w.heap.size w) (.cells #[.int .i64 c0, .int .i64 c1, .int .i64 c2, .string key, .string val, .string old] 61))
  have hBz := below_alloc hB (.cells #[.int .i64 c0, .int .i64 c1, .int .i64 c2, .string key, .string val, .string old] 61)
  have hnz := blk_new w (.cells #[.int .i64 c0, .int .i64 c1, .int .i64 c2, .string key, .string val, .string old] 61)
  have hww := below_alloc (Below.refl w.heap.size w) (.cells #[.int .i64 c0, .int .i64 c1, .int .i64 c2, .string key, .string val, .string old] 61)
  rw [← hwz] at hTz hBz hnz hww
  have HWW := Aside0.mk hww
  obtain ⟨D, hown, hD⟩ := hTz.pairs
  have hsize := size_of hown (fun k => (hD k).1) hP
  have hrun : ∀ n, (Instr.lookup 152 (.map (some bp)) (.string key) true).run Try.prog (wz.drewN n) = .ok (.tuple #[.string ((lookP P key.toList).getD ⟨#[]⟩), .bool (lookP P key.toList).isSome]) (wz.drewN n) := fun n => lookP_run (w := wz.drewN n) hown hD hk
  obtain ⟨t0, t1⟩ := cells2 hTz.cells
  obtain ⟨y0, y1, y2, y3, y4, y5⟩ := cells6 hnz
  have HT := Aside0.mk hTz
  have HB := Aside0.mk hBz
  have HN := Aside0.mk hnz
  have HO := Aside0.mk hown
  have HD := Aside0.mk hD
  have HSZ := Aside0.mk hsize
  have HC := Aside0.mk hC'
  have HW0 := Aside0.mk hB.size
  clear hT hTz hBz hnz hown hD hsize hC hC' hB hww
  go_enter Try.func110, Try.ntmps110
  go_wp2_with fail
  rw [← hwz]
  clear hwz
  go_quiet (fail)
  obtain ⟨wy, hwy⟩ : ∃ wy, wy = wz.drewN nq := ⟨_, rfl⟩
  have hTy := HT.out.below (pw_below_drewN (Below.refl wz.heap.size wz) nq)
  have hBy := pw_below_drewN HB.out nq
  have hNy := blk_drewN HN.out nq
  have hKy := Kept.of_below (pw_below_drewN HWW.out nq) (fun k => k = bp)
  have hOy : (wz.drewN nq).ownsMap Try.prog 9 (plainElem Try.prog 9) bp np D := HO.out
  rw [← hwy] at hTy hBy hNy hOy hKy ⊢
  have HKY := Aside0.mk hKy
  clear hwy t0 t1 y0 y1 y2 y3 y4 y5 HT HB HN HO hrun
  obtain ⟨t0, t1⟩ := cells2 hTy.cells
  obtain ⟨y0, y1, y2, y3, y4, y5⟩ := cells6 hNy
  have hlen := hOy.len Try.underlying152 3
  rw [HSZ.out] at hlen
  have HT := Aside0.mk hTy
  have HB := Aside0.mk hBy
  have HN := Aside0.mk hNy
  have HO := Aside0.mk hOy
  clear hTy hBy hNy hOy hKy
  have hC' := HC.out
  cases hL : lookP P key.toList with
  | none =>
    rw [hL] at hC'
    simp only [Option.getD_none, Option.isSome_none] at hC' ⊢
    by_cases g2 : c2 = 2
    · subst g2
      rw [if_pos rfl] at hC'
      by_cases hlt : P.length < 256
      · rw [if_pos hlt] at hC'
        have hli : ((P.length : Int) == 256) = false := by simp; omega
        subst hC'
        go_wp2_with fail
        go_still_tail 8, (by kernel_rfl)
        refine wpList_mapUpdate_own _ rfl _ _ _ 152 rfl 9 9 (Maps.string_keyed Try.underlying9) Try.underlying152 (plainElem Try.prog 9) bp np D rfl HO.out.drew (by unfold maxLen; omega) _ _ (.string key.data.toList) rfl rfl (key_str hk) _ [] (plainElem_string Try.underlying9 (s := val) (by unfold maxLen; omega)) ?_
        intro w6 hown6 hgrow6
        have hsn := putP HO.out.isMap HD.out key val ((Maps.string_keyed Try.underlying9).key (key_str hk))
        have hgrow : wy.grownBy w6 (some bp) := ⟨hgrow6.os, hgrow6.tape, hgrow6.output, hgrow6.size, hgrow6.block⟩
        have HT6 := Aside0.mk (HT.out.turnP hgrow ⟨_, hown6, hsn⟩)
        have hp0 := HT.out.p0
        have HK6 := Aside0.mk (Kept.of_grown hgrow HKY.out (fun k hk => by injection hk with hk; exact .inl hk.symm))
        have HB6 := Aside0.mk (HB.out.grown hgrow HB.out.size (fun k hk => by injection hk with hk; omega))
        clear hown6 hgrow6 hsn hgrow
        go_wp2_with fail
        go_ret2
        first | exact ⟨rfl, HT6.out, HB6.out, HK6.out⟩ | exact ⟨HT6.out, HB6.out, HK6.out⟩
      · rw [if_neg hlt] at hC'
        have hli : ((P.length : Int) == 256) = true := by simp; omega
        subst hC'
        go_wp2_with fail
        go_ret2
        first | exact ⟨rfl, HT.out.more, HB.out, HKY.out⟩ | exact ⟨HT.out.more, HB.out, HKY.out⟩
    · rw [if_neg g2] at hC'
      subst hC'
      go_wp2_with fail
      go_ret2
      first | exact ⟨rfl, HT.out.more, HB.out, HKY.out⟩ | exact ⟨HT.out.more, HB.out, HKY.out⟩
  | some v =>
    rw [hL] at hC'
    simp only [Option.getD_some, Option.isSome_some] at hC' ⊢
    rcases hc with rfl | rfl | rfl | rfl
    · rw [if_pos rfl] at hC'
      subst hC'
      go_wp2_with fail
      go_ret2
      first | exact ⟨rfl, HT.out.more, HB.out, HKY.out⟩ | exact ⟨HT.out.more, HB.out, HKY.out⟩
    · rw [if_neg (by decide), if_pos rfl] at hC'
      subst hC'
      go_wp2_with fail
      go_still_tail 8, (by kernel_rfl)
      refine wpList_mapUpdate_own _ rfl _ _ _ 152 rfl 9 9 (Maps.string_keyed Try.underlying9) Try.underlying152 (plainElem Try.prog 9) bp np D rfl HO.out.drew (by unfold maxLen; omega) _ _ (.string key.data.toList) rfl rfl (key_str hk) _ [] (plainElem_string Try.underlying9 (s := val) (by unfold maxLen; omega)) ?_
      intro w6 hown6 hgrow6
      have hsn := putP HO.out.isMap HD.out key val ((Maps.string_keyed Try.underlying9).key (key_str hk))
      have hgrow : wy.grownBy w6 (some bp) := ⟨hgrow6.os, hgrow6.tape, hgrow6.output, hgrow6.size, hgrow6.block⟩
      have HT6 := Aside0.mk (HT.out.turnP hgrow ⟨_, hown6, hsn⟩)
      have hp0 := HT.out.p0
      have HK6 := Aside0.mk (Kept.of_grown hgrow HKY.out (fun k hk => by injection hk with hk; exact .inl hk.symm))
      have HB6 := Aside0.mk (HB.out.grown hgrow HB.out.size (fun k hk => by injection hk with hk; omega))
      clear hown6 hgrow6 hsn hgrow
      go_wp2_with fail
      go_ret2
      first | exact ⟨rfl, HT6.out, HB6.out, HK6.out⟩ | exact ⟨HT6.out, HB6.out, HK6.out⟩
    · rw [if_neg (by decide), if_neg (by decide), if_pos rfl] at hC'
      subst hC'
      go_wp2_with fail
      go_still_tail 6, (by kernel_rfl)
      refine wpList_delete_own _ rfl _ _ 152 9 rfl 9 (Maps.string_keyed Try.underlying9) Try.underlying152 (plainElem Try.prog 9) bp np D rfl HO.out.drew (.string key) (.string key.data.toList) rfl (key_str hk) ?_
      intro w6 hown6 hturn6
      have hsn := delP HD.out key val
      have hgrow6 := hturn6.grown
      have hgrow : wy.grownBy w6 (some bp) := ⟨hgrow6.os, hgrow6.tape, hgrow6.output, hgrow6.size, hgrow6.block⟩
      have HT6 := Aside0.mk (HT.out.turnP hgrow ⟨_, hown6.mono (Nat.le_succ _), hsn⟩)
      have hp0 := HT.out.p0
      have HK6 := Aside0.mk (Kept.of_grown hgrow HKY.out (fun k hk => by injection hk with hk; exact .inl hk.symm))
      have HB6 := Aside0.mk (HB.out.grown hgrow HB.out.size (fun k hk => by injection hk with hk; omega))
      clear hown6 hturn6 hgrow6 hsn hgrow
      go_wp2_with fail
      go_ret2
      first | exact ⟨rfl, HT6.out, HB6.out, HK6.out⟩ | exact ⟨HT6.out, HB6.out, HK6.out⟩
    · rw [if_neg (by decide), if_neg (by decide), if_neg (by decide)] at hC'
      by_cases g4 : v.toList = old.toList
      · rw [if_pos g4] at hC'
        have g4b : (v.toList == old.toList) = true := by simpa using g4
        subst hC'
        go_wp2_with fail
        go_still_tail 8, (by kernel_rfl)
        refine wpList_mapUpdate_own _ rfl _ _ _ 152 rfl 9 9 (Maps.string_keyed Try.underlying9) Try.underlying152 (plainElem Try.prog 9) bp np D rfl HO.out.drew (by unfold maxLen; omega) _ _ (.string key.data.toList) rfl rfl (key_str hk) _ [] (plainElem_string Try.underlying9 (s := val) (by unfold maxLen; omega)) ?_
        intro w6 hown6 hgrow6
        have hsn := putP HO.out.isMap HD.out key val ((Maps.string_keyed Try.underlying9).key (key_str hk))
        have hgrow : wy.grownBy w6 (some bp) := ⟨hgrow6.os, hgrow6.tape, hgrow6.output, hgrow6.size, hgrow6.block⟩
        have HT6 := Aside0.mk (HT.out.turnP hgrow ⟨_, hown6, hsn⟩)
        have hp0 := HT.out.p0
        have HK6 := Aside0.mk (Kept.of_grown hgrow HKY.out (fun k hk => by injection hk with hk; exact .inl hk.symm))
        have HB6 := Aside0.mk (HB.out.grown hgrow HB.out.size (fun k hk => by injection hk with hk; omega))
        clear hown6 hgrow6 hsn hgrow
        go_wp2_with fail
        go_ret2
        first | exact ⟨rfl, HT6.out, HB6.out, HK6.out⟩ | exact ⟨HT6.out, HB6.out, HK6.out⟩
      · rw [if_neg g4] at hC'
        have g4b : (v.toList == old.toList) = false := by simpa using g4
        subst hC'
        go_wp2_with fail
        go_ret2
        first | exact ⟨rfl, HT.out.more, HB.out, HKY.out⟩ | exact ⟨HT.out.more, HB.out, HKY.out⟩
end Go.Proofs.Ytppegigcclflbaa.PFnExactApplyCmd
