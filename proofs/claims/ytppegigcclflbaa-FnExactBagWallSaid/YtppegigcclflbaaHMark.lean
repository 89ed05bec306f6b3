/- What laws.markPacketS and laws.markBag write. -/
import Derived.Test.YtppegigcclflbaaHTo
import Derived.Test.YtppegigcclflbaaHPureB
namespace Go.Proofs.Ytppegigcclflbaa.PFnExactBagWall
open Go.RowKit Go.Proofs.YtppegigcclflbaaW.PrintWords Go.Proofs.YtppegigcclflbaaW.PrintLast Go.Proofs.YtppegigcclflbaaW.PrintMore

theorem setCells_one {w : World} {g o : Nat} {v : Value} : w.setCells g o [v] = w.setCell ⟨g, o, none⟩ v := rfl

set_option maxHeartbeats 1600000 in
set_option maxRecDepth 100000 in
theorem markPacketS.calls (P0_ : Nat → Prop) (v : Value) (l0 : List S73) (a1 : Int) (w0 w : World) (hB : Below w0.heap.size w0 w) (ho0 : Kd.S k73 73 w w0.heap.size P0_ v l0) (h0 : 0 ≤ a1) (hmax : a1 + tot l0 < 4611686018427387904) :
    Calls Try.prog 54 #[v, .int .i64 a1] w fun e w' => e = .returned (.int .i64 (a1 + tot l0)) ∧ Kd.S k73 73 w' w0.heap.size (fun k_ => (P0_ k_ ∨ w.heap.size ≤ k_)) v (markP a1 l0) ∧ Below w0.heap.size w0 w' ∧ Kept w w' (fun k_ => P0_ k_) := by
  have HO := Aside0.mk (Kd.S_mono (ok' := fun k_ => (P0_ k_ ∨ w.heap.size ≤ k_)) ho0 (fun k_ hk => .inl hk))
  have HW0 := Aside0.mk hB.size
  have HB := Aside0.mk hB
  have hll := len_tot l0
  clear hB
  obtain ⟨A, c, hv⟩ := Kd.S_slice ho0
  subst hv
  have HO0 := Aside0.mk ho0
  clear ho0
  go_enter Try.func54, Try.ntmps54
  go_wp2_with fail
  go_loopg [1, 5] l0.length (fun kq v1 v5 wr => ∃ (done rest : List S73) (n : Int), done.length + kq = l0.length ∧ v1 = .int .i64 n ∧ v5 = .int .i64 (done.length : Int) ∧ done ++ markP n rest = markP a1 l0 ∧ done.length + rest.length = l0.length ∧ 0 ≤ n ∧ n + tot rest = a1 + tot l0 ∧ Kd.S k73 73 wr w0.heap.size (fun k_ => (P0_ k_ ∨ w.heap.size ≤ k_)) (.slice A l0.length c) (done ++ rest) ∧ Below w0.heap.size w0 wr ∧ Kept w wr (fun k_ => P0_ k_))
  case atStart => exact ⟨[], l0, a1, by simp, rfl, rfl, rfl, by simp, h0, rfl, HO.out, HB.out, Kept.refl _ _⟩
  case round =>
    obtain ⟨done, rest, n, hjk, rfl, rfl, hm, hlen, hn0, hnt, hS, hB, hK⟩ := hrel
    cases rest with
    | nil =>
      have hj1 : ¬ (done.length : Int) < (l0.length : Int) := by simp at hlen; omega
      have HS := Aside0.mk hS
      have HB := Aside0.mk hB
      have HK := Aside0.mk hK
      have HM := Aside0.mk hm
      have HNT := Aside0.mk hnt
      clear hS hB hK hm hnt hlen hjk
      go_wp2_with fail
      go_ret
      have h1 := HNT.out
      have h2 := HM.out
      simp only [tot, markP, List.append_nil] at h1 h2
      refine ⟨?_, ?_, HB.out, HK.out⟩
      · rw [← h1]; simp
      · rw [← h2]
        have h3 := HS.out
        rw [List.append_nil] at h3
        exact h3
    | cons p rest =>
      rw [List.length_cons] at hlen
      obtain ⟨j, hj⟩ : ∃ j, j = done.length := ⟨_, rfl⟩
      have hS' : Kd.S k73 73 wr w0.heap.size (fun k_ => (P0_ k_ ∨ w.heap.size ≤ k_)) (.slice A l0.length c) (done ++ p :: rest) := hS
      obtain ⟨g, rfl⟩ : ∃ g, A = some ⟨g, 0, none⟩ := by
        obtain ⟨g, cap, he, _⟩ := Kd.S_form hS (by simp; omega)
        injection he with he
        exact ⟨g, he⟩
      obtain ⟨oki, q, hq1, hq2, hq3, hq4, hq5, hq6⟩ := Kd.S_elem hS z73 (done.length : Int) (by omega) (by omega)
      have hqx : (done ++ p :: rest).getD ((done.length : Int)).toNat z73 = p := get73_mid done rest p
      rw [hqx] at hq2
      obtain ⟨v3, rfl, hR3⟩ := k73_openM hq2
      simp only [Int.toNat_natCast] at hq3 hq4
      rw [← hj] at hq3 hq4
      have e0 : wr.cell? ⟨g, j * 4, none⟩ = some (.int .i64 p.f0) := hq3 0 _ rfl
      have e1 : wr.cell? ⟨g, j * 4 + 1, none⟩ = some (.int .i64 p.f1) := hq3 1 _ rfl
      have e2 : wr.cell? ⟨g, j * 4 + 2, none⟩ = some (.int .i64 p.f2) := hq3 2 _ rfl
      have e3 : wr.cell? ⟨g, j * 4 + 3, none⟩ = some v3 := hq3 3 _ rfl
      have f0 : wr.frozen? ⟨g, j * 4, none⟩ = false := hq4 0
      have f1 : wr.frozen? ⟨g, j * 4 + 1, none⟩ = false := hq4 1
      have f2 : wr.frozen? ⟨g, j * 4 + 2, none⟩ = false := hq4 2
      have hj0 : (0 : Int) ≤ (j : Int) := by omega
      have hj1 : (j : Int) < (l0.length : Int) := by omega
      have HS := Aside0.mk hS
      have HB := Aside0.mk hB
      have HK := Aside0.mk hK
      have HM := Aside0.mk hm
      have HNT := Aside0.mk hnt
      have HR3 := Aside0.mk hR3
      have HQ5 := Aside0.mk hq5
      have HQ6 := Aside0.mk hq6
      have HLEN := Aside0.mk hlen
      have HJK := Aside0.mk hjk
      have HJ := Aside0.mk hj
      clear hS hS' hB hK hm hnt hR3 hq5 hq6 hq1 hq2 hq3 hq4 hqx hlen hjk
      rw [← hj]
      clear hj
      go_wp2_with fail
      have hb1 := HNT.out
      simp only [tot] at hb1
      rw [wrap64_in (n + 1) (by omega), wrap64_in (n + 1 + 1) (by omega), wrap64_in (n + 1 + 1 + 1) (by omega)]
      obtain ⟨w4, hw4⟩ : ∃ w4, w4 = ((wr.setCell ⟨g, j * 4, none⟩ (.int .i64 n)).setCell ⟨g, j * 4 + 1, none⟩ (.int .i64 (n + 1))).setCell ⟨g, j * 4 + 2, none⟩ (.int .i64 (n + 1 + 1)) := ⟨_, rfl⟩
      rw [← hw4]
      have hH6 := HQ6.out
      rw [← HJ.out] at hH6
      obtain ⟨hH4, hg4⟩ := Kd.H_seg hH6 hj0 hj1 (seg := [.int .i64 n, .int .i64 (n + 1), .int .i64 (n + 1 + 1)]) (j := 0) (by show 3 ≤ 4; omega) (by simp [Value.oneCell'])
      have hw4' : w4 = wr.setCells g ((j : Int).toNat * k73.sz + 0) [.int .i64 n, .int .i64 (n + 1), .int .i64 (n + 1 + 1)] := hw4
      rw [← hw4'] at hH4 hg4
      clear hw4 hw4' hH6
      have hB4 : Below w0.heap.size w0 w4 := HB.out.grown hg4 (Nat.le_trans HW0.out HK.out.1) (fun k hk => by injection hk with hk; rw [← hk]; exact Kd.S_base HS.out g rfl)
      have hR4 : (Kd.int .u8).R 5 w4 w0.heap.size oki v3 p.f3 := Kd.R_grown HR3.out hg4 (fun k hk he => by injection he with he; exact (HQ5.out k hk).2 he)
      have hK4 : Kept w w4 (fun k_ => P0_ k_) := Kept.then_ HK.out (S2 := fun k => k = g) ⟨hg4.size, fun i hi hn => hg4.block i hi (fun he => by injection he with he; exact hn he)⟩ (fun k hk => by rw [hk]; exact (Kd.S_R HS.out).1 g rfl)
      have HH4 := Aside0.mk (Kd.H_widen hH4)
      have HB4 := Aside0.mk hB4
      have HR4 := Aside0.mk hR4
      have HK4 := Aside0.mk hK4
      clear hH4 hB4 hR4 hK4 hg4
      refine (laws_markByteS.calls (p.f3.length + 1) oki v3 p.f3 (n + 1 + 1 + 1) _ _ w0 w4 HB4.out HR4.out (markByteS_f (by omega) (by omega) (by omega))).mono ?_
      rintro e w5 ⟨rfl, hR5, hB5, hK5⟩
      have hH5 := Kd.H_step HH4.out (w1 := w5) (fun k _ hn hlt => hK5.2 k hlt (fun h => hn (.inl h)))
      have hS5 := Kd.H_back hH5 (x' := ⟨n, n + 1, n + 1 + 1, markB (n + 1 + 1 + 1) p.f3⟩) (k73_mkM _ _ _ _ hR5) (fun k hk => hk.elim .inl (fun h => .inr ⟨.inr (Nat.le_trans HK4.out.1 h), h⟩))
      rw [Int.toNat_natCast, HJ.out, set_mid] at hS5
      have hK5' : Kept w w5 (fun k_ => P0_ k_) := Kept.then_ HK4.out hK5 (fun k hk => (HQ5.out k hk).1)
      have HS5 := Aside0.mk hS5
      have HB5 := Aside0.mk hB5
      have HK5 := Aside0.mk hK5'
      clear hS5 hB5 hK5 hK5' hH5 hR5
      go_wp2_with fail
      go_roundg (gk - 1)
      case measure => have := HJK.out; have := HLEN.out; omega
      case rel =>
        have h1 := HJK.out
        have h2 := HLEN.out
        have h3 := HJ.out
        refine ⟨done ++ [⟨n, n + 1, n + 1 + 1, markB (n + 1 + 1 + 1) p.f3⟩], rest, n + 1 + 1 + 1 + p.f3.length, by simp; omega, rfl, ?_, ?_, by simp; omega, by omega, by omega, HS5.out, HB5.out, HK5.out⟩
        · rw [h3]
          simp
        · have h4 := HM.out
          rw [List.append_assoc]
          exact h4

set_option maxHeartbeats 1600000 in
set_option maxRecDepth 100000 in
theorem markBag.calls (P0_ : Nat → Prop) (a0 : Int) (v1 v2 : Value) (l1 : List S73) (l2 : List Int) (n : Int) (w0 w : World) (hB : Below w0.heap.size w0 w) (ho1 : Kd.S k73 73 w w0.heap.size P0_ v1 l1) (ho2 : Kd.R (Kd.int .i64) 3 w w0.heap.size P0_ v2 l2) (h0 : 0 ≤ n) (hmax : n + tot l1 + l2.length < 4611686018427387904) :
    Calls Try.prog 12 #[.agg #[.int .i64 a0, v1, v2], .int .i64 n] w fun e w' => e = .returned (.int .i64 (n + tot l1 + l2.length)) ∧ Kd.S k73 73 w' w0.heap.size (fun k => P0_ k ∨ w.heap.size ≤ k) v1 (markP n l1) ∧ Kd.R (Kd.int .i64) 3 w' w0.heap.size (fun k => P0_ k ∨ w.heap.size ≤ k) v2 (markI (n + tot l1) l2) ∧ Below w0.heap.size w0 w' ∧ Kept w w' P0_ := by
  obtain ⟨Av, cv, hv⟩ := Kd.S_slice ho1
  subst hv
  obtain ⟨Aw, cw, hw⟩ := Kd.R_slice ho2
  subst hw
  have hty2 := Kd.R_typed ho2
  have hS0 := Kd.S_apart' ho1 hty2 (by decide)
  have hR0 := Kd.R_tight2 rfl ho2
  have HSA := Aside0.mk (Kd.S_alloc (Kd.S_elderB hS0 w.heap.size (Nat.le_refl _)) (.cells #[.int .i64 a0, .slice Av l1.length cv, .slice Aw l2.length cw] 29))
  have HRA := Aside0.mk (Kd.R_alloc hR0 (.cells #[.int .i64 a0, .slice Av l1.length cv, .slice Aw l2.length cw] 29))
  have HBA := Aside0.mk (below_alloc hB (.cells #[.int .i64 a0, .slice Av l1.length cv, .slice Aw l2.length cw] 29))
  have HBB := Aside0.mk (blk_new w (.cells #[.int .i64 a0, .slice Av l1.length cv, .slice Aw l2.length cw] 29))
  have hsz : (w.alloc (.cells #[.int .i64 a0, .slice Av l1.length cv, .slice Aw l2.length cw] 29)).heap.size = w.heap.size + 1 := by simp
  have HSZ := Aside0.mk hsz
  clear ho1 ho2 hty2 hS0 hR0 hB hsz
  go_enter Try.func12, Try.ntmps12
  go_wp2_with fail
  refine (markPacketS.calls _ (.slice Av l1.length cv) l1 n w0 _ HBA.out HSA.out h0 (by omega)).mono ?_
  rintro e w3 ⟨rfl, hS3, hB3, hK3⟩
  have hbox3 : w3.heap[w.heap.size]? = some (.cells #[.int .i64 a0, .slice Av l1.length cv, .slice Aw l2.length cw] 29 (0, 0)) := (hK3.2 w.heap.size (by rw [HSZ.out]; omega) (fun h => h.2 rfl)).trans HBB.out
  have hR3 := Kd.R_step (w1 := w3) HRA.out (fun k hk hlt => hK3.2 k hlt (fun h => h.1.2 hk.1))
  have b2 : w3.cell? ⟨w.heap.size, 2, none⟩ = some (.slice Aw l2.length cw) := (blk_cell hbox3 2).trans rfl
  have hty3 := Kd.R_typed hR3
  have hS3' := Kd.S_apart' hS3 hty3 (by decide)
  have HS3 := Aside0.mk hS3'
  have HR3 := Aside0.mk hR3
  have HB3 := Aside0.mk hB3
  have HK3 := Aside0.mk hK3
  clear hS3 hS3' hB3 hK3 hR3 hbox3 hty3
  go_wp2_with fail
  refine (laws_markIntS.calls (l2.length + 1) _ (.slice Aw l2.length cw) l2 (n + tot l1) _ _ w0 w3 HB3.out HR3.out (markIntS_f (by omega) (by omega) (by omega))).mono ?_
  rintro e w4 ⟨rfl, hR4, hB4, hK4⟩
  have hS4 := Kd.S_step (w1 := w4) HS3.out (fun k hk hlt => hK4.2 k hlt (fun h => hk.2 h.1))
  have HS4 := Aside0.mk (Kd.S_mono hS4 (ok' := fun k => P0_ k ∨ w.heap.size ≤ k) (fun k hk => hk.1.elim (fun h => .inl h.1.1) (fun h => .inr (by rw [HSZ.out] at h; omega))))
  have HR4 := Aside0.mk (Kd.R_mono hR4 (ok' := fun k => P0_ k ∨ w.heap.size ≤ k) (fun k hk => hk.elim (fun h => .inl h.2) (fun h => .inr (by have h1 := HK3.out.1; rw [HSZ.out] at h1; omega))))
  have HB4 := Aside0.mk hB4
  have hKw : Kept w w4 P0_ := Kept.then_ (Kept.then_ (Kept.of_below (below_alloc (Below.refl _ _) _) P0_) HK3.out (fun k hk => .inl hk.1.1)) hK4 (fun k hk => .inl hk.2)
  have HKw := Aside0.mk hKw
  clear hS4 hR4 hB4 hK4 hKw
  go_wp2_with fail
  go_ret
  exact ⟨rfl, HS4.out, HR4.out, HB4.out, HKw.out⟩
end Go.Proofs.Ytppegigcclflbaa.PFnExactBagWall
