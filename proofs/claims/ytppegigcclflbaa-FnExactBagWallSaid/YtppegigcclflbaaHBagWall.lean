/- What impl.BagWall answers. -/
import Derived.Test.YtppegigcclflbaaHCopied
import Derived.Test.YtppegigcclflbaaHWalls
import Derived.Test.YtppegigcclflbaaHTo
import Derived.Test.YtppegigcclflbaaPFnExactBagWallx5
import Derived.Test.YtppegigcclflbaaPFnExactBagWallx6
namespace Go.Proofs.Ytppegigcclflbaa.PFnExactBagWall
open Go.RowKit Go.Proofs.YtppegigcclflbaaW.PrintWords Go.Proofs.YtppegigcclflbaaW.PrintLast Go.Proofs.YtppegigcclflbaaW.PrintMore
open Go.Maps (has IsMap)
open Go.Sort Go.Shelf

/-- The walls with id added, or without it. -/
def wallsOf (l : List Int) (id up : Int) : List Int := [1, 2, 3, 4, 5, 6, 7].filter fun k => if k = id then decide (up ≠ 0) else decide (k ∈ l)

theorem wallsOf_eq {l r : List Int} {id up : Int} {S : Int → Bool} (hl : ∀ x ∈ l, 1 ≤ x ∧ x ≤ 7) (hid : 1 ≤ id ∧ id ≤ 7) (hS : ∀ x, S x = if x = id then decide (up ≠ 0) else decide (x ∈ l)) (hr : r.Pairwise (· < ·)) (hm : ∀ x, x ∈ r ↔ S x = true) : r = wallsOf l id up := by
  have h7 : ([1, 2, 3, 4, 5, 6, 7] : List Int).Pairwise (· < ·) := by decide
  have hw : (wallsOf l id up).Pairwise (· < ·) := h7.filter _
  have hmw : ∀ x, x ∈ wallsOf l id up ↔ x ∈ r := by
    intro x
    rw [hm x, hS x]
    unfold wallsOf
    rw [List.mem_filter]
    constructor
    · exact fun h => h.2
    · intro h
      refine ⟨?_, h⟩
      have hx : 1 ≤ x ∧ x ≤ 7 := by
        by_cases hx : x = id
        · rw [hx]; exact hid
        · rw [if_neg hx] at h
          exact hl x (of_decide_eq_true h)
      obtain ⟨h1, h2⟩ := hx
      have : x = 1 ∨ x = 2 ∨ x = 3 ∨ x = 4 ∨ x = 5 ∨ x = 6 ∨ x = 7 := by omega
      rcases this with rfl | rfl | rfl | rfl | rfl | rfl | rfl <;> simp
  have hnr : r.Nodup := hr.imp (fun {a b} h => Int.ne_of_lt h)
  have hnw : (wallsOf l id up).Nodup := hw.imp (fun {a b} h => Int.ne_of_lt h)
  have hp : r.Perm (wallsOf l id up) := (List.perm_ext_iff_of_nodup hnr hnw).2 (fun x => (hmw x).symm)
  exact List.Perm.eq_of_pairwise (le := (· < ·)) (fun a b _ _ h1 h2 => by omega) hr hw hp

set_option maxHeartbeats 1600000 in
set_option maxRecDepth 100000 in
theorem bagWall.no (k : Nat) (a0 : Int) (A1 : Option Addr) (c1 : Nat) (l1 : List S73) (A2 : Option Addr) (c2 : Nat) (l2 : List Int) (id up : Int) (w : World) (hr1 : Kd.C k73 w A1 l1.length l1) (hc1 : l1.length ≤ c1) (hr2 : Kd.C (Kd.int .i64) w A2 l2.length l2) (hc2 : l2.length ≤ c2)
    (h : impl_Bag_wellFormed.f k a0 l1 l2 = some false) :
    Calls Try.prog 10 #[.agg #[.int .i64 a0, .slice A1 l1.length c1, .slice A2 l2.length c2], .int .i64 id, .int .i64 up] w fun e w' => e = .returned (.agg #[.int .i64 0, .slice none 0 0, .slice none 0 0]) ∧ Below w.heap.size w w' := by
  have H1 := Aside0.mk hr1
  have H2 := Aside0.mk hr2
  have HC1 := Aside0.mk hc1
  have HC2 := Aside0.mk hc2
  have H := Aside0.mk h
  clear hr1 hr2 hc1 hc2 h
  go_enter Try.func10, Try.ntmps10
  go_wp2_with fail
  refine (impl_Bag_wellFormed.calls k a0 A1 c1 l1 A2 c2 l2 false _ (Kd.C_below H1.out (below_alloc (below_alloc (Below.refl _ _) _) _)) HC1.out (Kd.C_below H2.out (below_alloc (below_alloc (Below.refl _ _) _) _)) HC2.out H.out).mono ?_
  rintro e wa ⟨rfl, hB⟩
  have hbR : wa.heap[w.heap.size + 1]? = some (.cells #[.int .i64 0, .slice none 0 0, .slice none 0 0] 29 (0, 0)) := blk_below (by have := blk_new (w.alloc (.cells #[.int .i64 a0, .slice A1 l1.length c1, .slice A2 l2.length c2] 29)) (.cells #[.int .i64 0, .slice none 0 0, .slice none 0 0] 29); simpa using this) hB
  have r50 : wa.cell? ⟨w.heap.size + 1, 0, none⟩ = some (.int .i64 0) := (blk_cell hbR 0).trans rfl
  have r51 : wa.cell? ⟨w.heap.size + 1, 1, none⟩ = some (.slice none 0 0) := (blk_cell hbR 1).trans rfl
  have r52 : wa.cell? ⟨w.heap.size + 1, 2, none⟩ = some (.slice none 0 0) := (blk_cell hbR 2).trans rfl
  have g50 : wa.frozen? ⟨w.heap.size + 1, 0, none⟩ = false := blk_frozen hbR 0
  have g51 : wa.frozen? ⟨w.heap.size + 1, 1, none⟩ = false := blk_frozen hbR 1
  have g52 : wa.frozen? ⟨w.heap.size + 1, 2, none⟩ = false := blk_frozen hbR 2
  have HBa := Aside0.mk (below_then (below_alloc (below_alloc (Below.refl w.heap.size w) _) _) (by simp; omega) hB)
  have HbR := Aside0.mk hbR
  clear hbR hB
  go_wp2
  have x2 := blk_put HbR.out 0 (.int .i64 0) (cs' := #[.int .i64 0, .slice none 0 0, .slice none 0 0]) (by simp)
  have x3 := blk_put x2 1 (.slice none 0 0) (cs' := #[.int .i64 0, .slice none 0 0, .slice none 0 0]) (by simp)
  have x4 := blk_put x3 2 (.slice none 0 0) (cs' := #[.int .i64 0, .slice none 0 0, .slice none 0 0]) (by simp)
  refine bodyPost_ret (v := .agg #[.int .i64 0, .slice none 0 0, .slice none 0 0]) (results_single rfl (Vals.cell (w.heap.size + 1) 29 _ (0, 0) _ rfl x4 Try.underlying29 rfl (by kernel_rfl) Vals.nil)) rfl ?_
  exact ⟨rfl, below_set (below_set (below_set HBa.out (Nat.le_succ _)) (Nat.le_succ _)) (Nat.le_succ _)⟩

set_option maxHeartbeats 3200000 in
set_option maxRecDepth 100000 in
theorem bagWall.yes (k : Nat) (a0 : Int) (A1 : Option Addr) (c1 : Nat) (l1 : List S73) (A2 : Option Addr) (c2 : Nat) (l2 : List Int) (id up : Int) (w : World) (hr1 : Kd.C k73 w A1 l1.length l1) (hc1 : l1.length ≤ c1) (hr2 : Kd.C (Kd.int .i64) w A2 l2.length l2) (hc2 : l2.length ≤ c2)
    (h : impl_Bag_wellFormed.f k a0 l1 l2 = some true) (hl1 : l1.length * 48 ≤ 140737488355328) (hl3 : ∀ p ∈ l1, p.f3.length ≤ 140737488355328) (hl2 : l2.length ≤ 7) (hx2 : ∀ x ∈ l2, 1 ≤ x ∧ x ≤ 7) (hin : impl_within.f id 1 7 = some (decide (1 ≤ id ∧ id ≤ 7))) :
    Calls Try.prog 10 #[.agg #[.int .i64 a0, .slice A1 l1.length c1, .slice A2 l2.length c2], .int .i64 id, .int .i64 up] w fun e w' => ∃ v1 v2 : Value, e = .returned (.agg #[.int .i64 a0, v1, v2]) ∧ Kd.S k73 73 w' w.heap.size (fun _ => True) v1 l1 ∧ Kd.R (Kd.int .i64) 3 w' w.heap.size (fun _ => True) v2 (if 1 ≤ id ∧ id ≤ 7 then wallsOf l2 id up else l2) ∧ Below w.heap.size w w' := by
  have H1 := Aside0.mk hr1
  have H2 := Aside0.mk hr2
  have HC1 := Aside0.mk hc1
  have HC2 := Aside0.mk hc2
  have H := Aside0.mk h
  have HX2 := Aside0.mk hx2
  have HL3 := Aside0.mk hl3
  have HIN := Aside0.mk hin
  clear hr1 hr2 hc1 hc2 h hx2 hl3 hin
  obtain ⟨rw_, hrw⟩ : ∃ r_ : List Int, r_ = (if 1 ≤ id ∧ id ≤ 7 then wallsOf l2 id up else l2) := ⟨_, rfl⟩
  rw [← hrw]
  have HRW := Aside0.mk hrw
  clear hrw
  go_enter Try.func10, Try.ntmps10
  go_wp2_with fail
  refine (impl_Bag_wellFormed.calls k a0 A1 c1 l1 A2 c2 l2 true _ (Kd.C_below H1.out (below_alloc (below_alloc (Below.refl _ _) _) _)) HC1.out (Kd.C_below H2.out (below_alloc (below_alloc (Below.refl _ _) _) _)) HC2.out H.out).mono ?_
  rintro e wa ⟨rfl, hB⟩
  have hbB : wa.heap[w.heap.size]? = some (.cells #[.int .i64 a0, .slice A1 l1.length c1, .slice A2 l2.length c2] 29 (0, 0)) := blk_below (blk_alloc (blk_new _ _) _) hB
  have hbR : wa.heap[w.heap.size + 1]? = some (.cells #[.int .i64 0, .slice none 0 0, .slice none 0 0] 29 (0, 0)) := blk_below (by have := blk_new (w.alloc (.cells #[.int .i64 a0, .slice A1 l1.length c1, .slice A2 l2.length c2] 29)) (.cells #[.int .i64 0, .slice none 0 0, .slice none 0 0] 29); simpa using this) hB
  have b0 : wa.cell? ⟨w.heap.size, 0, none⟩ = some (.int .i64 a0) := (blk_cell hbB 0).trans rfl
  have b1 : wa.cell? ⟨w.heap.size, 1, none⟩ = some (.slice A1 l1.length c1) := (blk_cell hbB 1).trans rfl
  have b2 : wa.cell? ⟨w.heap.size, 2, none⟩ = some (.slice A2 l2.length c2) := (blk_cell hbB 2).trans rfl
  have HBa := Aside0.mk (below_then (below_alloc (below_alloc (Below.refl w.heap.size w) _) _) (by simp; omega) hB)
  have hsa : w.heap.size + 2 ≤ wa.heap.size := by have := hB.size; simp at this; omega
  have HSA := Aside0.mk hsa
  have HbB := Aside0.mk hbB
  have HbR := Aside0.mk hbR
  clear hbB hbR hB hsa
  go_wp2_with fail
  refine (bag_copied.calls a0 A1 c1 l1 A2 c2 l2 wa (Kd.C_below H1.out HBa.out) (Kd.C_below H2.out HBa.out) hl1 (by omega) HL3.out).mono ?_
  rintro e w3 ⟨v1, v2, rfl, hS, hR, hB3⟩
  obtain ⟨Av, cv, hv⟩ : ∃ A c, v1 = .slice A l1.length c := Kd.S_slice hS
  obtain ⟨Aw, cw, hw⟩ : ∃ A c, v2 = .slice A l2.length c := Kd.R_slice hR
  subst hv
  subst hw
  have q1 := blk_below HbB.out hB3
  have q2 := blk_below HbR.out hB3
  have b0 : w3.cell? ⟨w.heap.size, 0, none⟩ = some (.int .i64 a0) := (blk_cell q1 0).trans rfl
  have b1 : w3.cell? ⟨w.heap.size, 1, none⟩ = some (.slice A1 l1.length c1) := (blk_cell q1 1).trans rfl
  have b2 : w3.cell? ⟨w.heap.size, 2, none⟩ = some (.slice A2 l2.length c2) := (blk_cell q1 2).trans rfl
  have d0 : w3.frozen? ⟨w.heap.size, 0, none⟩ = false := blk_frozen q1 0
  have d1 : w3.frozen? ⟨w.heap.size, 1, none⟩ = false := blk_frozen q1 1
  have d2 : w3.frozen? ⟨w.heap.size, 2, none⟩ = false := blk_frozen q1 2
  have HS := Aside0.mk hS
  have HR := Aside0.mk hR
  have HB3 := Aside0.mk hB3
  have Q1 := Aside0.mk q1
  have Q2 := Aside0.mk q2
  clear hS hR hB3 q1 q2
  go_wp2_with fail
  obtain ⟨w4, hw4⟩ : ∃ w4, w4 = (((w3.setCell ⟨w.heap.size, 0, none⟩ (.int .i64 a0)).setCell ⟨w.heap.size, 1, none⟩ (.slice Av l1.length cv)).setCell ⟨w.heap.size, 2, none⟩ (.slice Aw l2.length cw)) := ⟨_, rfl⟩
  have t1 := blk_put Q1.out 0 (.int .i64 a0) (cs' := #[.int .i64 a0, .slice A1 l1.length c1, .slice A2 l2.length c2]) (by simp)
  have t2 := blk_put t1 1 (.slice Av l1.length cv) (cs' := #[.int .i64 a0, .slice Av l1.length cv, .slice A2 l2.length c2]) (by simp)
  have t3 := blk_put t2 2 (.slice Aw l2.length cw) (cs' := #[.int .i64 a0, .slice Av l1.length cv, .slice Aw l2.length cw]) (by simp)
  have hS4 := Kd.S_set (Kd.S_set (Kd.S_set (Kd.S_lower HS.out HBa.out.size) Q1.out (by decide) 0 (.int .i64 a0)) t1 (by decide) 1 (.slice Av l1.length cv)) t2 (by decide) 2 (.slice Aw l2.length cw)
  have hR4 := Kd.R_set (Kd.R_set (Kd.R_set (Kd.R_lower HR.out HBa.out.size) Q1.out (by decide) 0 (.int .i64 a0)) t1 (by decide) 1 (.slice Av l1.length cv)) t2 (by decide) 2 (.slice Aw l2.length cw)
  have u3 := blk_far (blk_far (blk_far Q2.out (p := ⟨w.heap.size, 0, none⟩) (by simp) (.int .i64 a0)) (p := ⟨w.heap.size, 1, none⟩) (by simp) (.slice Av l1.length cv)) (p := ⟨w.heap.size, 2, none⟩) (by simp) (.slice Aw l2.length cw)
  have hB4 : Below w.heap.size w w4 := by
    rw [hw4]
    exact below_set (below_set (below_set (below_then HBa.out HBa.out.size HB3.out) (Nat.le_refl _)) (Nat.le_refl _)) (Nat.le_refl _)
  have hs4 : w.heap.size + 2 ≤ w4.heap.size := by
    have h1 := HB3.out.size
    have h2 := HSA.out
    rw [hw4]
    simp
    omega
  rw [← hw4] at t3 hS4 hR4 u3 ⊢
  have T3 := Aside0.mk t3
  have U3 := Aside0.mk u3
  have HS4 := Aside0.mk hS4
  have HR4 := Aside0.mk hR4
  have HB4 := Aside0.mk hB4
  have HSZ4 := Aside0.mk hs4
  clear t1 t2 t3 hS4 hR4 u3 hB4 hs4 hw4 b0 b1 b2 d0 d1 d2
  refine (impl_within.calls id 1 7 _ w4 HIN.out).mono ?_
  rintro e w5 ⟨rfl, hD⟩
  have hB5 : Below w4.heap.size w4 w5 := by
    obtain ⟨n, rfl⟩ := hD.out
    exact pw_below_drewN (Below.refl _ _) n
  have q1 := blk_below T3.out hB5
  have q2 := blk_below U3.out hB5
  have b0 : w5.cell? ⟨w.heap.size, 0, none⟩ = some (.int .i64 a0) := (blk_cell q1 0).trans rfl
  have b1 : w5.cell? ⟨w.heap.size, 1, none⟩ = some (.slice Av l1.length cv) := (blk_cell q1 1).trans rfl
  have b2 : w5.cell? ⟨w.heap.size, 2, none⟩ = some (.slice Aw l2.length cw) := (blk_cell q1 2).trans rfl
  have r0 : w5.cell? ⟨w.heap.size + 1, 0, none⟩ = some (.int .i64 0) := (blk_cell q2 0).trans rfl
  have r1 : w5.cell? ⟨w.heap.size + 1, 1, none⟩ = some (.slice none 0 0) := (blk_cell q2 1).trans rfl
  have r2 : w5.cell? ⟨w.heap.size + 1, 2, none⟩ = some (.slice none 0 0) := (blk_cell q2 2).trans rfl
  have g0 : w5.frozen? ⟨w.heap.size + 1, 0, none⟩ = false := blk_frozen q2 0
  have g1 : w5.frozen? ⟨w.heap.size + 1, 1, none⟩ = false := blk_frozen q2 1
  have g2 : w5.frozen? ⟨w.heap.size + 1, 2, none⟩ = false := blk_frozen q2 2
  have HB5 := Aside0.mk hB5
  have Q1' := Aside0.mk q1
  have Q2' := Aside0.mk q2
  clear hB5 hD q1 q2
  by_cases hid : 1 ≤ id ∧ id ≤ 7
  · have hrw : rw_ = wallsOf l2 id up := by rw [HRW.out, if_pos hid]
    have HRW' := Aside0.mk hrw
    clear hrw HRW
    have hdt : decide (1 ≤ id ∧ id ≤ 7) = true := decide_eq_true hid
    rw [hdt]
    have HID := Aside0.mk hid
    clear hid
    go_wp2_with fail
    refine (walled.calls Aw cw l2 w5 (Kd.R_reads' (Kd.R_below HR4.out HB5.out)).2.2 hl2 HX2.out).mono ?_
    rintro e w6 ⟨b, rfl, hset, hb5, hB6⟩
    obtain ⟨D, hown, hSD⟩ := hset
    have hbw : w5.heap.size ≤ b := hb5
    have HSD := Aside0.mk hSD
    have HB6 := Aside0.mk hB6
    have hkey : keyOf Try.prog 3 (.int .i64 id) = some (.int .i64 id) := Maps.keyOf_int_mk Try.underlying3 (wf_small HID.out)
    clear hSD hB6
    have hdel : ∀ x : Int, has (D.del (.int .i64 id)) (.int .i64 x) = if x = id then false else decide (x ∈ l2) := by
      intro x
      by_cases hx : x = id
      · subst hx
        rw [if_pos rfl, Go.Maps.has_del_same]
      · rw [if_neg hx, Go.Maps.has_del_other (int_key_ne hx), HSD.out]
    have HDEL := Aside0.mk hdel
    clear hdel
    by_cases hup : up = 0
    · go_wp2_with (at_delete; refine stop_here ?_)
      refine ⟨?_⟩
      (refine wpList_delete_own _ rfl _ _ 89 3 rfl 4 (Maps.int_keyed Try.underlying3) Try.underlying89 (plainElem Try.prog 4) b l2.length D rfl hown (.int .i64 id) (.int .i64 id) rfl hkey ?_; intro w7 hown7 hturn7; have HO7 := Aside0.mk hown7; have HT7 := Aside0.mk hturn7; clear hown7 hturn7)
      obtain ⟨w8, hw8⟩ : ∃ w8, w8 = w7 := ⟨_, rfl⟩
      have HSET : Aside0 (IsSet w8 b l2.length (fun x => if x = id then false else decide (x ∈ l2))) := ⟨_, by rw [hw8]; exact HO7.out, HDEL.out⟩
      have HSS : Aside0 (∀ x : Int, (fun x => if x = id then false else decide (x ∈ l2)) x = if x = id then decide (up ≠ 0) else decide (x ∈ l2)) := ⟨fun x => by simp [hup]⟩
      have HB58 : Aside0 (Below w5.heap.size w5 w8) := ⟨by rw [hw8]; exact HB6.out.grown HT7.out.grown HB6.out.size (fun k hk => by injection hk with hk; omega)⟩
      subst hw8
      go_wp2_with fail
      refine (keys51.calls (some b) w8).mono ?_
      rintro e w9 ⟨rfl, rfl⟩
      go_wp2_with fail
      refine (sorted50.calls b (l2.length) _ w8 HSET.out (by omega)).mono ?_
      rintro e w10 ⟨v, r, rfl, hR, hp, hm, hB⟩
      obtain ⟨A10, c10, hv⟩ := Kd.R_slice hR
      subst hv
      obtain rfl : r = rw_ := (wallsOf_eq HX2.out HID.out HSS.out hp hm).trans HRW'.out.symm
      have hB10 : Below w5.heap.size w5 w10 := below_then HB58.out HB58.out.size hB
      have q1 := blk_below Q1'.out hB10
      have q2 := blk_below Q2'.out hB10
      have b0 : w10.cell? ⟨w.heap.size, 0, none⟩ = some (.int .i64 a0) := (blk_cell q1 0).trans rfl
      have b1 : w10.cell? ⟨w.heap.size, 1, none⟩ = some (.slice Av l1.length cv) := (blk_cell q1 1).trans rfl
      have b2 : w10.cell? ⟨w.heap.size, 2, none⟩ = some (.slice Aw l2.length cw) := (blk_cell q1 2).trans rfl
      have d2 : w10.frozen? ⟨w.heap.size, 2, none⟩ = false := blk_frozen q1 2
      have r0 : w10.cell? ⟨w.heap.size + 1, 0, none⟩ = some (.int .i64 0) := (blk_cell q2 0).trans rfl
      have r1 : w10.cell? ⟨w.heap.size + 1, 1, none⟩ = some (.slice none 0 0) := (blk_cell q2 1).trans rfl
      have r2 : w10.cell? ⟨w.heap.size + 1, 2, none⟩ = some (.slice none 0 0) := (blk_cell q2 2).trans rfl
      have g0 : w10.frozen? ⟨w.heap.size + 1, 0, none⟩ = false := blk_frozen q2 0
      have g1 : w10.frozen? ⟨w.heap.size + 1, 1, none⟩ = false := blk_frozen q2 1
      have g2 : w10.frozen? ⟨w.heap.size + 1, 2, none⟩ = false := blk_frozen q2 2
      have HR10 := Aside0.mk (Kd.R_lower hR (show w.heap.size ≤ w8.heap.size by have h1 := HB58.out.size; have h2 := HB5.out.size; have h3 := HB4.out.size; omega))
      have HS10 := Aside0.mk (Kd.S_below HS4.out (below_then HB5.out HB5.out.size hB10))
      have HB10 := Aside0.mk (below_then (below_then HB4.out HB4.out.size HB5.out) (show w.heap.size ≤ w5.heap.size by have h2 := HB5.out.size; have h3 := HB4.out.size; omega) hB10)
      have Z1 := Aside0.mk q1
      have Z2 := Aside0.mk q2
      clear hR hp hm hB hB10 q1 q2
      go_wp2
      have y0 := blk_put Z1.out 2 (.slice A10 r.length c10) (cs' := #[.int .i64 a0, .slice Av l1.length cv, .slice A10 r.length c10]) (by simp)
      have x1 := blk_far Z2.out (p := ⟨w.heap.size, 2, none⟩) (by simp) (.slice A10 r.length c10)
      have x2 := blk_put x1 0 (.int .i64 a0) (cs' := #[.int .i64 a0, .slice none 0 0, .slice none 0 0]) (by simp)
      have x3 := blk_put x2 1 (.slice Av l1.length cv) (cs' := #[.int .i64 a0, .slice Av l1.length cv, .slice none 0 0]) (by simp)
      have x4 := blk_put x3 2 (.slice A10 r.length c10) (cs' := #[.int .i64 a0, .slice Av l1.length cv, .slice A10 r.length c10]) (by simp)
      refine bodyPost_ret (v := .agg #[.int .i64 a0, .slice Av l1.length cv, .slice A10 r.length c10]) (results_single rfl (Vals.cell (w.heap.size + 1) 29 _ (0, 0) _ rfl x4 Try.underlying29 rfl (by kernel_rfl) Vals.nil)) rfl ?_
      refine ⟨_, _, rfl, ?_, ?_, ?_⟩
      · exact Kd.S_set (Kd.S_set (Kd.S_set (Kd.S_set HS10.out Z1.out (by decide) 2 _) x1 (by decide) 0 _) x2 (by decide) 1 _) x3 (by decide) 2 _
      · exact Kd.R_set (Kd.R_set (Kd.R_set (Kd.R_set HR10.out Z1.out (by decide) 2 _) x1 (by decide) 0 _) x2 (by decide) 1 _) x3 (by decide) 2 _
      · exact below_set (below_set (below_set (below_set HB10.out (Nat.le_refl _)) (Nat.le_succ _)) (Nat.le_succ _)) (Nat.le_succ _)
    · go_wp2_with (at_delete; refine stop_here ?_)
      refine ⟨?_⟩
      refine wpList_delete_own _ rfl _ _ 89 3 rfl 4 (Maps.int_keyed Try.underlying3) Try.underlying89 (plainElem Try.prog 4) b l2.length D rfl hown (.int .i64 id) (.int .i64 id) rfl hkey ?_
      intro w7 hown7 hturn7
      have HO7 := Aside0.mk hown7
      have HT7 := Aside0.mk hturn7
      clear hown7 hturn7
      go_wp2_with (at_mapUpdate; refine stop_here ?_)
      refine ⟨?_⟩
      refine wpList_mapUpdate_own _ rfl _ _ _ 89 rfl 3 4 (Maps.int_keyed Try.underlying3) Try.underlying89 (plainElem Try.prog 4) b l2.length _ rfl HO7.out (by unfold maxLen; omega) _ _ (.int .i64 id) rfl rfl hkey _ [] (plainElem_bool Try.underlying4 true) ?_
      intro w8 hown8 hgrow8
      have HO8 := Aside0.mk hown8
      have HG8 := Aside0.mk hgrow8
      clear hown8 hgrow8
      have HSET : Aside0 (IsSet w8 b (l2.length + 1) (fun x => if x = id then true else decide (x ∈ l2))) := ⟨_, HO8.out, fun x => by
        by_cases hx : x = id
        · subst hx
          rw [Go.Maps.has_put_same HO7.out.isMap ((Maps.int_keyed Try.underlying3).key hkey)]
          simp
        · rw [Go.Maps.has_put_other (int_key_ne hx), HDEL.out]; simp [hx]⟩
      have HSS : Aside0 (∀ x : Int, (fun x => if x = id then true else decide (x ∈ l2)) x = if x = id then decide (up ≠ 0) else decide (x ∈ l2)) := ⟨fun x => by simp [hup]⟩
      have HB58 : Aside0 (Below w5.heap.size w5 w8) := ⟨by
        have h7 : Below w5.heap.size w5 w7 := HB6.out.grown HT7.out.grown HB6.out.size (fun k hk => by injection hk with hk; omega)
        exact h7.grown HG8.out h7.size (fun k hk => by injection hk with hk; omega)⟩
      go_wp2_with fail
      refine (keys51.calls (some b) w8).mono ?_
      rintro e w9 ⟨rfl, rfl⟩
      go_wp2_with fail
      refine (sorted50.calls b (l2.length + 1) _ w8 HSET.out (by omega)).mono ?_
      rintro e w10 ⟨v, r, rfl, hR, hp, hm, hB⟩
      obtain ⟨A10, c10, hv⟩ := Kd.R_slice hR
      subst hv
      obtain rfl : r = rw_ := (wallsOf_eq HX2.out HID.out HSS.out hp hm).trans HRW'.out.symm
      have hB10 : Below w5.heap.size w5 w10 := below_then HB58.out HB58.out.size hB
      have q1 := blk_below Q1'.out hB10
      have q2 := blk_below Q2'.out hB10
      have b0 : w10.cell? ⟨w.heap.size, 0, none⟩ = some (.int .i64 a0) := (blk_cell q1 0).trans rfl
      have b1 : w10.cell? ⟨w.heap.size, 1, none⟩ = some (.slice Av l1.length cv) := (blk_cell q1 1).trans rfl
      have b2 : w10.cell? ⟨w.heap.size, 2, none⟩ = some (.slice Aw l2.length cw) := (blk_cell q1 2).trans rfl
      have d2 : w10.frozen? ⟨w.heap.size, 2, none⟩ = false := blk_frozen q1 2
      have r0 : w10.cell? ⟨w.heap.size + 1, 0, none⟩ = some (.int .i64 0) := (blk_cell q2 0).trans rfl
      have r1 : w10.cell? ⟨w.heap.size + 1, 1, none⟩ = some (.slice none 0 0) := (blk_cell q2 1).trans rfl
      have r2 : w10.cell? ⟨w.heap.size + 1, 2, none⟩ = some (.slice none 0 0) := (blk_cell q2 2).trans rfl
      have g0 : w10.frozen? ⟨w.heap.size + 1, 0, none⟩ = false := blk_frozen q2 0
      have g1 : w10.frozen? ⟨w.heap.size + 1, 1, none⟩ = false := blk_frozen q2 1
      have g2 : w10.frozen? ⟨w.heap.size + 1, 2, none⟩ = false := blk_frozen q2 2
      have HR10 := Aside0.mk (Kd.R_lower hR (show w.heap.size ≤ w8.heap.size by have h1 := HB58.out.size; have h2 := HB5.out.size; have h3 := HB4.out.size; omega))
      have HS10 := Aside0.mk (Kd.S_below HS4.out (below_then HB5.out HB5.out.size hB10))
      have HB10 := Aside0.mk (below_then (below_then HB4.out HB4.out.size HB5.out) (show w.heap.size ≤ w5.heap.size by have h2 := HB5.out.size; have h3 := HB4.out.size; omega) hB10)
      have Z1 := Aside0.mk q1
      have Z2 := Aside0.mk q2
      clear hR hp hm hB hB10 q1 q2
      go_wp2
      have y0 := blk_put Z1.out 2 (.slice A10 r.length c10) (cs' := #[.int .i64 a0, .slice Av l1.length cv, .slice A10 r.length c10]) (by simp)
      have x1 := blk_far Z2.out (p := ⟨w.heap.size, 2, none⟩) (by simp) (.slice A10 r.length c10)
      have x2 := blk_put x1 0 (.int .i64 a0) (cs' := #[.int .i64 a0, .slice none 0 0, .slice none 0 0]) (by simp)
      have x3 := blk_put x2 1 (.slice Av l1.length cv) (cs' := #[.int .i64 a0, .slice Av l1.length cv, .slice none 0 0]) (by simp)
      have x4 := blk_put x3 2 (.slice A10 r.length c10) (cs' := #[.int .i64 a0, .slice Av l1.length cv, .slice A10 r.length c10]) (by simp)
      refine bodyPost_ret (v := .agg #[.int .i64 a0, .slice Av l1.length cv, .slice A10 r.length c10]) (results_single rfl (Vals.cell (w.heap.size + 1) 29 _ (0, 0) _ rfl x4 Try.underlying29 rfl (by kernel_rfl) Vals.nil)) rfl ?_
      refine ⟨_, _, rfl, ?_, ?_, ?_⟩
      · exact Kd.S_set (Kd.S_set (Kd.S_set (Kd.S_set HS10.out Z1.out (by decide) 2 _) x1 (by decide) 0 _) x2 (by decide) 1 _) x3 (by decide) 2 _
      · exact Kd.R_set (Kd.R_set (Kd.R_set (Kd.R_set HR10.out Z1.out (by decide) 2 _) x1 (by decide) 0 _) x2 (by decide) 1 _) x3 (by decide) 2 _
      · exact below_set (below_set (below_set (below_set HB10.out (Nat.le_refl _)) (Nat.le_succ _)) (Nat.le_succ _)) (Nat.le_succ _)
  · have hrw : rw_ = l2 := by rw [HRW.out, if_neg hid]
    clear HRW
    subst hrw
    have hdt : decide (1 ≤ id ∧ id ≤ 7) = false := decide_eq_false hid
    rw [hdt]
    clear hid
    go_wp2
    have x2 := blk_put Q2'.out 0 (.int .i64 a0) (cs' := #[.int .i64 a0, .slice none 0 0, .slice none 0 0]) (by simp)
    have x3 := blk_put x2 1 (.slice Av l1.length cv) (cs' := #[.int .i64 a0, .slice Av l1.length cv, .slice none 0 0]) (by simp)
    have x4 := blk_put x3 2 (.slice Aw rw_.length cw) (cs' := #[.int .i64 a0, .slice Av l1.length cv, .slice Aw rw_.length cw]) (by simp)
    refine bodyPost_ret (v := .agg #[.int .i64 a0, .slice Av l1.length cv, .slice Aw rw_.length cw]) (results_single rfl (Vals.cell (w.heap.size + 1) 29 _ (0, 0) _ rfl x4 Try.underlying29 rfl (by kernel_rfl) Vals.nil)) rfl ?_
    refine ⟨_, _, rfl, ?_, ?_, ?_⟩
    · exact Kd.S_set (Kd.S_set (Kd.S_set (Kd.S_below HS4.out HB5.out) Q2'.out (by decide) 0 _) x2 (by decide) 1 _) x3 (by decide) 2 _
    · exact Kd.R_set (Kd.R_set (Kd.R_set (Kd.R_below HR4.out HB5.out) Q2'.out (by decide) 0 _) x2 (by decide) 1 _) x3 (by decide) 2 _
    · exact below_set (below_set (below_set (below_then HB4.out HB4.out.size HB5.out) (Nat.le_succ _)) (Nat.le_succ _)) (Nat.le_succ _)
end Go.Proofs.Ytppegigcclflbaa.PFnExactBagWall
