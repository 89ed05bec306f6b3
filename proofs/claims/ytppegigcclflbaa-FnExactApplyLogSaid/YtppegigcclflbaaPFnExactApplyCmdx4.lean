-- Written for this claim by the session's own program: the kit's print, some functions told by hand.
import Derived.Test.YtppegigcclflbaaPFnExactApplyCmdx0
import Derived.Test.YtppegigcclflbaaPFnExactApplyCmdx3
namespace Go.Proofs.Ytppegigcclflbaa.PFnExactApplyCmd
open Go.RowKit Go.Proofs.YtppegigcclflbaaW.PrintWords Go.Proofs.YtppegigcclflbaaW.PrintLast Go.Proofs.YtppegigcclflbaaW.PrintMore
attribute [local go_sem] max2_int min2_int max_two min_two max_three min_three max_four min_four   -- for this text's walks alone
set_option linter.unusedVariables false
set_option linter.unusedSimpArgs false

/-! ### laws_markSessionS: function 71 -/
def laws_markSessionS.l0 : Nat → List (S146) → Int → Int → Option (Int × (List (S146)))
  | 0, _, _, _ => none
  | k + 1, x0, x1, x5 => if x5 < (x0.length : Int) then (if 0 ≤ x5 then ((some (x0.set (x5 : Int).toNat (⟨x1, (rd_T146 x0 x5).f1, (rd_T146 x0 x5).f2, (rd_T146 x0 x5).f3⟩ : S146) : List (S146))).bind fun y151 => ((some (y151.set (x5 : Int).toNat (⟨(rd_T146 y151 x5).f0, wrap64 (x1 + 1), (rd_T146 y151 x5).f2, (rd_T146 y151 x5).f3⟩ : S146) : List (S146))).bind fun y152 => ((some (y152.set (x5 : Int).toNat (⟨(rd_T146 y152 x5).f0, (rd_T146 y152 x5).f1, wrap64 ((wrap64 (x1 + 1)) + 1), (rd_T146 y152 x5).f3⟩ : S146) : List (S146))).bind fun y153 => ((laws_markText.f k (wrap64 ((wrap64 ((wrap64 (x1 + 1)) + 1)) + 1))).bind fun t154 => (laws_markSessionS.l0 k (y153.set (x5 : Int).toNat (⟨(rd_T146 y153 x5).f0, (rd_T146 y153 x5).f1, (rd_T146 y153 x5).f2, t154⟩ : S146)) (wrap64 ((wrap64 ((wrap64 ((wrap64 (x1 + 1)) + 1)) + 1)) + 1)) (wrap64 (x5 + 1))))))) else (none)) else (some (x1, x0))
def laws_markSessionS.f (k : Nat) (l0 : List (S146)) (a1 : Int) : Option (Int × (List (S146))) := laws_markSessionS.l0 k l0 a1 0
theorem laws_markSessionS.mono_l : ∀ k, (∀ y0 y1 y2, LeO (laws_markSessionS.l0 k y0 y1 y2) (laws_markSessionS.l0 (k + 1) y0 y1 y2))
  | 0 => fun _ _ _ r h => by simp [laws_markSessionS.l0] at h
  | k + 1 => by
    have ih0 := laws_markSessionS.mono_l k
    · intro y0 y1 y2
      unfold laws_markSessionS.l0
      repeat' first
      | (with_reducible exact ih0 _ _ _)
      | (with_reducible exact laws_markText.mono _ _)
      | (with_reducible exact LeO.refl _)
      | (with_reducible exact LeO.none _)
      | (with_reducible refine LeO.ite ?_ ?_)
      | (with_reducible refine LeO.bind ?_ (fun _ => ?_))
      | exact ih0 _ _ _
      | exact laws_markText.mono _ _
      | exact LeO.none _
      | refine LeO.ite ?_ ?_
      | refine LeO.bind ?_ (fun _ => ?_)
theorem laws_markSessionS.mono : ∀ a0 a1 k, LeO (laws_markSessionS.f k a0 a1) (laws_markSessionS.f (k + 1) a0 a1) := by
  intro a0 a1 k
  have ih0 := laws_markSessionS.mono_l k
  unfold laws_markSessionS.f
  repeat' first
      | (with_reducible exact ih0 _ _ _)
      | (with_reducible exact laws_markText.mono _ _)
      | (with_reducible exact LeO.refl _)
      | (with_reducible exact LeO.none _)
      | (with_reducible refine LeO.ite ?_ ?_)
      | (with_reducible refine LeO.bind ?_ (fun _ => ?_))
      | exact ih0 _ _ _
      | exact laws_markText.mono _ _
      | exact LeO.none _
      | refine LeO.ite ?_ ?_
      | refine LeO.bind ?_ (fun _ => ?_)
set_option maxHeartbeats 8000000 in
set_option maxRecDepth 100000 in
theorem laws_markSessionS.calls (k : Nat) (P0_ : Nat → Prop) (u9000_ : Value) (l0 : List (S146)) (a1 : Int) (r1 : Int) (r2 : List (S146)) (w0 w : World) (hB : Below w0.heap.size w0 w) (ho0 : Kd.R k146 146 w w0.heap.size P0_ u9000_ l0) (h : laws_markSessionS.f k l0 a1 = some (r1, r2)) :
    Calls Try.prog 71 #[u9000_, .int .i64 a1] w fun e w' => e = .returned (.int .i64 r1) ∧ Kd.R k146 146 w' w0.heap.size (fun k_ => (P0_ k_ ∨ w.heap.size ≤ k_)) u9000_ r2 ∧ Below w0.heap.size w0 w' ∧ Kept w w' (fun k_ => P0_ k_) := by
  have HO0 := Aside0.mk (show Kd.R k146 146 w w0.heap.size (fun k_ => (P0_ k_ ∨ w.heap.size ≤ k_)) u9000_ l0 from Kd.R_mono ho0 (fun k_ hk => (.inl hk)))
  have HK := Aside0.mk (Kept.refl w (fun k_ => P0_ k_))
  have HW0 := Aside0.mk hB.size
  have HB := Aside0.mk hB
  clear hB
  have H : (laws_markSessionS.l0 k l0 a1 0) = some (r1, r2) := h
  clear h
  have H' := Aside0.mk H
  clear H
  go_enter Try.func71, Try.ntmps71
  go_wp2
  go_loopg [1, 5] k (fun kq v1 v5 w' => ∃ (x0_1 : List (S146)) (x1_1 : Int) (x5_1 : Int), v1 = .int .i64 x1_1 ∧ v5 = .int .i64 x5_1 ∧ Aside0 (laws_markSessionS.l0 kq x0_1 x1_1 x5_1 = some (r1, r2)) ∧ Aside0 (kq ≤ k) ∧ Aside0 (Kd.R k146 146 w' w0.heap.size (fun k_ => (P0_ k_ ∨ w.heap.size ≤ k_)) u9000_ x0_1) ∧ Aside0 (Kept w w' (fun k_ => P0_ k_)) ∧ Aside0 (Below w0.heap.size w0 w'))
  case atStart => exact ⟨(l0), (a1), (0), (by first | rfl | (simp; done) | (simp [*]; done)), (by first | rfl | (simp; done) | (simp [*]; done)), H', ⟨Nat.le_refl _⟩, ⟨by (with_reducible repeat (first | apply Kd.R_alloc | apply Kd.R_drewN | apply Kd.R_drew)); exact HO0.out⟩, ⟨by repeat (first | (with_reducible first | exact HK.out | apply Kept.alloc | apply Kept.drewN | apply Kept.drew) | exact HK.out)⟩, ⟨by repeat (first | (with_reducible first | exact HB.out | apply below_alloc | apply pw_below_drewN | apply below_drew1) | exact HB.out)⟩⟩
  case round =>
    clear H'
    try clear p2
    obtain ⟨x0_1, x1_1, x5_1, rfl, rfl, HA, HK1, HO_0, HK, HB⟩ := hrel
    cases gk with
    | zero => exact absurd HA.out (by simp [laws_markSessionS.l0])
    | succ k1 =>
      have H := HA.out
      clear HA
      simp only [laws_markSessionS.l0] at H
      by_cases c3 : x5_1 < (x0_1.length : Int)
      · rw [if_pos c3] at H
        have c3b0 : decide (x5_1 < (x0_1.length : Int)) = true := decide_eq_true c3
        clear c3
        by_cases c4 : 0 ≤ x5_1
        · rw [if_pos c4] at H
          have c4b0 : decide (0 ≤ x5_1) = true := decide_eq_true c4
          clear c4
          obtain ⟨y151, hy151⟩ : ∃ y_ : List (S146), y_ = (x0_1.set (x5_1 : Int).toNat (⟨x1_1, (rd_T146 x0_1 x5_1).f1, (rd_T146 x0_1 x5_1).f2, (rd_T146 x0_1 x5_1).f3⟩ : S146)) := ⟨_, rfl⟩
          replace H : ((some (y151.set (x5_1 : Int).toNat (⟨(rd_T146 y151 x5_1).f0, wrap64 (x1_1 + 1), (rd_T146 y151 x5_1).f2, (rd_T146 y151 x5_1).f3⟩ : S146) : List (S146))).bind fun y152 => ((some (y152.set (x5_1 : Int).toNat (⟨(rd_T146 y152 x5_1).f0, (rd_T146 y152 x5_1).f1, wrap64 ((wrap64 (x1_1 + 1)) + 1), (rd_T146 y152 x5_1).f3⟩ : S146) : List (S146))).bind fun y153 => ((laws_markText.f k1 (wrap64 ((wrap64 ((wrap64 (x1_1 + 1)) + 1)) + 1))).bind fun t154 => (laws_markSessionS.l0 k1 (y153.set (x5_1 : Int).toNat (⟨(rd_T146 y153 x5_1).f0, (rd_T146 y153 x5_1).f1, (rd_T146 y153 x5_1).f2, t154⟩ : S146)) (wrap64 ((wrap64 ((wrap64 ((wrap64 (x1_1 + 1)) + 1)) + 1)) + 1)) (wrap64 (x5_1 + 1)))))) = some (r1, r2) := by first | (rw [hy151]; with_reducible exact H) | (have H2_ := (Option.bind_some _ _).symm.trans H; rw [hy151]; with_reducible exact H2_) | (have H2_ := (Option.bind_some _ _).symm.trans H; with_reducible exact H2_) | with_reducible exact H | (rw [hy151]; exact H) | exact H
          have Ny151 := Aside0.mk hy151
          clear hy151
          obtain ⟨y152, hy152⟩ : ∃ y_ : List (S146), y_ = (y151.set (x5_1 : Int).toNat (⟨(rd_T146 y151 x5_1).f0, wrap64 (x1_1 + 1), (rd_T146 y151 x5_1).f2, (rd_T146 y151 x5_1).f3⟩ : S146)) := ⟨_, rfl⟩
          replace H : ((some (y152.set (x5_1 : Int).toNat (⟨(rd_T146 y152 x5_1).f0, (rd_T146 y152 x5_1).f1, wrap64 ((wrap64 (x1_1 + 1)) + 1), (rd_T146 y152 x5_1).f3⟩ : S146) : List (S146))).bind fun y153 => ((laws_markText.f k1 (wrap64 ((wrap64 ((wrap64 (x1_1 + 1)) + 1)) + 1))).bind fun t154 => (laws_markSessionS.l0 k1 (y153.set (x5_1 : Int).toNat (⟨(rd_T146 y153 x5_1).f0, (rd_T146 y153 x5_1).f1, (rd_T146 y153 x5_1).f2, t154⟩ : S146)) (wrap64 ((wrap64 ((wrap64 ((wrap64 (x1_1 + 1)) + 1)) + 1)) + 1)) (wrap64 (x5_1 + 1))))) = some (r1, r2) := by first | (rw [hy152]; with_reducible exact H) | (have H2_ := (Option.bind_some _ _).symm.trans H; rw [hy152]; with_reducible exact H2_) | (have H2_ := (Option.bind_some _ _).symm.trans H; with_reducible exact H2_) | with_reducible exact H | (rw [hy152]; exact H) | exact H
          have Ny152 := Aside0.mk hy152
          clear hy152
          obtain ⟨y153, hy153⟩ : ∃ y_ : List (S146), y_ = (y152.set (x5_1 : Int).toNat (⟨(rd_T146 y152 x5_1).f0, (rd_T146 y152 x5_1).f1, wrap64 ((wrap64 (x1_1 + 1)) + 1), (rd_T146 y152 x5_1).f3⟩ : S146)) := ⟨_, rfl⟩
          replace H : ((laws_markText.f k1 (wrap64 ((wrap64 ((wrap64 (x1_1 + 1)) + 1)) + 1))).bind fun t154 => (laws_markSessionS.l0 k1 (y153.set (x5_1 : Int).toNat (⟨(rd_T146 y153 x5_1).f0, (rd_T146 y153 x5_1).f1, (rd_T146 y153 x5_1).f2, t154⟩ : S146)) (wrap64 ((wrap64 ((wrap64 ((wrap64 (x1_1 + 1)) + 1)) + 1)) + 1)) (wrap64 (x5_1 + 1)))) = some (r1, r2) := by first | (rw [hy153]; with_reducible exact H) | (have H2_ := (Option.bind_some _ _).symm.trans H; rw [hy153]; with_reducible exact H2_) | (have H2_ := (Option.bind_some _ _).symm.trans H; with_reducible exact H2_) | with_reducible exact H | (rw [hy153]; exact H) | exact H
          have Ny153 := Aside0.mk hy153
          clear hy153
          replace H := Option.bind_eq_some_iff.mp H
          obtain ⟨t154, A80, H⟩ := H
          replace H : (laws_markSessionS.l0 k1 (y153.set (x5_1 : Int).toNat (⟨(rd_T146 y153 x5_1).f0, (rd_T146 y153 x5_1).f1, (rd_T146 y153 x5_1).f2, t154⟩ : S146)) (wrap64 ((wrap64 ((wrap64 ((wrap64 (x1_1 + 1)) + 1)) + 1)) + 1)) (wrap64 (x5_1 + 1))) = some (r1, r2) := H
          have A8 := Aside0.mk A80
          clear A80
          obtain ⟨y155, hy155⟩ : ∃ y_ : List (S146), y_ = (y153.set (x5_1 : Int).toNat (⟨(rd_T146 y153 x5_1).f0, (rd_T146 y153 x5_1).f1, (rd_T146 y153 x5_1).f2, t154⟩ : S146)) := ⟨_, rfl⟩
          replace H : (laws_markSessionS.l0 k1 y155 (wrap64 ((wrap64 ((wrap64 ((wrap64 (x1_1 + 1)) + 1)) + 1)) + 1)) (wrap64 (x5_1 + 1))) = some (r1, r2) := by first | (rw [hy155]; with_reducible exact H) | (have H2_ := (Option.bind_some _ _).symm.trans H; rw [hy155]; with_reducible exact H2_) | (have H2_ := (Option.bind_some _ _).symm.trans H; with_reducible exact H2_) | with_reducible exact H | (rw [hy155]; exact H) | exact H
          have Ny155 := Aside0.mk hy155
          clear hy155
          have H' := Aside0.mk H
          clear H
          obtain ⟨Ao10, co10, eo10⟩ := Kd.R_slice HO_0.out
          subst eo10
          have p5 : 0 ≤ (x5_1 : Int) := of_decide_eq_true (by first | (with_reducible assumption) | assumption)
          have q5 : (x5_1 : Int) < ((x0_1.length : Int) : Int) := of_decide_eq_true (by first | (with_reducible assumption) | assumption)
          obtain ⟨go5, co5, eo5, gb5, gl5, cl5, HG5⟩ := Kd.R_form HO_0.out (by omega)
          (first | cases eo5 | (injection eo5 with ea_ en_ ec_; (first | subst ea_ | (injection ea_ with ea_; subst ea_)); subst ec_; clear en_))
          have GB5 := Aside0.mk gb5
          have GG5 := Aside0.mk HG5
          clear gb5 gl5 HG5
          have HMgo5 := Aside0.mk (show (P0_ go5 ∨ w.heap.size ≤ go5) from (HO_0.out.1 _ rfl))
          obtain ⟨ce5, hcl5, hM5, hcc5, hfr5⟩ := Kd.R_elem HO_0.out z146 (x5_1 : Int) p5 q5
          obtain rfl := k146_openM hM5
          have hx5_0 : wr.cell? ⟨go5, (x5_1 : Int).toNat * 4, none⟩ = some (.int .i64 ((rd_T146 x0_1 x5_1).f0)) := hcc5 0 _ rfl
          have hx5_1 : wr.cell? ⟨go5, (x5_1 : Int).toNat * 4 + 1, none⟩ = some (.int .i64 ((rd_T146 x0_1 x5_1).f1)) := hcc5 1 _ rfl
          have hx5_2 : wr.cell? ⟨go5, (x5_1 : Int).toNat * 4 + 2, none⟩ = some (.int .i64 ((rd_T146 x0_1 x5_1).f2)) := hcc5 2 _ rfl
          have hx5_3 : wr.cell? ⟨go5, (x5_1 : Int).toNat * 4 + 3, none⟩ = some (.string ((rd_T146 x0_1 x5_1).f3)) := hcc5 3 _ rfl
          have hf5_0 : wr.frozen? ⟨go5, (x5_1 : Int).toNat * 4, none⟩ = false := hfr5 0
          have hf5_1 : wr.frozen? ⟨go5, (x5_1 : Int).toNat * 4 + 1, none⟩ = false := hfr5 1
          have hf5_2 : wr.frozen? ⟨go5, (x5_1 : Int).toNat * 4 + 2, none⟩ = false := hfr5 2
          have hf5_3 : wr.frozen? ⟨go5, (x5_1 : Int).toNat * 4 + 3, none⟩ = false := hfr5 3
          clear hcl5 hcc5 hfr5 hM5
          replace p5 := eq_true p5
          replace q5 := eq_true q5
          have HX11 := Aside0.mk (show Kd.R k146 146 wr w0.heap.size (fun k_ => (P0_ k_ ∨ w.heap.size ≤ k_)) (.slice (some ⟨go5, 0, none⟩) x0_1.length co10) x0_1 from (by (with_reducible repeat (first | apply Kd.R_alloc | apply Kd.R_drewN | apply Kd.R_drew)); exact HO_0.out))
          obtain ⟨ce11, hcl11, hM11, hcc11, hfr11⟩ := Kd.R_elem HX11.out z146 (x5_1 : Int) (of_decide_eq_true (by first | (with_reducible assumption) | assumption)) (by have h_ : (x5_1 : Int) < ((x0_1.length : Int) : Int) := of_decide_eq_true (by first | (with_reducible assumption) | assumption); first | exact h_ | (have e_ := (Kd.R_reads' HO_0.out).1; omega) | simpa using h_)
          obtain rfl := k146_openM hM11
          have HP11 := Kd.R_seg HX11.out (x5_1 : Int) (of_decide_eq_true (by first | (with_reducible assumption) | assumption)) (by have h_ : (x5_1 : Int) < ((x0_1.length : Int) : Int) := of_decide_eq_true (by first | (with_reducible assumption) | assumption); first | exact h_ | (have e_ := (Kd.R_reads' HO_0.out).1; omega) | simpa using h_) (seg := [.int .i64 x1_1]) (j := 0) hcl11 hcc11 (show 1 ≤ 4 from by decide) (x' := (⟨x1_1, (rd_T146 x0_1 x5_1).f1, (rd_T146 x0_1 x5_1).f2, (rd_T146 x0_1 x5_1).f3⟩ : S146)) (k146_mkM _ _ _ (⟨x1_1, (rd_T146 x0_1 x5_1).f1, (rd_T146 x0_1 x5_1).f2, (rd_T146 x0_1 x5_1).f3⟩ : S146) ) (fun _ hk => hk)
          have hx11_0 := hcc11 0 _ rfl
          (try simp only [show (k146).sz = 4 from rfl, Nat.mul_one, Nat.add_zero] at hx11_0)
          have hf11_0 := hfr11 0
          (try simp only [show (k146).sz = 4 from rfl, Nat.mul_one, Nat.add_zero] at hf11_0)
          clear hcl11 hcc11 hfr11 hM11
          go_wp2_with (first | ((with_reducible refine gate_store (t := 3) (p := 16) rfl ?_); refine store_event (t := 3) (p := 16) (v := ?vo_w12) (w1 := (wr.setCell ⟨go5, (x5_1 : Int).toNat * 4, none⟩ (.int .i64 x1_1))) ?hg ?ho ?hn ?hr ?_; (case ho => rfl); (case hg => rfl); (case hn => rfl); (case hr => first | (go_simp; done) | (go_simp; rfl)); intro w12 hw; have hg : wr.grownBy w12 (some go5) := (by rw [hw]; exact HP11.2); have hp_ : Kd.R k146 146 w12 w0.heap.size (fun k_ => (P0_ k_ ∨ w.heap.size ≤ k_)) (.slice (some ⟨go5, 0, none⟩) x0_1.length co10) y151 := (by rw [hw, Ny151.out]; exact HP11.1); clear HP11; have n0_ := Aside0.mk (hp_); have n1_ := Aside0.mk ((by rw [hw]; exact below_set (HB.out) GB5.out : Below w0.heap.size w0 w12)); have n2_ := Aside0.mk (Kept.of_grown (S := (fun k_ => P0_ k_)) hg (by repeat (first | (with_reducible first | exact HK.out | apply Kept.alloc | apply Kept.drewN | apply Kept.drew) | exact HK.out)) (fun k_ e_ => (HO_0.out.1 k_ e_))); clear HO_0; clear HB; clear HK; have HO_0 := n0_; have HB := n1_; have HK := n2_; clear n0_ n1_ n2_; clear hg hw hp_; have p6 : 0 ≤ (x5_1 : Int) := of_decide_eq_true (by first | (with_reducible assumption) | assumption); have q6 : (x5_1 : Int) < ((x0_1.length : Int) : Int) := of_decide_eq_true (by first | (with_reducible assumption) | assumption); obtain ⟨ce6, hcl6, hM6, hcc6, hfr6⟩ := Kd.R_elem HO_0.out z146 (x5_1 : Int) p6 q6; obtain rfl := k146_openM hM6; have hx6_0 : w12.cell? ⟨go5, (x5_1 : Int).toNat * 4, none⟩ = some (.int .i64 ((rd_T146 y151 x5_1).f0)) := hcc6 0 _ rfl; have hx6_1 : w12.cell? ⟨go5, (x5_1 : Int).toNat * 4 + 1, none⟩ = some (.int .i64 ((rd_T146 y151 x5_1).f1)) := hcc6 1 _ rfl; have hx6_2 : w12.cell? ⟨go5, (x5_1 : Int).toNat * 4 + 2, none⟩ = some (.int .i64 ((rd_T146 y151 x5_1).f2)) := hcc6 2 _ rfl; have hx6_3 : w12.cell? ⟨go5, (x5_1 : Int).toNat * 4 + 3, none⟩ = some (.string ((rd_T146 y151 x5_1).f3)) := hcc6 3 _ rfl; have hf6_0 : w12.frozen? ⟨go5, (x5_1 : Int).toNat * 4, none⟩ = false := hfr6 0; have hf6_1 : w12.frozen? ⟨go5, (x5_1 : Int).toNat * 4 + 1, none⟩ = false := hfr6 1; have hf6_2 : w12.frozen? ⟨go5, (x5_1 : Int).toNat * 4 + 2, none⟩ = false := hfr6 2; have hf6_3 : w12.frozen? ⟨go5, (x5_1 : Int).toNat * 4 + 3, none⟩ = false := hfr6 3; clear hcl6 hcc6 hfr6 hM6; replace p6 := eq_true p6; replace q6 := eq_true q6; have HX13 := Aside0.mk (show Kd.R k146 146 w12 w0.heap.size (fun k_ => (P0_ k_ ∨ w.heap.size ≤ k_)) (.slice (some ⟨go5, 0, none⟩) x0_1.length co10) y151 from (by (with_reducible repeat (first | apply Kd.R_alloc | apply Kd.R_drewN | apply Kd.R_drew)); exact HO_0.out)); obtain ⟨ce13, hcl13, hM13, hcc13, hfr13⟩ := Kd.R_elem HX13.out z146 (x5_1 : Int) (of_decide_eq_true (by first | (with_reducible assumption) | assumption)) (by have h_ : (x5_1 : Int) < ((x0_1.length : Int) : Int) := of_decide_eq_true (by first | (with_reducible assumption) | assumption); first | exact h_ | (have e_ := (Kd.R_reads' HO_0.out).1; omega) | simpa using h_); obtain rfl := k146_openM hM13; have HP13 := Kd.R_seg HX13.out (x5_1 : Int) (of_decide_eq_true (by first | (with_reducible assumption) | assumption)) (by have h_ : (x5_1 : Int) < ((x0_1.length : Int) : Int) := of_decide_eq_true (by first | (with_reducible assumption) | assumption); first | exact h_ | (have e_ := (Kd.R_reads' HO_0.out).1; omega) | simpa using h_) (seg := [.int .i64 (wrap64 (x1_1 + 1))]) (j := 1) hcl13 hcc13 (show 2 ≤ 4 from by decide) (x' := (⟨(rd_T146 y151 x5_1).f0, wrap64 (x1_1 + 1), (rd_T146 y151 x5_1).f2, (rd_T146 y151 x5_1).f3⟩ : S146)) (k146_mkM _ _ _ (⟨(rd_T146 y151 x5_1).f0, wrap64 (x1_1 + 1), (rd_T146 y151 x5_1).f2, (rd_T146 y151 x5_1).f3⟩ : S146) ) (fun _ hk => hk); have hx13_1 := hcc13 1 _ rfl; (try simp only [show (k146).sz = 4 from rfl, Nat.mul_one, Nat.add_zero] at hx13_1); have hf13_1 := hfr13 1; (try simp only [show (k146).sz = 4 from rfl, Nat.mul_one, Nat.add_zero] at hf13_1); clear hcl13 hcc13 hfr13 hM13) | ((with_reducible refine gate_store (t := 3) (p := 23) rfl ?_); refine store_event (t := 3) (p := 23) (v := ?vo_w14) (w1 := (w12.setCell ⟨go5, (x5_1 : Int).toNat * 4 + 1, none⟩ (.int .i64 (wrap64 (x1_1 + 1))))) ?hg ?ho ?hn ?hr ?_; (case ho => rfl); (case hg => rfl); (case hn => rfl); (case hr => first | (go_simp; done) | (go_simp; rfl)); intro w14 hw; have hg : w12.grownBy w14 (some go5) := (by rw [hw]; exact HP13.2); have hp_ : Kd.R k146 146 w14 w0.heap.size (fun k_ => (P0_ k_ ∨ w.heap.size ≤ k_)) (.slice (some ⟨go5, 0, none⟩) x0_1.length co10) y152 := (by rw [hw, Ny152.out]; exact HP13.1); clear HP13; have n0_ := Aside0.mk (hp_); have n1_ := Aside0.mk ((by rw [hw]; exact below_set (HB.out) GB5.out : Below w0.heap.size w0 w14)); have n2_ := Aside0.mk (Kept.of_grown (S := (fun k_ => P0_ k_)) hg (by repeat (first | (with_reducible first | exact HK.out | apply Kept.alloc | apply Kept.drewN | apply Kept.drew) | exact HK.out)) (fun k_ e_ => (HO_0.out.1 k_ e_))); clear HO_0; clear HB; clear HK; have HO_0 := n0_; have HB := n1_; have HK := n2_; clear n0_ n1_ n2_; clear hg hw hp_; have p7 : 0 ≤ (x5_1 : Int) := of_decide_eq_true (by first | (with_reducible assumption) | assumption); have q7 : (x5_1 : Int) < ((x0_1.length : Int) : Int) := of_decide_eq_true (by first | (with_reducible assumption) | assumption); obtain ⟨ce7, hcl7, hM7, hcc7, hfr7⟩ := Kd.R_elem HO_0.out z146 (x5_1 : Int) p7 q7; obtain rfl := k146_openM hM7; have hx7_0 : w14.cell? ⟨go5, (x5_1 : Int).toNat * 4, none⟩ = some (.int .i64 ((rd_T146 y152 x5_1).f0)) := hcc7 0 _ rfl; have hx7_1 : w14.cell? ⟨go5, (x5_1 : Int).toNat * 4 + 1, none⟩ = some (.int .i64 ((rd_T146 y152 x5_1).f1)) := hcc7 1 _ rfl; have hx7_2 : w14.cell? ⟨go5, (x5_1 : Int).toNat * 4 + 2, none⟩ = some (.int .i64 ((rd_T146 y152 x5_1).f2)) := hcc7 2 _ rfl; have hx7_3 : w14.cell? ⟨go5, (x5_1 : Int).toNat * 4 + 3, none⟩ = some (.string ((rd_T146 y152 x5_1).f3)) := hcc7 3 _ rfl; have hf7_0 : w14.frozen? ⟨go5, (x5_1 : Int).toNat * 4, none⟩ = false := hfr7 0; have hf7_1 : w14.frozen? ⟨go5, (x5_1 : Int).toNat * 4 + 1, none⟩ = false := hfr7 1; have hf7_2 : w14.frozen? ⟨go5, (x5_1 : Int).toNat * 4 + 2, none⟩ = false := hfr7 2; have hf7_3 : w14.frozen? ⟨go5, (x5_1 : Int).toNat * 4 + 3, none⟩ = false := hfr7 3; clear hcl7 hcc7 hfr7 hM7; replace p7 := eq_true p7; replace q7 := eq_true q7; have HX15 := Aside0.mk (show Kd.R k146 146 w14 w0.heap.size (fun k_ => (P0_ k_ ∨ w.heap.size ≤ k_)) (.slice (some ⟨go5, 0, none⟩) x0_1.length co10) y152 from (by (with_reducible repeat (first | apply Kd.R_alloc | apply Kd.R_drewN | apply Kd.R_drew)); exact HO_0.out)); obtain ⟨ce15, hcl15, hM15, hcc15, hfr15⟩ := Kd.R_elem HX15.out z146 (x5_1 : Int) (of_decide_eq_true (by first | (with_reducible assumption) | assumption)) (by have h_ : (x5_1 : Int) < ((x0_1.length : Int) : Int) := of_decide_eq_true (by first | (with_reducible assumption) | assumption); first | exact h_ | (have e_ := (Kd.R_reads' HO_0.out).1; omega) | simpa using h_); obtain rfl := k146_openM hM15; have HP15 := Kd.R_seg HX15.out (x5_1 : Int) (of_decide_eq_true (by first | (with_reducible assumption) | assumption)) (by have h_ : (x5_1 : Int) < ((x0_1.length : Int) : Int) := of_decide_eq_true (by first | (with_reducible assumption) | assumption); first | exact h_ | (have e_ := (Kd.R_reads' HO_0.out).1; omega) | simpa using h_) (seg := [.int .i64 (wrap64 ((wrap64 (x1_1 + 1)) + 1))]) (j := 2) hcl15 hcc15 (show 3 ≤ 4 from by decide) (x' := (⟨(rd_T146 y152 x5_1).f0, (rd_T146 y152 x5_1).f1, wrap64 ((wrap64 (x1_1 + 1)) + 1), (rd_T146 y152 x5_1).f3⟩ : S146)) (k146_mkM _ _ _ (⟨(rd_T146 y152 x5_1).f0, (rd_T146 y152 x5_1).f1, wrap64 ((wrap64 (x1_1 + 1)) + 1), (rd_T146 y152 x5_1).f3⟩ : S146) ) (fun _ hk => hk); have hx15_2 := hcc15 2 _ rfl; (try simp only [show (k146).sz = 4 from rfl, Nat.mul_one, Nat.add_zero] at hx15_2); have hf15_2 := hfr15 2; (try simp only [show (k146).sz = 4 from rfl, Nat.mul_one, Nat.add_zero] at hf15_2); clear hcl15 hcc15 hfr15 hM15) | ((with_reducible refine gate_store (t := 3) (p := 30) rfl ?_); refine store_event (t := 3) (p := 30) (v := ?vo_w16) (w1 := (w14.setCell ⟨go5, (x5_1 : Int).toNat * 4 + 2, none⟩ (.int .i64 (wrap64 ((wrap64 (x1_1 + 1)) + 1))))) ?hg ?ho ?hn ?hr ?_; (case ho => rfl); (case hg => rfl); (case hn => rfl); (case hr => first | (go_simp; done) | (go_simp; rfl)); intro w16 hw; have hg : w14.grownBy w16 (some go5) := (by rw [hw]; exact HP15.2); have hp_ : Kd.R k146 146 w16 w0.heap.size (fun k_ => (P0_ k_ ∨ w.heap.size ≤ k_)) (.slice (some ⟨go5, 0, none⟩) x0_1.length co10) y153 := (by rw [hw, Ny153.out]; exact HP15.1); clear HP15; have n0_ := Aside0.mk (hp_); have n1_ := Aside0.mk ((by rw [hw]; exact below_set (HB.out) GB5.out : Below w0.heap.size w0 w16)); have n2_ := Aside0.mk (Kept.of_grown (S := (fun k_ => P0_ k_)) hg (by repeat (first | (with_reducible first | exact HK.out | apply Kept.alloc | apply Kept.drewN | apply Kept.drew) | exact HK.out)) (fun k_ e_ => (HO_0.out.1 k_ e_))); clear HO_0; clear HB; clear HK; have HO_0 := n0_; have HB := n1_; have HK := n2_; clear n0_ n1_ n2_; clear hg hw hp_) | ((with_reducible refine gate_callee (f := 69) rfl ?_); refine goesL_ (some 36) rfl rfl Try.func69 (by kernel_rfl) rfl #[.int .i64 (wrap64 ((wrap64 ((wrap64 (x1_1 + 1)) + 1)) + 1))] rfl (by (try simp only [List.map_toArray, List.map_cons, List.map_nil]); first | done | rfl | (simp only [List.length_drop, List.length_take]; rfl)) ?_; (with_reducible refine (laws_markText.calls k1 (wrap64 ((wrap64 ((wrap64 (x1_1 + 1)) + 1)) + 1)) t154 _ A8.out).mono ?_); rintro e w17 ⟨rfl, hb⟩; refine ⟨_, rfl, ?_⟩; have n0_ := Aside0.mk (Kd.R_below (by (with_reducible repeat (first | apply Kd.R_alloc | apply Kd.R_drewN | apply Kd.R_drew)); exact HO_0.out) hb); have n1_ := Aside0.mk (Kept.below (S := (fun k_ => P0_ k_)) (by repeat (first | (with_reducible first | exact HK.out | apply Kept.alloc | apply Kept.drewN | apply Kept.drew) | exact HK.out)) hb); have n2_ := Aside0.mk (below_step (by repeat (first | (with_reducible first | exact HB.out | apply below_alloc | apply pw_below_drewN | apply below_drew1) | exact HB.out)) hb); clear HO_0; clear HK; clear HB; have HO_0 := n0_; have HK := n1_; have HB := n2_; clear n0_ n1_ n2_; (try clear hb); (try clear hb2); (try clear hk); (try clear hi); have p9 : 0 ≤ (x5_1 : Int) := of_decide_eq_true (by first | (with_reducible assumption) | assumption); have q9 : (x5_1 : Int) < ((x0_1.length : Int) : Int) := of_decide_eq_true (by first | (with_reducible assumption) | assumption); obtain ⟨ce9, hcl9, hM9, hcc9, hfr9⟩ := Kd.R_elem HO_0.out z146 (x5_1 : Int) p9 q9; obtain rfl := k146_openM hM9; have hx9_0 : w17.cell? ⟨go5, (x5_1 : Int).toNat * 4, none⟩ = some (.int .i64 ((rd_T146 y153 x5_1).f0)) := hcc9 0 _ rfl; have hx9_1 : w17.cell? ⟨go5, (x5_1 : Int).toNat * 4 + 1, none⟩ = some (.int .i64 ((rd_T146 y153 x5_1).f1)) := hcc9 1 _ rfl; have hx9_2 : w17.cell? ⟨go5, (x5_1 : Int).toNat * 4 + 2, none⟩ = some (.int .i64 ((rd_T146 y153 x5_1).f2)) := hcc9 2 _ rfl; have hx9_3 : w17.cell? ⟨go5, (x5_1 : Int).toNat * 4 + 3, none⟩ = some (.string ((rd_T146 y153 x5_1).f3)) := hcc9 3 _ rfl; have hf9_0 : w17.frozen? ⟨go5, (x5_1 : Int).toNat * 4, none⟩ = false := hfr9 0; have hf9_1 : w17.frozen? ⟨go5, (x5_1 : Int).toNat * 4 + 1, none⟩ = false := hfr9 1; have hf9_2 : w17.frozen? ⟨go5, (x5_1 : Int).toNat * 4 + 2, none⟩ = false := hfr9 2; have hf9_3 : w17.frozen? ⟨go5, (x5_1 : Int).toNat * 4 + 3, none⟩ = false := hfr9 3; clear hcl9 hcc9 hfr9 hM9; replace p9 := eq_true p9; replace q9 := eq_true q9; have HX18 := Aside0.mk (show Kd.R k146 146 w17 w0.heap.size (fun k_ => (P0_ k_ ∨ w.heap.size ≤ k_)) (.slice (some ⟨go5, 0, none⟩) x0_1.length co10) y153 from (by (with_reducible repeat (first | apply Kd.R_alloc | apply Kd.R_drewN | apply Kd.R_drew)); exact HO_0.out)); obtain ⟨ce18, hcl18, hM18, hcc18, hfr18⟩ := Kd.R_elem HX18.out z146 (x5_1 : Int) (of_decide_eq_true (by first | (with_reducible assumption) | assumption)) (by have h_ : (x5_1 : Int) < ((x0_1.length : Int) : Int) := of_decide_eq_true (by first | (with_reducible assumption) | assumption); first | exact h_ | (have e_ := (Kd.R_reads' HO_0.out).1; omega) | simpa using h_); obtain rfl := k146_openM hM18; have HP18 := Kd.R_seg HX18.out (x5_1 : Int) (of_decide_eq_true (by first | (with_reducible assumption) | assumption)) (by have h_ : (x5_1 : Int) < ((x0_1.length : Int) : Int) := of_decide_eq_true (by first | (with_reducible assumption) | assumption); first | exact h_ | (have e_ := (Kd.R_reads' HO_0.out).1; omega) | simpa using h_) (seg := [.string t154]) (j := 3) hcl18 hcc18 (show 4 ≤ 4 from by decide) (x' := (⟨(rd_T146 y153 x5_1).f0, (rd_T146 y153 x5_1).f1, (rd_T146 y153 x5_1).f2, t154⟩ : S146)) (k146_mkM _ _ _ (⟨(rd_T146 y153 x5_1).f0, (rd_T146 y153 x5_1).f1, (rd_T146 y153 x5_1).f2, t154⟩ : S146) ) (fun _ hk => hk); have hx18_3 := hcc18 3 _ rfl; (try simp only [show (k146).sz = 4 from rfl, Nat.mul_one, Nat.add_zero] at hx18_3); have hf18_3 := hfr18 3; (try simp only [show (k146).sz = 4 from rfl, Nat.mul_one, Nat.add_zero] at hf18_3); clear hcl18 hcc18 hfr18 hM18) | ((with_reducible refine gate_store (t := 9) (p := 38) rfl ?_); refine store_event (t := 9) (p := 38) (v := ?vo_w19) (w1 := (w17.setCell ⟨go5, (x5_1 : Int).toNat * 4 + 3, none⟩ (.string t154))) ?hg ?ho ?hn ?hr ?_; (case ho => rfl); (case hg => rfl); (case hn => rfl); (case hr => first | (go_simp; done) | (go_simp; rfl)); intro w19 hw; have hg : w17.grownBy w19 (some go5) := (by rw [hw]; exact HP18.2); have hp_ : Kd.R k146 146 w19 w0.heap.size (fun k_ => (P0_ k_ ∨ w.heap.size ≤ k_)) (.slice (some ⟨go5, 0, none⟩) x0_1.length co10) y155 := (by rw [hw, Ny155.out]; exact HP18.1); clear HP18; have n0_ := Aside0.mk (hp_); have n1_ := Aside0.mk ((by rw [hw]; exact below_set (HB.out) GB5.out : Below w0.heap.size w0 w19)); have n2_ := Aside0.mk (Kept.of_grown (S := (fun k_ => P0_ k_)) hg (by repeat (first | (with_reducible first | exact HK.out | apply Kept.alloc | apply Kept.drewN | apply Kept.drew) | exact HK.out)) (fun k_ e_ => (HO_0.out.1 k_ e_))); clear HO_0; clear HB; clear HK; have HO_0 := n0_; have HB := n1_; have HK := n2_; clear n0_ n1_ n2_; clear hg hw hp_))
          go_roundg k1
          case measure => have := HK1.out; omega
          case rel => exact ⟨(y155), (wrap64 ((wrap64 ((wrap64 ((wrap64 (x1_1 + 1)) + 1)) + 1)) + 1)), (wrap64 (x5_1 + 1)), (by first | rfl | (simp; done) | (simp [*]; done)), (by first | rfl | (simp; done) | (simp [*]; done)), H', ⟨by have := HK1.out; omega⟩, ⟨by (with_reducible repeat (first | apply Kd.R_alloc | apply Kd.R_drewN | apply Kd.R_drew)); exact HO_0.out⟩, ⟨by repeat (first | (with_reducible first | exact HK.out | apply Kept.alloc | apply Kept.drewN | apply Kept.drew) | exact HK.out)⟩, ⟨by repeat (first | (with_reducible first | exact HB.out | apply below_alloc | apply pw_below_drewN | apply below_drew1) | exact HB.out)⟩⟩
        · rw [if_neg c4] at H
          exact absurd H (by simp)
      · rw [if_neg c3] at H
        have c3b0 : decide (x5_1 < (x0_1.length : Int)) = false := decide_eq_false c3
        clear c3
        simp only [Option.some.injEq, Prod.mk.injEq] at H
        obtain ⟨rfl, rfl⟩ := H
        obtain ⟨Ao20, co20, eo20⟩ := Kd.R_slice HO_0.out
        subst eo20
        go_wp2
        go_ret
        exact ⟨by first | rfl | (simp [errW_none, errW_some] <;> rfl) | (simp [*, errW_none, errW_some] <;> rfl), by (with_reducible repeat (first | apply Kd.R_alloc | apply Kd.R_drewN | apply Kd.R_drew)); exact HO_0.out, by repeat (first | (with_reducible first | exact HB.out | apply below_alloc | apply pw_below_drewN | apply below_drew1) | exact HB.out), by repeat (first | (with_reducible first | exact HK.out | apply Kept.alloc | apply Kept.drewN | apply Kept.drew) | exact HK.out)⟩

/-! ### laws_markTable: function 21 -/
def laws_markTable.f (k : Nat) (l0_0 : List (S157)) (l0_1 : List (S146)) (a1 : Int) : Option (Int × (List (S157)) × (List (S146))) := (laws_markPairS.f k l0_0 a1).bind fun bt157 => ((laws_markSessionS.f k l0_1 bt157.1).bind fun bt159 => (some (bt159.1, bt157.2, bt159.2)))
theorem laws_markTable.mono : ∀ a0 a1 a2 k, LeO (laws_markTable.f k a0 a1 a2) (laws_markTable.f (k + 1) a0 a1 a2) := by
  intro a0 a1 a2 k
  unfold laws_markTable.f
  repeat' first
      | (with_reducible exact laws_markPairS.mono _ _ _)
      | (with_reducible exact laws_markSessionS.mono _ _ _)
      | (with_reducible exact LeO.refl _)
      | (with_reducible exact LeO.none _)
      | (with_reducible refine LeO.ite ?_ ?_)
      | (with_reducible refine LeO.bind ?_ (fun _ => ?_))
      | exact laws_markPairS.mono _ _ _
      | exact laws_markSessionS.mono _ _ _
      | exact LeO.none _
      | refine LeO.ite ?_ ?_
      | refine LeO.bind ?_ (fun _ => ?_)
set_option maxHeartbeats 8000000 in
set_option maxRecDepth 100000 in
theorem laws_markTable.calls (k : Nat) (P0_0_ : Nat → Prop) (u9000_ : Value) (l0_0 : List (S157)) (P0_1_ : Nat → Prop) (u9001_ : Value) (l0_1 : List (S146)) (a1 : Int) (r1 : Int) (r2 : List (S157)) (r3 : List (S146)) (w0 w : World) (hB : Below w0.heap.size w0 w) (ho0_0 : Kd.R k157 157 w w0.heap.size P0_0_ u9000_ l0_0) (ho0_1 : Kd.R k146 146 w w0.heap.size P0_1_ u9001_ l0_1) (h : laws_markTable.f k l0_0 l0_1 a1 = some (r1, r2, r3)) :
    Calls Try.prog 21 #[.agg #[u9000_, u9001_], .int .i64 a1] w fun e w' => e = .returned (.int .i64 r1) ∧ Kd.R k157 157 w' w0.heap.size (fun k_ => ((P0_0_ k_ ∨ P0_1_ k_) ∨ w.heap.size ≤ k_)) u9000_ r2 ∧ Kd.R k146 146 w' w0.heap.size (fun k_ => ((P0_0_ k_ ∨ P0_1_ k_) ∨ w.heap.size ≤ k_)) u9001_ r3 ∧ Below w0.heap.size w0 w' ∧ Kept w w' (fun k_ => P0_0_ k_ ∨ P0_1_ k_) := by
  have hu40 := Try.underlying40
  have HO0_0 := Aside0.mk (show Kd.R k157 157 w w0.heap.size (fun k_ => ((P0_0_ k_ ∨ P0_1_ k_) ∨ w.heap.size ≤ k_)) u9000_ l0_0 from Kd.R_mono ho0_0 (fun k_ hk => (.inl (.inl hk))))
  have HO0_1 := Aside0.mk (show Kd.R k146 146 w w0.heap.size (fun k_ => ((P0_0_ k_ ∨ P0_1_ k_) ∨ w.heap.size ≤ k_)) u9001_ l0_1 from Kd.R_mono ho0_1 (fun k_ hk => (.inl (.inr hk))))
  have HK := Aside0.mk (Kept.refl w (fun k_ => P0_0_ k_ ∨ P0_1_ k_))
  have HW0 := Aside0.mk hB.size
  have HB := Aside0.mk hB
  clear hB
  have H : ((laws_markPairS.f k l0_0 a1).bind fun bt157 => ((laws_markSessionS.f k l0_1 bt157.1).bind fun bt159 => (some (bt159.1, bt157.2, bt159.2)))) = some (r1, r2, r3) := h
  clear h
  replace H := Option.bind_eq_some_iff.mp H
  obtain ⟨⟨t157, t158⟩, A30, H⟩ := H
  replace H : ((laws_markSessionS.f k l0_1 t157).bind fun bt159 => (some (bt159.1, t158, bt159.2))) = some (r1, r2, r3) := H
  have A3 := Aside0.mk A30
  clear A30
  replace H := Option.bind_eq_some_iff.mp H
  obtain ⟨⟨t159, t160⟩, A40, H⟩ := H
  replace H : (some (t159, t158, t160)) = some (r1, r2, r3) := H
  have A4 := Aside0.mk A40
  clear A40
  simp only [Option.some.injEq, Prod.mk.injEq] at H
  obtain ⟨rfl, rfl, rfl⟩ := H
  obtain ⟨Ao5, co5, eo5⟩ := Kd.R_slice HO0_0.out
  subst eo5
  obtain ⟨Ao6, co6, eo6⟩ := Kd.R_slice HO0_1.out
  subst eo6
  go_enter Try.func21, Try.ntmps21
  go_wp2_with (first | ((with_reducible refine gate_dst (N := 2) rfl ?_); refine box_event ?hg (N := 2) ?hd (cs := #[.slice Ao5 l0_0.length co5, .slice Ao6 l0_1.length co6]) (t := 40) ?hr ?_; (case hd => rfl); (case hg => rfl); (case hr => first | (go_simp; done) | (go_simp; rfl)); intro gb156 hg w7 hbox hb; have n0_ := Aside0.mk (Kd.R_below (by (with_reducible repeat (first | apply Kd.R_alloc | apply Kd.R_drewN | apply Kd.R_drew)); exact HO0_0.out) hb); have n1_ := Aside0.mk (Kd.R_below (by (with_reducible repeat (first | apply Kd.R_alloc | apply Kd.R_drewN | apply Kd.R_drew)); exact HO0_1.out) hb); have n2_ := Aside0.mk (Kept.below (S := (fun k_ => P0_0_ k_ ∨ P0_1_ k_)) (by repeat (first | (with_reducible first | exact HK.out | apply Kept.alloc | apply Kept.drewN | apply Kept.drew) | exact HK.out)) hb); have n3_ := Aside0.mk (below_step (by repeat (first | (with_reducible first | exact HB.out | apply below_alloc | apply pw_below_drewN | apply below_drew1) | exact HB.out)) hb); have n4_ := Aside0.mk (hbox); have n5_ := Aside0.mk ((by rw [hg]; exact (by first | exact HK.out.1 | exact (show Kept w _ (fun k_ => P0_0_ k_ ∨ P0_1_ k_) from by repeat (first | (with_reducible first | exact HK.out | apply Kept.alloc | apply Kept.drewN | apply Kept.drew) | exact HK.out)).1) : w.heap.size ≤ gb156)); have n6_ := Aside0.mk ((by rw [hg]; exact (below_size (by repeat (first | (with_reducible first | exact HB.out | apply below_alloc | apply pw_below_drewN | apply below_drew1) | exact HB.out))) : w0.heap.size ≤ gb156)); clear HO0_0; clear HO0_1; clear HK; clear HB; have HO0_0 := n0_; have HO0_1 := n1_; have HK := n2_; have HB := n3_; have BK156 := n4_; have GW156 := n5_; have GE156 := n6_; clear n0_ n1_ n2_ n3_ n4_ n5_ n6_; clear hb hbox hg; have hcz8_0 : w7.cell? ⟨gb156, 0, none⟩ = some (.slice Ao5 l0_0.length co5) := (blk_cell BK156.out 0).trans rfl; have hcz8_1 : w7.cell? ⟨gb156, 1, none⟩ = some (.slice Ao6 l0_1.length co6) := (blk_cell BK156.out 1).trans rfl; have hfz8_0 := blk_frozen BK156.out 0; have hfz8_1 := blk_frozen BK156.out 1) | ((with_reducible refine gate_callee (f := 70) rfl ?_); refine goesL_ (some 8) rfl rfl Try.func70 (by kernel_rfl) rfl #[.slice Ao5 l0_0.length co5, .int .i64 a1] rfl (by (try simp only [List.map_toArray, List.map_cons, List.map_nil]); first | done | rfl | (simp only [List.length_drop, List.length_take]; rfl)) ?_; (with_reducible refine (laws_markPairS.calls k (fun k_ => some k_ = (.slice Ao5 l0_0.length co5 : Value).ownBlock) (.slice Ao5 l0_0.length co5) l0_0 a1 t157 t158 w0 _ ?side1 ?side2 A3.out).mono ?_); (case side1 => repeat (first | (with_reducible first | exact HB.out | apply below_alloc | apply pw_below_drewN | apply below_drew1 | refine below_set ?_ GE156.out) | exact HB.out)); (case side2 => exact Kd.R_tight rfl HO0_0.out); rintro e w9 ⟨rfl, hy0, hb, hkp⟩; refine ⟨_, rfl, ?_⟩; have n0_ := Aside0.mk (Kd.R_reok rfl hy0 (fun k_ e_ => HO0_0.out.1 k_ e_)); have n1_ := Aside0.mk (Kd.R_mono (ok' := fun k_ => ((P0_0_ k_ ∨ P0_1_ k_) ∨ w.heap.size ≤ k_)) (Kd.R_keptB ((Kd.R_apart' HO0_1.out (Kd.R_typed HO0_0.out) (by decide))) hkp (fun k_ hk_ hs_ => (hk_.2) hs_)) (fun k_ hk_ => hk_.1.1)); have n2_ := Aside0.mk (blk_kept (by (with_reducible repeat (first | refine blk_drewN ?_ _ | refine blk_drew ?_ | refine blk_alloc ?_ _)); exact BK156.out) hkp (fun hs_ => (fun e_ => (Kd.R_ne HO0_0.out BK156.out (by decide)) e_) hs_)); have n3_ := Aside0.mk (Kept.then_ (S := (fun k_ => P0_0_ k_ ∨ P0_1_ k_)) (by repeat (first | (with_reducible first | exact HK.out | apply Kept.alloc | apply Kept.drewN | apply Kept.drew | refine Kept.setCell ?_ (.inr GW156.out) _) | exact HK.out)) hkp (fun k_ hs_ => (fun e_ => (HO0_0.out.1 k_ e_.symm)) hs_)); have n4_ := Aside0.mk (hb); clear HO0_0; clear HO0_1; clear BK156; clear HK; clear HB; have HO0_0 := n0_; have HO0_1 := n1_; have BK156 := n2_; have HK := n3_; have HB := n4_; clear n0_ n1_ n2_ n3_ n4_; (try clear hb); (try clear hkp); (try clear hy0); have hcz10_0 : w9.cell? ⟨gb156, 0, none⟩ = some (.slice Ao5 l0_0.length co5) := (blk_cell BK156.out 0).trans rfl; have hcz10_1 : w9.cell? ⟨gb156, 1, none⟩ = some (.slice Ao6 l0_1.length co6) := (blk_cell BK156.out 1).trans rfl; have hfz10_0 := blk_frozen BK156.out 0; have hfz10_1 := blk_frozen BK156.out 1) | ((with_reducible refine gate_callee (f := 71) rfl ?_); refine goesL_ (some 12) rfl rfl Try.func71 (by kernel_rfl) rfl #[.slice Ao6 l0_1.length co6, .int .i64 t157] rfl (by (try simp only [List.map_toArray, List.map_cons, List.map_nil]); first | done | rfl | (simp only [List.length_drop, List.length_take]; rfl)) ?_; (with_reducible refine (laws_markSessionS.calls k (fun k_ => some k_ = (.slice Ao6 l0_1.length co6 : Value).ownBlock) (.slice Ao6 l0_1.length co6) l0_1 t157 t159 t160 w0 _ ?side1 ?side2 A4.out).mono ?_); (case side1 => repeat (first | (with_reducible first | exact HB.out | apply below_alloc | apply pw_below_drewN | apply below_drew1 | refine below_set ?_ GE156.out) | exact HB.out)); (case side2 => exact Kd.R_tight rfl HO0_1.out); rintro e w11 ⟨rfl, hy0, hb, hkp⟩; refine ⟨_, rfl, ?_⟩; have n0_ := Aside0.mk (Kd.R_mono (ok' := fun k_ => ((P0_0_ k_ ∨ P0_1_ k_) ∨ w.heap.size ≤ k_)) (Kd.R_keptB ((Kd.R_apart' HO0_0.out (Kd.R_typed HO0_1.out) (by decide))) hkp (fun k_ hk_ hs_ => (hk_.2) hs_)) (fun k_ hk_ => hk_.1.1)); have n1_ := Aside0.mk (Kd.R_reok rfl hy0 (fun k_ e_ => HO0_1.out.1 k_ e_)); have n2_ := Aside0.mk (blk_kept (by (with_reducible repeat (first | refine blk_drewN ?_ _ | refine blk_drew ?_ | refine blk_alloc ?_ _)); exact BK156.out) hkp (fun hs_ => (fun e_ => (Kd.R_ne HO0_1.out BK156.out (by decide)) e_) hs_)); have n3_ := Aside0.mk (Kept.then_ (S := (fun k_ => P0_0_ k_ ∨ P0_1_ k_)) (by repeat (first | (with_reducible first | exact HK.out | apply Kept.alloc | apply Kept.drewN | apply Kept.drew | refine Kept.setCell ?_ (.inr GW156.out) _) | exact HK.out)) hkp (fun k_ hs_ => (fun e_ => (HO0_1.out.1 k_ e_.symm)) hs_)); have n4_ := Aside0.mk (hb); clear HO0_0; clear HO0_1; clear BK156; clear HK; clear HB; have HO0_0 := n0_; have HO0_1 := n1_; have BK156 := n2_; have HK := n3_; have HB := n4_; clear n0_ n1_ n2_ n3_ n4_; (try clear hb); (try clear hkp); (try clear hy0)))
  go_ret
  exact ⟨by first | rfl | (simp [errW_none, errW_some] <;> rfl) | (simp [*, errW_none, errW_some] <;> rfl), by (with_reducible repeat (first | apply Kd.R_alloc | apply Kd.R_drewN | apply Kd.R_drew)); exact HO0_0.out, by (with_reducible repeat (first | apply Kd.R_alloc | apply Kd.R_drewN | apply Kd.R_drew)); exact HO0_1.out, by repeat (first | (with_reducible first | exact HB.out | apply below_alloc | apply pw_below_drewN | apply below_drew1 | refine below_set ?_ GE156.out) | exact HB.out), by repeat (first | (with_reducible first | exact HK.out | apply Kept.alloc | apply Kept.drewN | apply Kept.drew | refine Kept.setCell ?_ (.inr GW156.out) _) | exact HK.out)⟩

/-! ### laws_heldPairS: function 72 -/
def laws_heldPairS.l0 : Nat → List (S157) → Int → Int → Option (Int)
  | 0, _, _, _ => none
  | k + 1, x0, x1, x5 => if x5 < (x0.length : Int) then (if 0 ≤ x5 then ((laws_markText.f k x1).bind fun t162 => (if ((rd_T157 x0 x5).f0).toList = t162.toList then ((laws_markText.f k (wrap64 (x1 + 1))).bind fun t164 => (if ((rd_T157 x0 x5).f1).toList = t164.toList then (laws_heldPairS.l0 k x0 (wrap64 ((wrap64 (x1 + 1)) + 1)) (wrap64 (x5 + 1))) else (some (-1)))) else (some (-1)))) else (none)) else (some x1)
def laws_heldPairS.f (k : Nat) (l0 : List (S157)) (a1 : Int) : Option (Int) := laws_heldPairS.l0 k l0 a1 0
theorem laws_heldPairS.mono_l : ∀ k, (∀ y0 y1 y2, LeO (laws_heldPairS.l0 k y0 y1 y2) (laws_heldPairS.l0 (k + 1) y0 y1 y2))
  | 0 => fun _ _ _ r h => by simp [laws_heldPairS.l0] at h
  | k + 1 => by
    have ih0 := laws_heldPairS.mono_l k
    · intro y0 y1 y2
      unfold laws_heldPairS.l0
      repeat' first
      | (with_reducible exact ih0 _ _ _)
      | (with_reducible exact laws_markText.mono _ _)
      | (with_reducible exact LeO.refl _)
      | (with_reducible exact LeO.none _)
      | (with_reducible refine LeO.ite ?_ ?_)
      | (with_reducible refine LeO.bind ?_ (fun _ => ?_))
      | exact ih0 _ _ _
      | exact laws_markText.mono _ _
      | exact LeO.none _
      | refine LeO.ite ?_ ?_
      | refine LeO.bind ?_ (fun _ => ?_)
theorem laws_heldPairS.mono : ∀ a0 a1 k, LeO (laws_heldPairS.f k a0 a1) (laws_heldPairS.f (k + 1) a0 a1) := by
  intro a0 a1 k
  have ih0 := laws_heldPairS.mono_l k
  unfold laws_heldPairS.f
  repeat' first
      | (with_reducible exact ih0 _ _ _)
      | (with_reducible exact laws_markText.mono _ _)
      | (with_reducible exact LeO.refl _)
      | (with_reducible exact LeO.none _)
      | (with_reducible refine LeO.ite ?_ ?_)
      | (with_reducible refine LeO.bind ?_ (fun _ => ?_))
      | exact ih0 _ _ _
      | exact laws_markText.mono _ _
      | exact LeO.none _
      | refine LeO.ite ?_ ?_
      | refine LeO.bind ?_ (fun _ => ?_)
def laws_heldPairS.T4 : Bool × List (List Nat × List Nat) := (true, [([], []), ([], []), ([0, 1], [0, 1]), ([2], [2]), ([3], [3]), ([], []), ([5], [5]), ([4, 6], [4, 6])])
def laws_heldPairS.B4 : List Nat := [0, 0, 3, 7, 15, 0, 32, 127]
theorem laws_heldPairS.tab4 : rtab .any (opsOf Try.f72 4) = laws_heldPairS.T4 := by kernel_rfl
theorem laws_heldPairS.bits4 : waitsOk laws_heldPairS.T4.2 laws_heldPairS.B4 = true := by kernel_rfl
def laws_heldPairS.T7 : Bool × List (List Nat × List Nat) := (true, [([], []), ([], []), ([0, 1], [0, 1]), ([2], [2]), ([3], [3]), ([], []), ([5], [5]), ([4, 6], [4, 6])])
def laws_heldPairS.B7 : List Nat := [0, 0, 3, 7, 15, 0, 32, 127]
theorem laws_heldPairS.tab7 : rtab .any (opsOf Try.f72 7) = laws_heldPairS.T7 := by kernel_rfl
theorem laws_heldPairS.bits7 : waitsOk laws_heldPairS.T7.2 laws_heldPairS.B7 = true := by kernel_rfl
set_option maxHeartbeats 8000000 in
set_option maxRecDepth 100000 in
theorem laws_heldPairS.calls (k : Nat) (A0 : Option Addr) (c0 : Nat) (l0 : List (S157)) (a1 : Int) (r : Int) (w : World) (hr0 : Kd.C k157 w A0 l0.length l0) (hc0 : l0.length ≤ c0) (h : laws_heldPairS.f k l0 a1 = some r) :
    Calls Try.prog 72 #[.slice A0 l0.length c0, .int .i64 a1] w fun e w' => e = .returned (.int .i64 r) ∧ Below w.heap.size w w' := by
  have HR0 := Aside0.mk hr0
  have HC0 := Aside0.mk hc0
  clear hr0 hc0
  have HB := Aside0.mk (Below.refl w.heap.size w)
  have H : (laws_heldPairS.l0 k l0 a1 0) = some r := h
  clear h
  have H' := Aside0.mk H
  clear H
  go_enter Try.func72, Try.ntmps72
  go_wp2
  go_loopg [1, 5] k (fun kq v1 v5 w' => ∃ (x1_1 : Int) (x5_1 : Int), v1 = .int .i64 x1_1 ∧ v5 = .int .i64 x5_1 ∧ Aside0 (laws_heldPairS.l0 kq l0 x1_1 x5_1 = some r) ∧ Aside0 (kq ≤ k) ∧ Aside0 (Below w.heap.size w w'))
  case atStart => exact ⟨(a1), (0), (by first | rfl | (simp; done) | (simp [*]; done)), (by first | rfl | (simp; done) | (simp [*]; done)), H', ⟨Nat.le_refl _⟩, ⟨by repeat (first | (with_reducible first | exact HB.out | apply below_alloc | apply pw_below_drewN | apply below_drew1) | exact HB.out)⟩⟩
  case round =>
    clear H'
    try clear p2
    obtain ⟨x1_1, x5_1, rfl, rfl, HA, HK1, HB⟩ := hrel
    cases gk with
    | zero => exact absurd HA.out (by simp [laws_heldPairS.l0])
    | succ k1 =>
      have H := HA.out
      clear HA
      simp only [laws_heldPairS.l0] at H
      by_cases c3 : x5_1 < (l0.length : Int)
      · rw [if_pos c3] at H
        have c3b0 : decide (x5_1 < (l0.length : Int)) = true := decide_eq_true c3
        clear c3
        by_cases c4 : 0 ≤ x5_1
        · rw [if_pos c4] at H
          have c4b0 : decide (0 ≤ x5_1) = true := decide_eq_true c4
          clear c4
          replace H := Option.bind_eq_some_iff.mp H
          obtain ⟨t162, A50, H⟩ := H
          replace H : (if ((rd_T157 l0 x5_1).f0).toList = t162.toList then ((laws_markText.f k1 (wrap64 (x1_1 + 1))).bind fun t164 => (if ((rd_T157 l0 x5_1).f1).toList = t164.toList then (laws_heldPairS.l0 k1 l0 (wrap64 ((wrap64 (x1_1 + 1)) + 1)) (wrap64 (x5_1 + 1))) else (some (-1)))) else (some (-1))) = some r := H
          have A5 := Aside0.mk A50
          clear A50
          by_cases c6 : ((rd_T157 l0 x5_1).f0).toList = t162.toList
          · rw [if_pos c6] at H
            have c6b0 : (((rd_T157 l0 x5_1).f0).toList == t162.toList) = true := beq_iff_eq.mpr c6
            have c6b1 : (((rd_T157 l0 x5_1).f0).toList != t162.toList) = false := bne_eq_false_iff_eq.mpr c6
            clear c6
            replace H := Option.bind_eq_some_iff.mp H
            obtain ⟨t164, A70, H⟩ := H
            replace H : (if ((rd_T157 l0 x5_1).f1).toList = t164.toList then (laws_heldPairS.l0 k1 l0 (wrap64 ((wrap64 (x1_1 + 1)) + 1)) (wrap64 (x5_1 + 1))) else (some (-1))) = some r := H
            have A7 := Aside0.mk A70
            clear A70
            by_cases c8 : ((rd_T157 l0 x5_1).f1).toList = t164.toList
            · rw [if_pos c8] at H
              have c8b0 : (((rd_T157 l0 x5_1).f1).toList == t164.toList) = true := beq_iff_eq.mpr c8
              have c8b1 : (((rd_T157 l0 x5_1).f1).toList != t164.toList) = false := bne_eq_false_iff_eq.mpr c8
              clear c8
              have H' := Aside0.mk H
              clear H
              try go_wp2
              have n0_ := Aside0.mk (below_drew1 HB.out)
              clear HB
              have HB := n0_
              clear n0_
              have p161 : 0 ≤ (x5_1 : Int) := of_decide_eq_true (by first | (with_reducible assumption) | assumption)
              have q161 : x5_1 < (l0.length : Int) := of_decide_eq_true (by first | (with_reducible assumption) | assumption)
              obtain ⟨ad161, e161, hx161_0, hx161_1⟩ := at_T157 HR0.out x5_1 p161 q161
              have hw161_1 := hx161_1
              have hw161_0 := hx161_0
              cases e161
              replace hx161_0 := (HB.out.cell (World.block_lt_of_cell? w _ hx161_0)).trans hx161_0
              replace hx161_1 := (HB.out.cell (World.block_lt_of_cell? w _ hx161_1)).trans hx161_1
              replace p161 := eq_true p161
              replace q161 := eq_true q161
              refine start_ (n := 8) (S := fun w' => w'.cell? (ad161.add ((x5_1).toNat * 2)) = some (.string ((rd_T157 l0 x5_1).f0)) ∧ w'.cell? ⟨(ad161.add ((x5_1).toNat * 2)).block, (ad161.add ((x5_1).toNat * 2)).off + 1, none⟩ = some (.string ((rd_T157 l0 x5_1).f1))) (ds := []) #[false, false, false, false, false, false, false, false] (by kernel_rfl) rfl rfl ⟨((HB.out.cell (World.block_lt_of_cell? w _ hw161_0)).trans hw161_0), ((HB.out.cell (World.block_lt_of_cell? w _ hw161_1)).trans hw161_1)⟩ (fun hHeld => ?_); refine with_tabW laws_heldPairS.tab4 laws_heldPairS.bits4 (fun HT_ HW_ => ?_)
              generalize wr.drew = w9 at HB hx161_0 hx161_1 hHeld ⊢
              refine pure_ (i := 0) (N := some 12) (v := ?_) (a' := ?_) #[true, false, false, false, false, false, false, false] rfl rfl (any_of HT_.out (by kernel_rfl)) (fun _ _ _ h => h) (Or.inl ⟨by rfl, ?_⟩) ?_ ?_
              rotate_left
              · intro w'
                go_simp
                with_reducible rfl
              rotate_left
              · simp only [Act.put, List.setIfInBounds_toArray, List.set_cons_zero, List.set_cons_succ, i64_w, i32_w]
                rfl
              refine pure_ (i := 1) (N := some 13) (v := ?_) (a' := ?_) #[true, true, false, false, false, false, false, false] rfl rfl (any_of HT_.out (by kernel_rfl)) (fun _ _ _ h => h) (Or.inl ⟨by rfl, ?_⟩) ?_ ?_
              rotate_left
              · intro w'
                go_simp
                with_reducible rfl
              rotate_left
              · simp only [Act.put, List.setIfInBounds_toArray, List.set_cons_zero, List.set_cons_succ, i64_w, i32_w]
                rfl
              refine pure_ (i := 2) (N := some 14) (v := ?_) (a' := ?_) #[true, true, true, false, false, false, false, false] rfl rfl (any_of HT_.out (by kernel_rfl)) (fun _ _ _ h => h) (Or.inl ⟨by rfl, ?_⟩) ?_ ?_
              rotate_left
              · intro w'
                go_simp
                with_reducible rfl
              rotate_left
              · simp only [Act.put, List.setIfInBounds_toArray, List.set_cons_zero, List.set_cons_succ, i64_w, i32_w]
                rfl
              refine pure_ (i := 3) (N := some 15) (v := ?_) (a' := ?_) #[true, true, true, true, false, false, false, false] rfl rfl (any_of HT_.out (by kernel_rfl)) (fun _ _ _ h => h) (Or.inl ⟨by rfl, ?_⟩) ?_ ?_
              rotate_left
              · intro w'
                go_simp
                with_reducible rfl
              rotate_left
              · simp only [Act.put, List.setIfInBounds_toArray, List.set_cons_zero, List.set_cons_succ, i64_w, i32_w]
                rfl
              refine pure_ (i := 5) (N := some 17) (v := ?_) (a' := ?_) #[true, true, true, true, false, true, false, false] rfl rfl (any_of HT_.out (by kernel_rfl)) (fun _ _ _ h => h) (Or.inl ⟨by rfl, ?_⟩) ?_ ?_
              rotate_left
              · intro w'
                go_simp
                with_reducible rfl
              rotate_left
              · simp only [Act.put, List.setIfInBounds_toArray, List.set_cons_zero, List.set_cons_succ, i64_w, i32_w]
                rfl
              refine take_ (i := 4) (N := some 16) (v := ?_) (a' := ?_) #[true, true, true, true, true, true, false, false] rfl rfl (take_ofW HT_.out HW_.out (by kernel_rfl)) (fun _ _ _ h => h) (Or.inl ⟨by rfl, ?_⟩) hHeld ?_ ?_
              rotate_left
              · rintro w' ⟨s0, s1⟩
                go_simp
                with_reducible rfl
              rotate_left
              · simp only [Act.put, List.setIfInBounds_toArray, List.set_cons_zero, List.set_cons_succ, i64_w, i32_w]
                rfl
              refine one_ (i := 6) (N := some 18) #[true, true, true, true, true, true, true, false] rfl rfl (one_of HT_.out (by kernel_rfl)) (by decide) (fun K hK => ?_)
              refine goes_ Try.func69 (by kernel_rfl) rfl #[.int .i64 x1_1] (by rfl) rfl rfl (by (try simp only [List.map_toArray, List.map_cons, List.map_nil]); first | done | rfl | (simp only [List.length_drop, List.length_take]; rfl)) ?_
              with_reducible refine (laws_markText.calls k1 x1_1 t162 _ A5.out).mono ?_
              rintro e w10 ⟨rfl, hb⟩
              refine ⟨_, rfl, ?_⟩
              have n0_ := Aside0.mk (below_step (by repeat (first | (with_reducible first | exact HB.out | apply below_alloc | apply pw_below_drewN | apply below_drew1) | exact HB.out)) hb)
              clear HB
              have HB := n0_
              clear n0_
              (try clear hb)
              (try clear hb2)
              (try clear hk)
              (try clear hi)
              refine hK.out _ _ ⟨((HB.out.cell (World.block_lt_of_cell? w _ hw161_0)).trans hw161_0), ((HB.out.cell (World.block_lt_of_cell? w _ hw161_1)).trans hw161_1)⟩ (fun hHeld => ?_)
              clear hK K
              refine norm_ (a' := ?_) ?_ ?_
              rotate_left
              · show Act.put _ (some 18) _ = _
                simp only [Act.put, List.setIfInBounds_toArray, List.set_cons_zero, List.set_cons_succ, i64_w, i32_w]
                rfl
              refine pure_ (i := 7) (N := some 19) (v := ?_) (a' := ?_) #[true, true, true, true, true, true, true, true] rfl rfl (any_of HT_.out (by kernel_rfl)) (fun _ _ _ h => h) (Or.inl ⟨by rfl, ?_⟩) ?_ ?_
              rotate_left
              · intro w'
                go_simp
                with_reducible rfl
              rotate_left
              · simp only [Act.put, List.setIfInBounds_toArray, List.set_cons_zero, List.set_cons_succ, i64_w, i32_w]
                rfl
              refine done_ (done_of HT_.out (by kernel_rfl)) ?_
              try go_wp2
              have n0_ := Aside0.mk (below_drew1 HB.out)
              clear HB
              have HB := n0_
              clear n0_
              have p163 : 0 ≤ (x5_1 : Int) := of_decide_eq_true (by first | (with_reducible assumption) | assumption)
              have q163 : x5_1 < (l0.length : Int) := of_decide_eq_true (by first | (with_reducible assumption) | assumption)
              obtain ⟨ad163, e163, hx163_0, hx163_1⟩ := at_T157 HR0.out x5_1 p163 q163
              have hw163_1 := hx163_1
              have hw163_0 := hx163_0
              obtain rfl : ad161 = ad163 := (by injection e163)
              replace hx163_0 := (HB.out.cell (World.block_lt_of_cell? w _ hx163_0)).trans hx163_0
              replace hx163_1 := (HB.out.cell (World.block_lt_of_cell? w _ hx163_1)).trans hx163_1
              replace p163 := eq_true p163
              replace q163 := eq_true q163
              refine start_ (n := 8) (S := fun w' => w'.cell? (ad161.add ((x5_1).toNat * 2)) = some (.string ((rd_T157 l0 x5_1).f0)) ∧ w'.cell? ⟨(ad161.add ((x5_1).toNat * 2)).block, (ad161.add ((x5_1).toNat * 2)).off + 1, none⟩ = some (.string ((rd_T157 l0 x5_1).f1))) (ds := []) #[false, false, false, false, false, false, false, false] (by kernel_rfl) rfl rfl ⟨((HB.out.cell (World.block_lt_of_cell? w _ hw163_0)).trans hw163_0), ((HB.out.cell (World.block_lt_of_cell? w _ hw163_1)).trans hw163_1)⟩ (fun hHeld => ?_); refine with_tabW laws_heldPairS.tab7 laws_heldPairS.bits7 (fun HT_ HW_ => ?_)
              generalize w10.drew = w11 at HB hx163_0 hx163_1 hHeld ⊢
              refine pure_ (i := 0) (N := some 22) (v := ?_) (a' := ?_) #[true, false, false, false, false, false, false, false] rfl rfl (any_of HT_.out (by kernel_rfl)) (fun _ _ _ h => h) (Or.inl ⟨by rfl, ?_⟩) ?_ ?_
              rotate_left
              · intro w'
                go_simp
                with_reducible rfl
              rotate_left
              · simp only [Act.put, List.setIfInBounds_toArray, List.set_cons_zero, List.set_cons_succ, i64_w, i32_w]
                rfl
              refine pure_ (i := 1) (N := some 23) (v := ?_) (a' := ?_) #[true, true, false, false, false, false, false, false] rfl rfl (any_of HT_.out (by kernel_rfl)) (fun _ _ _ h => h) (Or.inl ⟨by rfl, ?_⟩) ?_ ?_
              rotate_left
              · intro w'
                go_simp
                with_reducible rfl
              rotate_left
              · simp only [Act.put, List.setIfInBounds_toArray, List.set_cons_zero, List.set_cons_succ, i64_w, i32_w]
                rfl
              refine pure_ (i := 2) (N := some 24) (v := ?_) (a' := ?_) #[true, true, true, false, false, false, false, false] rfl rfl (any_of HT_.out (by kernel_rfl)) (fun _ _ _ h => h) (Or.inl ⟨by rfl, ?_⟩) ?_ ?_
              rotate_left
              · intro w'
                go_simp
                with_reducible rfl
              rotate_left
              · simp only [Act.put, List.setIfInBounds_toArray, List.set_cons_zero, List.set_cons_succ, i64_w, i32_w]
                rfl
              refine pure_ (i := 3) (N := some 25) (v := ?_) (a' := ?_) #[true, true, true, true, false, false, false, false] rfl rfl (any_of HT_.out (by kernel_rfl)) (fun _ _ _ h => h) (Or.inl ⟨by rfl, ?_⟩) ?_ ?_
              rotate_left
              · intro w'
                go_simp
                with_reducible rfl
              rotate_left
              · simp only [Act.put, List.setIfInBounds_toArray, List.set_cons_zero, List.set_cons_succ, i64_w, i32_w]
                rfl
              refine pure_ (i := 5) (N := some 27) (v := ?_) (a' := ?_) #[true, true, true, true, false, true, false, false] rfl rfl (any_of HT_.out (by kernel_rfl)) (fun _ _ _ h => h) (Or.inl ⟨by rfl, ?_⟩) ?_ ?_
              rotate_left
              · intro w'
                go_simp
                with_reducible rfl
              rotate_left
              · simp only [Act.put, List.setIfInBounds_toArray, List.set_cons_zero, List.set_cons_succ, i64_w, i32_w]
                rfl
              refine take_ (i := 4) (N := some 26) (v := ?_) (a' := ?_) #[true, true, true, true, true, true, false, false] rfl rfl (take_ofW HT_.out HW_.out (by kernel_rfl)) (fun _ _ _ h => h) (Or.inl ⟨by rfl, ?_⟩) hHeld ?_ ?_
              rotate_left
              · rintro w' ⟨s0, s1⟩
                go_simp
                with_reducible rfl
              rotate_left
              · simp only [Act.put, List.setIfInBounds_toArray, List.set_cons_zero, List.set_cons_succ, i64_w, i32_w]
                rfl
              refine one_ (i := 6) (N := some 28) #[true, true, true, true, true, true, true, false] rfl rfl (one_of HT_.out (by kernel_rfl)) (by decide) (fun K hK => ?_)
              refine goes_ Try.func69 (by kernel_rfl) rfl #[.int .i64 (wrap64 (x1_1 + 1))] (by rfl) rfl rfl (by (try simp only [List.map_toArray, List.map_cons, List.map_nil]); first | done | rfl | (simp only [List.length_drop, List.length_take]; rfl)) ?_
              with_reducible refine (laws_markText.calls k1 (wrap64 (x1_1 + 1)) t164 _ A7.out).mono ?_
              rintro e w12 ⟨rfl, hb⟩
              refine ⟨_, rfl, ?_⟩
              have n0_ := Aside0.mk (below_step (by repeat (first | (with_reducible first | exact HB.out | apply below_alloc | apply pw_below_drewN | apply below_drew1) | exact HB.out)) hb)
              clear HB
              have HB := n0_
              clear n0_
              (try clear hb)
              (try clear hb2)
              (try clear hk)
              (try clear hi)
              refine hK.out _ _ ⟨((HB.out.cell (World.block_lt_of_cell? w _ hw163_0)).trans hw163_0), ((HB.out.cell (World.block_lt_of_cell? w _ hw163_1)).trans hw163_1)⟩ (fun hHeld => ?_)
              clear hK K
              refine norm_ (a' := ?_) ?_ ?_
              rotate_left
              · show Act.put _ (some 28) _ = _
                simp only [Act.put, List.setIfInBounds_toArray, List.set_cons_zero, List.set_cons_succ, i64_w, i32_w]
                rfl
              refine pure_ (i := 7) (N := some 29) (v := ?_) (a' := ?_) #[true, true, true, true, true, true, true, true] rfl rfl (any_of HT_.out (by kernel_rfl)) (fun _ _ _ h => h) (Or.inl ⟨by rfl, ?_⟩) ?_ ?_
              rotate_left
              · intro w'
                go_simp
                with_reducible rfl
              rotate_left
              · simp only [Act.put, List.setIfInBounds_toArray, List.set_cons_zero, List.set_cons_succ, i64_w, i32_w]
                rfl
              refine done_ (done_of HT_.out (by kernel_rfl)) ?_
              try go_wp2
              go_roundg k1
              case measure => have := HK1.out; omega
              case rel => exact ⟨(wrap64 ((wrap64 (x1_1 + 1)) + 1)), (wrap64 (x5_1 + 1)), (by first | rfl | (simp; done) | (simp [*]; done)), (by first | rfl | (simp; done) | (simp [*]; done)), H', ⟨by have := HK1.out; omega⟩, ⟨by repeat (first | (with_reducible first | exact HB.out | apply below_alloc | apply pw_below_drewN | apply below_drew1) | exact HB.out)⟩⟩
            · rw [if_neg c8] at H
              have c8b0 : (((rd_T157 l0 x5_1).f1).toList == t164.toList) = false := beq_eq_false_iff_ne.mpr c8
              have c8b1 : (((rd_T157 l0 x5_1).f1).toList != t164.toList) = true := bne_iff_ne.mpr c8
              obtain rfl := Option.some.inj H
              try go_wp2
              have n0_ := Aside0.mk (below_drew1 HB.out)
              clear HB
              have HB := n0_
              clear n0_
              have p161 : 0 ≤ (x5_1 : Int) := of_decide_eq_true (by first | (with_reducible assumption) | assumption)
              have q161 : x5_1 < (l0.length : Int) := of_decide_eq_true (by first | (with_reducible assumption) | assumption)
              obtain ⟨ad161, e161, hx161_0, hx161_1⟩ := at_T157 HR0.out x5_1 p161 q161
              have hw161_1 := hx161_1
              have hw161_0 := hx161_0
              cases e161
              replace hx161_0 := (HB.out.cell (World.block_lt_of_cell? w _ hx161_0)).trans hx161_0
              replace hx161_1 := (HB.out.cell (World.block_lt_of_cell? w _ hx161_1)).trans hx161_1
              replace p161 := eq_true p161
              replace q161 := eq_true q161
              refine start_ (n := 8) (S := fun w' => w'.cell? (ad161.add ((x5_1).toNat * 2)) = some (.string ((rd_T157 l0 x5_1).f0)) ∧ w'.cell? ⟨(ad161.add ((x5_1).toNat * 2)).block, (ad161.add ((x5_1).toNat * 2)).off + 1, none⟩ = some (.string ((rd_T157 l0 x5_1).f1))) (ds := []) #[false, false, false, false, false, false, false, false] (by kernel_rfl) rfl rfl ⟨((HB.out.cell (World.block_lt_of_cell? w _ hw161_0)).trans hw161_0), ((HB.out.cell (World.block_lt_of_cell? w _ hw161_1)).trans hw161_1)⟩ (fun hHeld => ?_); refine with_tabW laws_heldPairS.tab4 laws_heldPairS.bits4 (fun HT_ HW_ => ?_)
              generalize wr.drew = w13 at HB hx161_0 hx161_1 hHeld ⊢
              refine pure_ (i := 0) (N := some 12) (v := ?_) (a' := ?_) #[true, false, false, false, false, false, false, false] rfl rfl (any_of HT_.out (by kernel_rfl)) (fun _ _ _ h => h) (Or.inl ⟨by rfl, ?_⟩) ?_ ?_
              rotate_left
              · intro w'
                go_simp
                with_reducible rfl
              rotate_left
              · simp only [Act.put, List.setIfInBounds_toArray, List.set_cons_zero, List.set_cons_succ, i64_w, i32_w]
                rfl
              refine pure_ (i := 1) (N := some 13) (v := ?_) (a' := ?_) #[true, true, false, false, false, false, false, false] rfl rfl (any_of HT_.out (by kernel_rfl)) (fun _ _ _ h => h) (Or.inl ⟨by rfl, ?_⟩) ?_ ?_
              rotate_left
              · intro w'
                go_simp
                with_reducible rfl
              rotate_left
              · simp only [Act.put, List.setIfInBounds_toArray, List.set_cons_zero, List.set_cons_succ, i64_w, i32_w]
                rfl
              refine pure_ (i := 2) (N := some 14) (v := ?_) (a' := ?_) #[true, true, true, false, false, false, false, false] rfl rfl (any_of HT_.out (by kernel_rfl)) (fun _ _ _ h => h) (Or.inl ⟨by rfl, ?_⟩) ?_ ?_
              rotate_left
              · intro w'
                go_simp
                with_reducible rfl
              rotate_left
              · simp only [Act.put, List.setIfInBounds_toArray, List.set_cons_zero, List.set_cons_succ, i64_w, i32_w]
                rfl
              refine pure_ (i := 3) (N := some 15) (v := ?_) (a' := ?_) #[true, true, true, true, false, false, false, false] rfl rfl (any_of HT_.out (by kernel_rfl)) (fun _ _ _ h => h) (Or.inl ⟨by rfl, ?_⟩) ?_ ?_
              rotate_left
              · intro w'
                go_simp
                with_reducible rfl
              rotate_left
              · simp only [Act.put, List.setIfInBounds_toArray, List.set_cons_zero, List.set_cons_succ, i64_w, i32_w]
                rfl
              refine pure_ (i := 5) (N := some 17) (v := ?_) (a' := ?_) #[true, true, true, true, false, true, false, false] rfl rfl (any_of HT_.out (by kernel_rfl)) (fun _ _ _ h => h) (Or.inl ⟨by rfl, ?_⟩) ?_ ?_
              rotate_left
              · intro w'
                go_simp
                with_reducible rfl
              rotate_left
              · simp only [Act.put, List.setIfInBounds_toArray, List.set_cons_zero, List.set_cons_succ, i64_w, i32_w]
                rfl
              refine take_ (i := 4) (N := some 16) (v := ?_) (a' := ?_) #[true, true, true, true, true, true, false, false] rfl rfl (take_ofW HT_.out HW_.out (by kernel_rfl)) (fun _ _ _ h => h) (Or.inl ⟨by rfl, ?_⟩) hHeld ?_ ?_
              rotate_left
              · rintro w' ⟨s0, s1⟩
                go_simp
                with_reducible rfl
              rotate_left
              · simp only [Act.put, List.setIfInBounds_toArray, List.set_cons_zero, List.set_cons_succ, i64_w, i32_w]
                rfl
              refine one_ (i := 6) (N := some 18) #[true, true, true, true, true, true, true, false] rfl rfl (one_of HT_.out (by kernel_rfl)) (by decide) (fun K hK => ?_)
              refine goes_ Try.func69 (by kernel_rfl) rfl #[.int .i64 x1_1] (by rfl) rfl rfl (by (try simp only [List.map_toArray, List.map_cons, List.map_nil]); first | done | rfl | (simp only [List.length_drop, List.length_take]; rfl)) ?_
              with_reducible refine (laws_markText.calls k1 x1_1 t162 _ A5.out).mono ?_
              rintro e w14 ⟨rfl, hb⟩
              refine ⟨_, rfl, ?_⟩
              have n0_ := Aside0.mk (below_step (by repeat (first | (with_reducible first | exact HB.out | apply below_alloc | apply pw_below_drewN | apply below_drew1) | exact HB.out)) hb)
              clear HB
              have HB := n0_
              clear n0_
              (try clear hb)
              (try clear hb2)
              (try clear hk)
              (try clear hi)
              refine hK.out _ _ ⟨((HB.out.cell (World.block_lt_of_cell? w _ hw161_0)).trans hw161_0), ((HB.out.cell (World.block_lt_of_cell? w _ hw161_1)).trans hw161_1)⟩ (fun hHeld => ?_)
              clear hK K
              refine norm_ (a' := ?_) ?_ ?_
              rotate_left
              · show Act.put _ (some 18) _ = _
                simp only [Act.put, List.setIfInBounds_toArray, List.set_cons_zero, List.set_cons_succ, i64_w, i32_w]
                rfl
              refine pure_ (i := 7) (N := some 19) (v := ?_) (a' := ?_) #[true, true, true, true, true, true, true, true] rfl rfl (any_of HT_.out (by kernel_rfl)) (fun _ _ _ h => h) (Or.inl ⟨by rfl, ?_⟩) ?_ ?_
              rotate_left
              · intro w'
                go_simp
                with_reducible rfl
              rotate_left
              · simp only [Act.put, List.setIfInBounds_toArray, List.set_cons_zero, List.set_cons_succ, i64_w, i32_w]
                rfl
              refine done_ (done_of HT_.out (by kernel_rfl)) ?_
              try go_wp2
              have n0_ := Aside0.mk (below_drew1 HB.out)
              clear HB
              have HB := n0_
              clear n0_
              have p163 : 0 ≤ (x5_1 : Int) := of_decide_eq_true (by first | (with_reducible assumption) | assumption)
              have q163 : x5_1 < (l0.length : Int) := of_decide_eq_true (by first | (with_reducible assumption) | assumption)
              obtain ⟨ad163, e163, hx163_0, hx163_1⟩ := at_T157 HR0.out x5_1 p163 q163
              have hw163_1 := hx163_1
              have hw163_0 := hx163_0
              obtain rfl : ad161 = ad163 := (by injection e163)
              replace hx163_0 := (HB.out.cell (World.block_lt_of_cell? w _ hx163_0)).trans hx163_0
              replace hx163_1 := (HB.out.cell (World.block_lt_of_cell? w _ hx163_1)).trans hx163_1
              replace p163 := eq_true p163
              replace q163 := eq_true q163
              refine start_ (n := 8) (S := fun w' => w'.cell? (ad161.add ((x5_1).toNat * 2)) = some (.string ((rd_T157 l0 x5_1).f0)) ∧ w'.cell? ⟨(ad161.add ((x5_1).toNat * 2)).block, (ad161.add ((x5_1).toNat * 2)).off + 1, none⟩ = some (.string ((rd_T157 l0 x5_1).f1))) (ds := []) #[false, false, false, false, false, false, false, false] (by kernel_rfl) rfl rfl ⟨((HB.out.cell (World.block_lt_of_cell? w _ hw163_0)).trans hw163_0), ((HB.out.cell (World.block_lt_of_cell? w _ hw163_1)).trans hw163_1)⟩ (fun hHeld => ?_); refine with_tabW laws_heldPairS.tab7 laws_heldPairS.bits7 (fun HT_ HW_ => ?_)
              generalize w14.drew = w15 at HB hx163_0 hx163_1 hHeld ⊢
              refine pure_ (i := 0) (N := some 22) (v := ?_) (a' := ?_) #[true, false, false, false, false, false, false, false] rfl rfl (any_of HT_.out (by kernel_rfl)) (fun _ _ _ h => h) (Or.inl ⟨by rfl, ?_⟩) ?_ ?_
              rotate_left
              · intro w'
                go_simp
                with_reducible rfl
              rotate_left
              · simp only [Act.put, List.setIfInBounds_toArray, List.set_cons_zero, List.set_cons_succ, i64_w, i32_w]
                rfl
              refine pure_ (i := 1) (N := some 23) (v := ?_) (a' := ?_) #[true, true, false, false, false, false, false, false] rfl rfl (any_of HT_.out (by kernel_rfl)) (fun _ _ _ h => h) (Or.inl ⟨by rfl, ?_⟩) ?_ ?_
              rotate_left
              · intro w'
                go_simp
                with_reducible rfl
              rotate_left
              · simp only [Act.put, List.setIfInBounds_toArray, List.set_cons_zero, List.set_cons_succ, i64_w, i32_w]
                rfl
              refine pure_ (i := 2) (N := some 24) (v := ?_) (a' := ?_) #[true, true, true, false, false, false, false, false] rfl rfl (any_of HT_.out (by kernel_rfl)) (fun _ _ _ h => h) (Or.inl ⟨by rfl, ?_⟩) ?_ ?_
              rotate_left
              · intro w'
                go_simp
                with_reducible rfl
              rotate_left
              · simp only [Act.put, List.setIfInBounds_toArray, List.set_cons_zero, List.set_cons_succ, i64_w, i32_w]
                rfl
              refine pure_ (i := 3) (N := some 25) (v := ?_) (a' := ?_) #[true, true, true, true, false, false, false, false] rfl rfl (any_of HT_.out (by kernel_rfl)) (fun _ _ _ h => h) (Or.inl ⟨by rfl, ?_⟩) ?_ ?_
              rotate_left
              · intro w'
                go_simp
                with_reducible rfl
              rotate_left
              · simp only [Act.put, List.setIfInBounds_toArray, List.set_cons_zero, List.set_cons_succ, i64_w, i32_w]
                rfl
              refine pure_ (i := 5) (N := some 27) (v := ?_) (a' := ?_) #[true, true, true, true, false, true, false, false] rfl rfl (any_of HT_.out (by kernel_rfl)) (fun _ _ _ h => h) (Or.inl ⟨by rfl, ?_⟩) ?_ ?_
              rotate_left
              · intro w'
                go_simp
                with_reducible rfl
              rotate_left
              · simp only [Act.put, List.setIfInBounds_toArray, List.set_cons_zero, List.set_cons_succ, i64_w, i32_w]
                rfl
              refine take_ (i := 4) (N := some 26) (v := ?_) (a' := ?_) #[true, true, true, true, true, true, false, false] rfl rfl (take_ofW HT_.out HW_.out (by kernel_rfl)) (fun _ _ _ h => h) (Or.inl ⟨by rfl, ?_⟩) hHeld ?_ ?_
              rotate_left
              · rintro w' ⟨s0, s1⟩
                go_simp
                with_reducible rfl
              rotate_left
              · simp only [Act.put, List.setIfInBounds_toArray, List.set_cons_zero, List.set_cons_succ, i64_w, i32_w]
                rfl
              refine one_ (i := 6) (N := some 28) #[true, true, true, true, true, true, true, false] rfl rfl (one_of HT_.out (by kernel_rfl)) (by decide) (fun K hK => ?_)
              refine goes_ Try.func69 (by kernel_rfl) rfl #[.int .i64 (wrap64 (x1_1 + 1))] (by rfl) rfl rfl (by (try simp only [List.map_toArray, List.map_cons, List.map_nil]); first | done | rfl | (simp only [List.length_drop, List.length_take]; rfl)) ?_
              with_reducible refine (laws_markText.calls k1 (wrap64 (x1_1 + 1)) t164 _ A7.out).mono ?_
              rintro e w16 ⟨rfl, hb⟩
              refine ⟨_, rfl, ?_⟩
              have n0_ := Aside0.mk (below_step (by repeat (first | (with_reducible first | exact HB.out | apply below_alloc | apply pw_below_drewN | apply below_drew1) | exact HB.out)) hb)
              clear HB
              have HB := n0_
              clear n0_
              (try clear hb)
              (try clear hb2)
              (try clear hk)
              (try clear hi)
              refine hK.out _ _ ⟨((HB.out.cell (World.block_lt_of_cell? w _ hw163_0)).trans hw163_0), ((HB.out.cell (World.block_lt_of_cell? w _ hw163_1)).trans hw163_1)⟩ (fun hHeld => ?_)
              clear hK K
              refine norm_ (a' := ?_) ?_ ?_
              rotate_left
              · show Act.put _ (some 28) _ = _
                simp only [Act.put, List.setIfInBounds_toArray, List.set_cons_zero, List.set_cons_succ, i64_w, i32_w]
                rfl
              refine pure_ (i := 7) (N := some 29) (v := ?_) (a' := ?_) #[true, true, true, true, true, true, true, true] rfl rfl (any_of HT_.out (by kernel_rfl)) (fun _ _ _ h => h) (Or.inl ⟨by rfl, ?_⟩) ?_ ?_
              rotate_left
              · intro w'
                go_simp
                with_reducible rfl
              rotate_left
              · simp only [Act.put, List.setIfInBounds_toArray, List.set_cons_zero, List.set_cons_succ, i64_w, i32_w]
                rfl
              refine done_ (done_of HT_.out (by kernel_rfl)) ?_
              try go_wp2
              go_ret
              exact ⟨by first | rfl | (simp [errW_none, errW_some] <;> rfl) | (simp [*, errW_none, errW_some] <;> rfl), by repeat (first | (with_reducible first | exact HB.out | apply below_alloc | apply pw_below_drewN | apply below_drew1) | exact HB.out)⟩
          · rw [if_neg c6] at H
            have c6b0 : (((rd_T157 l0 x5_1).f0).toList == t162.toList) = false := beq_eq_false_iff_ne.mpr c6
            have c6b1 : (((rd_T157 l0 x5_1).f0).toList != t162.toList) = true := bne_iff_ne.mpr c6
            obtain rfl := Option.some.inj H
            try go_wp2
            have n0_ := Aside0.mk (below_drew1 HB.out)
            clear HB
            have HB := n0_
            clear n0_
            have p161 : 0 ≤ (x5_1 : Int) := of_decide_eq_true (by first | (with_reducible assumption) | assumption)
            have q161 : x5_1 < (l0.length : Int) := of_decide_eq_true (by first | (with_reducible assumption) | assumption)
            obtain ⟨ad161, e161, hx161_0, hx161_1⟩ := at_T157 HR0.out x5_1 p161 q161
            have hw161_1 := hx161_1
            have hw161_0 := hx161_0
            cases e161
            replace hx161_0 := (HB.out.cell (World.block_lt_of_cell? w _ hx161_0)).trans hx161_0
            replace hx161_1 := (HB.out.cell (World.block_lt_of_cell? w _ hx161_1)).trans hx161_1
            replace p161 := eq_true p161
            replace q161 := eq_true q161
            refine start_ (n := 8) (S := fun w' => w'.cell? (ad161.add ((x5_1).toNat * 2)) = some (.string ((rd_T157 l0 x5_1).f0)) ∧ w'.cell? ⟨(ad161.add ((x5_1).toNat * 2)).block, (ad161.add ((x5_1).toNat * 2)).off + 1, none⟩ = some (.string ((rd_T157 l0 x5_1).f1))) (ds := []) #[false, false, false, false, false, false, false, false] (by kernel_rfl) rfl rfl ⟨((HB.out.cell (World.block_lt_of_cell? w _ hw161_0)).trans hw161_0), ((HB.out.cell (World.block_lt_of_cell? w _ hw161_1)).trans hw161_1)⟩ (fun hHeld => ?_); refine with_tabW laws_heldPairS.tab4 laws_heldPairS.bits4 (fun HT_ HW_ => ?_)
            generalize wr.drew = w17 at HB hx161_0 hx161_1 hHeld ⊢
            refine pure_ (i := 0) (N := some 12) (v := ?_) (a' := ?_) #[true, false, false, false, false, false, false, false] rfl rfl (any_of HT_.out (by kernel_rfl)) (fun _ _ _ h => h) (Or.inl ⟨by rfl, ?_⟩) ?_ ?_
            rotate_left
            · intro w'
              go_simp
              with_reducible rfl
            rotate_left
            · simp only [Act.put, List.setIfInBounds_toArray, List.set_cons_zero, List.set_cons_succ, i64_w, i32_w]
              rfl
            refine pure_ (i := 1) (N := some 13) (v := ?_) (a' := ?_) #[true, true, false, false, false, false, false, false] rfl rfl (any_of HT_.out (by kernel_rfl)) (fun _ _ _ h => h) (Or.inl ⟨by rfl, ?_⟩) ?_ ?_
            rotate_left
            · intro w'
              go_simp
              with_reducible rfl
            rotate_left
            · simp only [Act.put, List.setIfInBounds_toArray, List.set_cons_zero, List.set_cons_succ, i64_w, i32_w]
              rfl
            refine pure_ (i := 2) (N := some 14) (v := ?_) (a' := ?_) #[true, true, true, false, false, false, false, false] rfl rfl (any_of HT_.out (by kernel_rfl)) (fun _ _ _ h => h) (Or.inl ⟨by rfl, ?_⟩) ?_ ?_
            rotate_left
            · intro w'
              go_simp
              with_reducible rfl
            rotate_left
            · simp only [Act.put, List.setIfInBounds_toArray, List.set_cons_zero, List.set_cons_succ, i64_w, i32_w]
              rfl
            refine pure_ (i := 3) (N := some 15) (v := ?_) (a' := ?_) #[true, true, true, true, false, false, false, false] rfl rfl (any_of HT_.out (by kernel_rfl)) (fun _ _ _ h => h) (Or.inl ⟨by rfl, ?_⟩) ?_ ?_
            rotate_left
            · intro w'
              go_simp
              with_reducible rfl
            rotate_left
            · simp only [Act.put, List.setIfInBounds_toArray, List.set_cons_zero, List.set_cons_succ, i64_w, i32_w]
              rfl
            refine pure_ (i := 5) (N := some 17) (v := ?_) (a' := ?_) #[true, true, true, true, false, true, false, false] rfl rfl (any_of HT_.out (by kernel_rfl)) (fun _ _ _ h => h) (Or.inl ⟨by rfl, ?_⟩) ?_ ?_
            rotate_left
            · intro w'
              go_simp
              with_reducible rfl
            rotate_left
            · simp only [Act.put, List.setIfInBounds_toArray, List.set_cons_zero, List.set_cons_succ, i64_w, i32_w]
              rfl
            refine take_ (i := 4) (N := some 16) (v := ?_) (a' := ?_) #[true, true, true, true, true, true, false, false] rfl rfl (take_ofW HT_.out HW_.out (by kernel_rfl)) (fun _ _ _ h => h) (Or.inl ⟨by rfl, ?_⟩) hHeld ?_ ?_
            rotate_left
            · rintro w' ⟨s0, s1⟩
              go_simp
              with_reducible rfl
            rotate_left
            · simp only [Act.put, List.setIfInBounds_toArray, List.set_cons_zero, List.set_cons_succ, i64_w, i32_w]
              rfl
            refine one_ (i := 6) (N := some 18) #[true, true, true, true, true, true, true, false] rfl rfl (one_of HT_.out (by kernel_rfl)) (by decide) (fun K hK => ?_)
            refine goes_ Try.func69 (by kernel_rfl) rfl #[.int .i64 x1_1] (by rfl) rfl rfl (by (try simp only [List.map_toArray, List.map_cons, List.map_nil]); first | done | rfl | (simp only [List.length_drop, List.length_take]; rfl)) ?_
            with_reducible refine (laws_markText.calls k1 x1_1 t162 _ A5.out).mono ?_
            rintro e w18 ⟨rfl, hb⟩
            refine ⟨_, rfl, ?_⟩
            have n0_ := Aside0.mk (below_step (by repeat (first | (with_reducible first | exact HB.out | apply below_alloc | apply pw_below_drewN | apply below_drew1) | exact HB.out)) hb)
            clear HB
            have HB := n0_
            clear n0_
            (try clear hb)
            (try clear hb2)
            (try clear hk)
            (try clear hi)
            refine hK.out _ _ ⟨((HB.out.cell (World.block_lt_of_cell? w _ hw161_0)).trans hw161_0), ((HB.out.cell (World.block_lt_of_cell? w _ hw161_1)).trans hw161_1)⟩ (fun hHeld => ?_)
            clear hK K
            refine norm_ (a' := ?_) ?_ ?_
            rotate_left
            · show Act.put _ (some 18) _ = _
              simp only [Act.put, List.setIfInBounds_toArray, List.set_cons_zero, List.set_cons_succ, i64_w, i32_w]
              rfl
            refine pure_ (i := 7) (N := some 19) (v := ?_) (a' := ?_) #[true, true, true, true, true, true, true, true] rfl rfl (any_of HT_.out (by kernel_rfl)) (fun _ _ _ h => h) (Or.inl ⟨by rfl, ?_⟩) ?_ ?_
            rotate_left
            · intro w'
              go_simp
              with_reducible rfl
            rotate_left
            · simp only [Act.put, List.setIfInBounds_toArray, List.set_cons_zero, List.set_cons_succ, i64_w, i32_w]
              rfl
            refine done_ (done_of HT_.out (by kernel_rfl)) ?_
            try go_wp2
            go_ret
            exact ⟨by first | rfl | (simp [errW_none, errW_some] <;> rfl) | (simp [*, errW_none, errW_some] <;> rfl), by repeat (first | (with_reducible first | exact HB.out | apply below_alloc | apply pw_below_drewN | apply below_drew1) | exact HB.out)⟩
        · rw [if_neg c4] at H
          exact absurd H (by simp)
      · rw [if_neg c3] at H
        have c3b0 : decide (x5_1 < (l0.length : Int)) = false := decide_eq_false c3
        clear c3
        obtain rfl := Option.some.inj H
        go_wp2
        go_ret
        exact ⟨by first | rfl | (simp [errW_none, errW_some] <;> rfl) | (simp [*, errW_none, errW_some] <;> rfl), by repeat (first | (with_reducible first | exact HB.out | apply below_alloc | apply pw_below_drewN | apply below_drew1) | exact HB.out)⟩

end Go.Proofs.Ytppegigcclflbaa.PFnExactApplyCmd
