/- The law's contracts in one form: a Bag held in memory. -/
import Derived.Test.YtppegigcclflbaaHMark
import Derived.Test.YtppegigcclflbaaHPureC
namespace Go.Proofs.Ytppegigcclflbaa.PFnExactBagWall
open Go.RowKit Go.Proofs.YtppegigcclflbaaW.PrintWords Go.Proofs.YtppegigcclflbaaW.PrintLast Go.Proofs.YtppegigcclflbaaW.PrintMore

/-- A Bag's two rows, held. -/
structure Held (W : World) (base : Nat) (ok : Nat → Prop) (A1 : Option Addr) (c1 : Nat) (l1 : List S73) (A2 : Option Addr) (c2 : Nat) (l2 : List Int) : Prop where
  s : Kd.S k73 73 W base ok (.slice A1 l1.length c1) l1
  r : Kd.R (Kd.int .i64) 3 W base ok (.slice A2 l2.length c2) l2
section
variable {W W' : World} {base : Nat} {ok ok' : Nat → Prop} {A1 A2 : Option Addr} {c1 c2 : Nat} {l1 : List S73} {l2 : List Int}
theorem Held.below (h : Held W base ok A1 c1 l1 A2 c2 l2) (hb : Below W.heap.size W W') : Held W' base ok A1 c1 l1 A2 c2 l2 := ⟨Kd.S_below h.s hb, Kd.R_below h.r hb⟩
theorem Held.mono (h : Held W base ok A1 c1 l1 A2 c2 l2) (hk : ∀ k, ok k → ok' k) : Held W base ok' A1 c1 l1 A2 c2 l2 := ⟨Kd.S_mono h.s hk, Kd.R_mono h.r hk⟩
theorem Held.bound (h : Held W base ok A1 c1 l1 A2 c2 l2) : Held W base (fun k => base ≤ k ∧ k < W.heap.size) A1 c1 l1 A2 c2 l2 :=
  ⟨Kd.S_mono (Kd.S_bound h.s) (fun _ hk => ⟨hk.2.1, hk.2.2.1⟩), Kd.R_mono (Kd.R_bound h.r) (fun _ hk => ⟨hk.2.1, hk.2.2.1⟩)⟩
theorem Held.lower {b : Nat} (h : Held W base ok A1 c1 l1 A2 c2 l2) (hb : b ≤ base) : Held W b ok A1 c1 l1 A2 c2 l2 := ⟨Kd.S_lower h.s hb, Kd.R_lower h.r hb⟩
theorem Held.kept {S : Nat → Prop} (h : Held W base ok A1 c1 l1 A2 c2 l2) (hk : Kept W W' S) (hn : ∀ k, ok k → ¬ S k) : Held W' base ok A1 c1 l1 A2 c2 l2 :=
  ⟨Kd.S_step h.s (fun k ho hl => hk.2 k hl (hn k ho)), Kd.R_step h.r (fun k ho hl => hk.2 k hl (hn k ho))⟩
/-- What lies below another's base: it isn't touched. -/
theorem Held.elder {b : Nat} {W0 : World} (h : Held W base ok A1 c1 l1 A2 c2 l2) (h1 : Below b W0 W) (h2 : Below b W0 W') (hn : ∀ k, ok k → k < b) : Held W' base ok A1 c1 l1 A2 c2 l2 :=
  ⟨Kd.S_step h.s (fun k ho _ => (h2.block k (hn k ho)).trans (h1.block k (hn k ho)).symm), Kd.R_step h.r (fun k ho _ => (h2.block k (hn k ho)).trans (h1.block k (hn k ho)).symm)⟩
theorem Held.cs (h : Held W base ok A1 c1 l1 A2 c2 l2) : k73.C W A1 l1.length l1 := (Kd.S_reads' h.s).2.2
theorem Held.cr (h : Held W base ok A1 c1 l1 A2 c2 l2) : (Kd.int .i64).C W A2 l2.length l2 := (Kd.R_reads' h.r).2.2
theorem Held.ls (h : Held W base ok A1 c1 l1 A2 c2 l2) : l1.length ≤ c1 := (Kd.S_reads' h.s).2.1
theorem Held.lr (h : Held W base ok A1 c1 l1 A2 c2 l2) : l2.length ≤ c2 := (Kd.R_reads' h.r).2.1
end

theorem cells3 {w : World} {b t : Nat} {u0 u1 u2 : Value} (h : w.heap[b]? = some (.cells #[u0, u1, u2] t (0, 0))) : w.cell? ⟨b, 0, none⟩ = some u0 ∧ w.cell? ⟨b, 1, none⟩ = some u1 ∧ w.cell? ⟨b, 2, none⟩ = some u2 :=
  ⟨(blk_cell h 0).trans rfl, (blk_cell h 1).trans rfl, (blk_cell h 2).trans rfl⟩

/-- What BagWall answers. -/
def bwF (a0 : Int) (l1 : List S73) (l2 : List Int) (id up : Int) : Int × List S73 × List Int :=
  if bagOkB a0 l1 l2 = true then (a0, l1, if 1 ≤ id ∧ id ≤ 7 then wallsOf l2 id up else l2) else (0, [], [])

/-- How large the law's Bags are. -/
structure Sized (l1 : List S73) (l2 : List Int) : Prop where
  t : tot l1 ≤ 4194304
  n : l2.length ≤ 1048576
theorem Sized.l {l1 : List S73} {l2 : List Int} (h : Sized l1 l2) : l1.length ≤ 4194304 := Nat.le_trans (len_tot l1) h.t
theorem Sized.f {l1 : List S73} {l2 : List Int} (h : Sized l1 l2) : ∀ p ∈ l1, p.f3.length < 4194305 := fun p hp => by have := tot_mem hp; have := h.t; omega
theorem wallsOf_len (l : List Int) (id up : Int) : (wallsOf l id up).length ≤ 7 := by
  unfold wallsOf
  exact Nat.le_trans (List.length_filter_le _ _) (by decide)
theorem Sized.bw {l1 : List S73} {l2 : List Int} {a0 id up : Int} (h : Sized l1 l2) : Sized (bwF a0 l1 l2 id up).2.1 (bwF a0 l1 l2 id up).2.2 := by
  unfold bwF
  split
  · refine ⟨h.t, ?_⟩
    split
    · exact Nat.le_trans (wallsOf_len _ _ _) (by decide)
    · exact h.n
  · exact ⟨by decide, by decide⟩

theorem Held.eq {W : World} {b b' : Nat} {ok ok' : Nat → Prop} {A1 A2 B1 B2 : Option Addr} {c1 c2 d1 d2 : Nat} {l1 : List S73} {l2 : List Int} (a0 : Int) (h : Held W b ok A1 c1 l1 A2 c2 l2) (h' : Held W b' ok' B1 d1 l1 B2 d2 l2) (hs : Sized l1 l2) :
    Calls Try.prog 11 #[.agg #[.int .i64 a0, .slice A1 l1.length c1, .slice A2 l2.length c2], .agg #[.int .i64 a0, .slice B1 l1.length d1, .slice B2 l2.length d2]] W fun e w' => e = .returned (.bool true) ∧ Below W.heap.size W w' :=
  laws_eqBag.calls 16777216 a0 A1 c1 l1 A2 c2 l2 a0 B1 d1 l1 B2 d2 l2 true W h.cs h.ls h.cr h.lr h'.cs h'.ls h'.cr h'.lr (eqBag_f (b := 4194305) (by have := hs.l; omega) hs.f (by have := hs.n; omega) (by omega))
theorem Held.spec {W : World} {b : Nat} {ok : Nat → Prop} {A1 A2 : Option Addr} {c1 c2 : Nat} {l1 : List S73} {l2 : List Int} (a0 id up : Int) (h : Held W b ok A1 c1 l1 A2 c2 l2) (hs : Sized l1 l2) :
    Calls Try.prog 8 #[.agg #[.int .i64 a0, .slice A1 l1.length c1, .slice A2 l2.length c2], .int .i64 id, .int .i64 up] W fun e w' => ∃ B1 d1 B2 d2, e = .returned (.agg #[.int .i64 (bwF a0 l1 l2 id up).1, .slice B1 (bwF a0 l1 l2 id up).2.1.length d1, .slice B2 (bwF a0 l1 l2 id up).2.2.length d2]) ∧ Held w' W.heap.size (fun _ => True) B1 d1 (bwF a0 l1 l2 id up).2.1 B2 d2 (bwF a0 l1 l2 id up).2.2 ∧ Below W.heap.size W w' := by
  refine (spec_BagWall.calls 16777216 a0 A1 c1 l1 A2 c2 l2 id up (bwF a0 l1 l2 id up).1 (bwF a0 l1 l2 id up).2.1 (bwF a0 l1 l2 id up).2.2 W h.cs h.ls h.cr h.lr (spec_BagWall_f (by have := hs.l; have := hs.n; omega) (by omega))).mono ?_
  rintro e w' ⟨v1, v2, rfl, hS, hR, hB⟩
  obtain ⟨B1, d1, rfl⟩ := Kd.S_slice hS
  obtain ⟨B2, d2, rfl⟩ := Kd.R_slice hR
  exact ⟨B1, d1, B2, d2, rfl, ⟨hS, hR⟩, hB⟩
theorem Held.impl {W : World} {b : Nat} {ok : Nat → Prop} {A1 A2 : Option Addr} {c1 c2 : Nat} {l1 : List S73} {l2 : List Int} (a0 id up : Int) (h : Held W b ok A1 c1 l1 A2 c2 l2) (hs : Sized l1 l2) :
    Calls Try.prog 10 #[.agg #[.int .i64 a0, .slice A1 l1.length c1, .slice A2 l2.length c2], .int .i64 id, .int .i64 up] W fun e w' => ∃ B1 d1 B2 d2, e = .returned (.agg #[.int .i64 (bwF a0 l1 l2 id up).1, .slice B1 (bwF a0 l1 l2 id up).2.1.length d1, .slice B2 (bwF a0 l1 l2 id up).2.2.length d2]) ∧ Held w' W.heap.size (fun _ => True) B1 d1 (bwF a0 l1 l2 id up).2.1 B2 d2 (bwF a0 l1 l2 id up).2.2 ∧ Below W.heap.size W w' := by
  have hw := wellFormed_f (k := 16777216) (a0 := a0) (l1 := l1) (l2 := l2) (by have := hs.l; have := hs.n; omega) (by omega)
  by_cases hb : bagOkB a0 l1 l2 = true
  · have he : bwF a0 l1 l2 id up = (a0, l1, if 1 ≤ id ∧ id ≤ 7 then wallsOf l2 id up else l2) := by unfold bwF; rw [if_pos hb]
    rw [he]
    have hw2 := (wlsOk_small 0 l2 (by omega) (by unfold bagOkB at hb; simp only [Bool.and_eq_true] at hb; exact hb.2.2.2))
    have hl := hs.l
    refine (bagWall.yes 16777216 a0 A1 c1 l1 A2 c2 l2 id up W h.cs h.ls h.cr h.lr (by rw [hw, hb]) (by omega) (fun p hp => by have := hs.f p hp; omega) (by have := hw2.2 (by omega); omega) (fun x hx => by have := hw2.1 x hx; omega) (within_f id 1 7)).mono ?_
    rintro e w' ⟨v1, v2, rfl, hS, hR, hB⟩
    obtain ⟨B1, d1, rfl⟩ := Kd.S_slice hS
    obtain ⟨B2, d2, rfl⟩ := Kd.R_slice hR
    exact ⟨B1, d1, B2, d2, rfl, ⟨hS, hR⟩, hB⟩
  · have he : bwF a0 l1 l2 id up = (0, [], []) := by unfold bwF; rw [if_neg hb]
    rw [he]
    refine (bagWall.no 16777216 a0 A1 c1 l1 A2 c2 l2 id up W h.cs h.ls h.cr h.lr (by rw [hw, Bool.not_eq_true _ |>.mp hb])).mono ?_
    rintro e w' ⟨rfl, hB⟩
    exact ⟨none, 0, none, 0, rfl, ⟨Kd.S_nil _ _ _ _ _, Kd.R_nil _ _ _ _ _⟩, hB⟩
theorem Held.mark {W W0 : World} {ok : Nat → Prop} {A1 A2 : Option Addr} {c1 c2 : Nat} {l1 : List S73} {l2 : List Int} (a0 : Int) (hB : Below W0.heap.size W0 W) (h : Held W W0.heap.size ok A1 c1 l1 A2 c2 l2) (hs : Sized l1 l2) :
    Calls Try.prog 12 #[.agg #[.int .i64 a0, .slice A1 l1.length c1, .slice A2 l2.length c2], .int .i64 1] W fun e w' => e = .returned (.int .i64 (1 + tot l1 + l2.length)) ∧ Held w' W0.heap.size (fun k => ok k ∨ W.heap.size ≤ k) A1 c1 (markP 1 l1) A2 c2 (markI (1 + tot l1) l2) ∧ Below W0.heap.size W0 w' ∧ Kept W w' ok := by
  refine (markBag.calls ok a0 _ _ l1 l2 1 W0 W hB h.s h.r (by decide) (by have := hs.t; have := hs.n; omega)).mono ?_
  rintro e w' ⟨rfl, hS, hR, hB', hK⟩
  exact ⟨rfl, ⟨by rw [markP_len]; exact hS, by rw [markI_len]; exact hR⟩, hB', hK⟩
theorem Held.held {W : World} {b : Nat} {ok : Nat → Prop} {A1 A2 : Option Addr} {c1 c2 : Nat} {l1 : List S73} {l2 : List Int} (a0 : Int) (h : Held W b ok A1 c1 (markP 1 l1) A2 c2 (markI (1 + tot l1) l2)) (hs : Sized l1 l2) :
    Calls Try.prog 13 #[.agg #[.int .i64 a0, .slice A1 l1.length c1, .slice A2 l2.length c2], .int .i64 1] W fun e w' => e = .returned (.int .i64 (1 + tot l1 + l2.length)) ∧ Below W.heap.size W w' := by
  have hc := laws_heldBag.calls 16777216 a0 A1 c1 (markP 1 l1) A2 c2 (markI (1 + tot l1) l2) 1 _ W h.cs h.ls h.cr h.lr (heldBag_f (by have := hs.t; omega) (by have := hs.n; omega) (by decide) (by have := hs.t; have := hs.n; omega))
  rw [markP_len, markI_len] at hc
  exact hc
theorem toBag.held (a0 : Int) (A1 : Option Addr) (c1 : Nat) (l1 : List S138) (A2 : Option Addr) (c2 : Nat) (l2 : List Int) (w : World) (hr1 : Kd.C k138 w A1 l1.length l1) (hc1 : l1.length ≤ c1) (hr2 : Kd.C (Kd.int .i64) w A2 l2.length l2) (hc2 : l2.length ≤ c2) (hs : l1.length + bytesIn l1 + l2.length ≤ 1048576) :
    Calls Try.prog 9 #[.agg #[.int .i64 a0, .slice A1 l1.length c1, .slice A2 l2.length c2]] w fun e w' => ∃ B1 d1 B2 d2, e = .returned (.agg #[.int .i64 a0, .slice B1 (l1.map cvP).length d1, .slice B2 l2.length d2]) ∧ Held w' w.heap.size (fun _ => True) B1 d1 (l1.map cvP) B2 d2 l2 ∧ Below w.heap.size w w' := by
  refine (toBag.calls 16777216 a0 A1 c1 l1 A2 c2 l2 w hr1 hc1 hr2 hc2 (by omega) (fun p hp => toPacket_f (by have := bytesIn_mem hp; omega) (by have := bytesIn_mem hp; omega)) (toIntS_f (by omega) (by omega))).mono ?_
  rintro e w' ⟨v1, v2, rfl, hS, hR, hB⟩
  obtain ⟨B1, d1, rfl⟩ := Kd.S_slice hS
  obtain ⟨B2, d2, rfl⟩ := Kd.R_slice hR
  exact ⟨B1, d1, B2, d2, rfl, ⟨hS, hR⟩, hB⟩
theorem tot_cvP : ∀ (l : List S138), tot (l.map cvP) = 3 * l.length + bytesIn l
  | [] => rfl
  | p :: ps => by
    rw [List.map_cons]
    unfold tot bytesIn
    rw [tot_cvP ps, List.length_cons]
    show 3 + p.f3.length + _ = _
    omega
theorem sized_cvP {l1 : List S138} {l2 : List Int} (hs : l1.length + bytesIn l1 + l2.length ≤ 1048576) : Sized (l1.map cvP) l2 := ⟨by rw [tot_cvP]; omega, by omega⟩
end Go.Proofs.Ytppegigcclflbaa.PFnExactBagWall
