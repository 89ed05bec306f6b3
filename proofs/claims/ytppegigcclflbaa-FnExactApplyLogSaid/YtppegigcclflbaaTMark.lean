/- What laws.markEntryS writes: its own row alone. -/
import Derived.Test.YtppegigcclflbaaTLawE
set_option linter.unusedSimpArgs false
namespace Go.Proofs.Ytppegigcclflbaa.PFnExactApplyCmd
open Go.RowKit Go.Proofs.YtppegigcclflbaaW.PrintWords Go.Proofs.YtppegigcclflbaaW.PrintLast Go.Proofs.YtppegigcclflbaaW.PrintMore
open Go.Proofs.Ytppegigcclflbaa.PStr

/-- A row of n entries at block g, its cells whatever. -/
def Row (w : World) (base g n cap : Nat) : Prop := ∃ cells, w.ownsRow base 103 7 (.slice (some ⟨g, 0, none⟩) n cap) n cells
theorem Row.cell {w : World} {base g n cap : Nat} (h : Row w base g n cap) (i : Nat) (hi : i < n * 7) : ∃ u, w.cell? ⟨g, i, none⟩ = some u ∧ w.frozen? ⟨g, i, none⟩ = false := by
  obtain ⟨cells, h⟩ := h
  refine ⟨cells[i]'(by rw [h.1]; exact hi), ?_, h.frozenAt i⟩
  rw [h.cellAt i hi]
  exact List.getElem?_eq_getElem _
theorem Row.set {w : World} {base g n cap : Nat} (h : Row w base g n cap) (i : Nat) (u : Value) : Row (w.setCell ⟨g, i, none⟩ u) base g n cap := by
  obtain ⟨cells, h⟩ := h
  exact ⟨_, (h.stored i u).1⟩
theorem Row.below {w w1 : World} {base g n cap : Nat} (h : Row w base g n cap) (hb : Below w.heap.size w w1) : Row w1 base g n cap := by
  obtain ⟨cells, h⟩ := h
  exact ⟨_, h.kept (grown_of_below hb none) (.inr (by simp [Value.ownBlock]))⟩
theorem Row.base_le {w : World} {base g n cap : Nat} (h : Row w base g n cap) : base ≤ g := by
  obtain ⟨cells, h⟩ := h
  rcases h.2 with ⟨h', _⟩ | ⟨g', cap', cur, h', hb, _⟩
  · cases h'
  · simp only [Value.slice.injEq, Option.some.injEq, Addr.mk.injEq, and_true, true_and] at h'
    obtain ⟨rfl, rfl⟩ := h'
    exact hb
theorem ret_i {a b : Int} (h : a = b) : Ending.returned (.int .i64 a) = .returned (.int .i64 b) := by rw [h]
theorem kept_set {w w1 : World} {S : Nat → Prop} (h : Kept w w1 S) {g : Nat} (hg : S g) (i : Nat) (u : Value) : Kept w (w1.setCell ⟨g, i, none⟩ u) S :=
  Kept.then_ h (S2 := fun k => k = g) ⟨by simp, fun k _ hn => Below.heap_setCell w1 ⟨g, i, none⟩ u k hn⟩ (fun k hk => by rw [hk]; exact .inl hg)
theorem kept_below {w w1 w2 : World} {S : Nat → Prop} (h : Kept w w1 S) (hb : Below w1.heap.size w1 w2) : Kept w w2 S :=
  Kept.then_ h (Kept.of_below hb (fun _ => False)) (fun _ hk => hk.elim)

set_option maxHeartbeats 6400000 in
set_option maxRecDepth 100000 in
theorem markEntryS.calls (w0 w : World) (A : Option Addr) (c n : Nat) (ok : Nat → Prop) (L : List S103) (hn : L.length = n) (hR : Kd.R k103 103 w w0.heap.size ok (.slice A n c) L) (hB : Below w0.heap.size w0 w) (a1 : Int) (h0 : 0 ≤ a1) (hmax : a1 + 7 * (n : Int) < 4611686018427387000) :
    Calls Try.prog 20 #[.slice A n c, .int .i64 a1] w fun e w' => e = .returned (.int .i64 (a1 + 7 * (n : Int))) ∧ Below w0.heap.size w0 w' ∧ Kept w w' ok := by
  have HMAX := Aside0.mk hmax
  have HB0 := Aside0.mk hB
  have HR := Aside0.mk hR
  have HN := Aside0.mk hn
  clear hR hn hB hmax
  go_enter Try.func20, Try.ntmps20
  go_wp2_with fail
  go_loopg [1, 5] n (fun kq v1 v5 wr => ∃ (j : Nat) (m : Int), j + kq = n ∧ m = a1 + 7 * (j : Int) ∧ v1 = .int .i64 m ∧ v5 = .int .i64 j ∧ (∀ g, A = some ⟨g, 0, none⟩ → 0 < n → Row wr w0.heap.size g n c) ∧ Below w0.heap.size w0 wr ∧ Kept w wr ok)
  case atStart =>
    refine ⟨0, a1, by omega, by omega, rfl, rfl, fun g hg _ => ?_, HB0.out, Kept.refl _ _⟩
    obtain ⟨inner, hown⟩ := Kd.R_own HR.out
    rw [HN.out, hg] at hown
    exact ⟨inner, hown⟩
  case round =>
    obtain ⟨j, m, hjk, hm, rfl, rfl, hrow, hB, hK⟩ := hrel
    by_cases hlt : j < n
    · obtain ⟨g, rfl⟩ : ∃ g, A = some ⟨g, 0, none⟩ := by
        obtain ⟨g, cap, he, _⟩ := Kd.R_form HR.out (by rw [HN.out]; omega)
        injection he with he
        exact ⟨g, he⟩
      have hok : ok g := HR.out.1 g rfl
      have hRow := hrow g rfl (by omega)
      obtain ⟨u0, e0, f0⟩ := hRow.cell (j * 7) (by omega)
      obtain ⟨u1, e1, f1⟩ := hRow.cell (j * 7 + 1) (by omega)
      obtain ⟨u2, e2, f2⟩ := hRow.cell (j * 7 + 2) (by omega)
      obtain ⟨u3, e3, f3⟩ := hRow.cell (j * 7 + 3) (by omega)
      have hj0 : (0 : Int) ≤ (j : Int) := by omega
      have hj1 : (j : Int) < (n : Int) := by omega
      have hjb : (j : Int) ≤ 4611686018427387000 := by have := HMAX.out; omega
      have hm0 : 0 ≤ m := by omega
      have hm1 : m ≤ 4611686018427387000 := by have := HMAX.out; omega
      have HROW := Aside0.mk hRow
      have HB := Aside0.mk hB
      have HK := Aside0.mk hK
      have HOK := Aside0.mk hok
      have HJK := Aside0.mk hjk
      have HM := Aside0.mk hm
      clear hrow hRow hB hK hok hjk hm
      go_wp2_with fail
      refine (laws_markText.calls 64 _ _ _ (mt_f (by omega) (by omega))).mono ?_
      rintro e w5 ⟨rfl, hB5⟩
      have HROW5 := Aside0.mk (((((HROW.out.set _ _).set _ _).set _ _).set _ _).below hB5)
      have HB5 := Aside0.mk (below_then (below_set (below_set (below_set (below_set HB.out HROW.out.base_le) HROW.out.base_le) HROW.out.base_le) HROW.out.base_le) ((below_set (below_set (below_set (below_set HB.out HROW.out.base_le) HROW.out.base_le) HROW.out.base_le) HROW.out.base_le)).size hB5)
      have HK5 := Aside0.mk (kept_below (kept_set (kept_set (kept_set (kept_set HK.out HOK.out _ _) HOK.out _ _) HOK.out _ _) HOK.out _ _) hB5)
      clear hB5 HROW HB HK e0 e1 e2 e3 f0 f1 f2 f3
      have HROW := HROW5
      have HB := HB5
      have HK := HK5
      clear HROW5 HB5 HK5
      obtain ⟨u4, e4, f4⟩ := HROW.out.cell (j * 7 + 4) (by omega)
      go_wp2_with fail
      refine (laws_markText.calls 64 _ _ _ (mt_f (by omega) (by omega))).mono ?_
      rintro e w5 ⟨rfl, hB5⟩
      have HROW5 := Aside0.mk ((HROW.out.set _ _).below hB5)
      have HB5 := Aside0.mk (below_then (below_set HB.out HROW.out.base_le) ((below_set HB.out HROW.out.base_le)).size hB5)
      have HK5 := Aside0.mk (kept_below (kept_set HK.out HOK.out _ _) hB5)
      clear hB5 HROW HB HK e4 f4
      have HROW := HROW5
      have HB := HB5
      have HK := HK5
      clear HROW5 HB5 HK5
      obtain ⟨u4, e4, f4⟩ := HROW.out.cell (j * 7 + 5) (by omega)
      go_wp2_with fail
      refine (laws_markText.calls 64 _ _ _ (mt_f (by omega) (by omega))).mono ?_
      rintro e w5 ⟨rfl, hB5⟩
      have HROW5 := Aside0.mk ((HROW.out.set _ _).below hB5)
      have HB5 := Aside0.mk (below_then (below_set HB.out HROW.out.base_le) ((below_set HB.out HROW.out.base_le)).size hB5)
      have HK5 := Aside0.mk (kept_below (kept_set HK.out HOK.out _ _) hB5)
      clear hB5 HROW HB HK e4 f4
      have HROW := HROW5
      have HB := HB5
      have HK := HK5
      clear HROW5 HB5 HK5
      obtain ⟨u4, e4, f4⟩ := HROW.out.cell (j * 7 + 6) (by omega)
      go_wp2_with fail
      go_roundg (gk - 1)
      case measure => have := HJK.out; omega
      case rel =>
        refine ⟨j + 1, m + 1 + 1 + 1 + 1 + 1 + 1 + 1, by have := HJK.out; omega, by have := HM.out; omega, rfl, by go_num, fun g' hg' _ => ?_, below_set HB.out HROW.out.base_le, kept_set HK.out HOK.out _ _⟩
        injection hg' with hg'
        injection hg' with hg'
        rw [← hg']
        exact HROW.out.set _ _
    · have hj : j = n := by omega
      subst hj
      have hj1 : ¬ (j : Int) < (j : Int) := by omega
      have HB := Aside0.mk hB
      have HK := Aside0.mk hK
      have HM := Aside0.mk hm
      clear hrow hB hK hm hjk hlt
      go_wp2_with fail
      go_ret
      exact ⟨ret_i HM.out, HB.out, HK.out⟩
end Go.Proofs.Ytppegigcclflbaa.PFnExactApplyCmd
