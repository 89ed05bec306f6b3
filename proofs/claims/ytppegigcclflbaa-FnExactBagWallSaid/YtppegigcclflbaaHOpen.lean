/- An argument's reading opened: rows of whatever, structs. -/
import Derived.Test.YtppegigcclflbaaPFnExactBagWallx0
import Derived.Deep.Slices
import Derived.DataReads
namespace Go.Proofs.Ytppegigcclflbaa.PFnExactBagWall
open Go.RowKit Go.Proofs.YtppegigcclflbaaW.PrintWords Go.Proofs.YtppegigcclflbaaW.PrintLast Go.Proofs.YtppegigcclflbaaW.PrintMore

section
variable {H : Type} {enc : TypeId × Value → H} {P : Program} {w : World} {base : Nat} {spare : Nat → Bool} {held : Bool}
theorem open_row {α : Type} (d : Kd α) (z : α) {t e : TypeId} {fuel : Nat} {cs : List Value} {x : DataW H × List MemPlace} (ht : P.underlying t = some (.slice e)) (hsz : P.cellsOf e = d.sz)
    (hel : ∀ (n : Nat) (cs : List Value) (y : DataW H × List MemPlace), DataW.trod enc P w base spare held n e cs = some y → ∃ v, d.K w v cs) (h : DataW.trod enc P w base spare held fuel t cs = some x) :
    ∃ (A : Option Addr) (cap : Nat) (xs : List α), cs = [.slice A xs.length cap] ∧ xs.length ≤ cap ∧ d.C w A xs.length xs := by
  rcases Go.Deep.open_slice ht h with ⟨rfl, _⟩ | ⟨a, len, cap, m, n, D, Pl, rfl, hb, hl, hm, hmm, _, hel2⟩
  · exact ⟨none, 0, [], rfl, Nat.le_refl _, Kd.C_nil _ _⟩
  · have hlm : len ≤ m := by
      rw [hmm]
      split
      · exact hl
      · exact Nat.le_refl _
    haveI : Inhabited α := ⟨z⟩
    obtain ⟨f, hf⟩ := Go.Deep.choose_lt (n := len) (p := fun i v => ∃ cs', w.cells? base (a.add (i * P.cellsOf e)) (P.cellsOf e) = some cs' ∧ d.K w v cs') (fun i hi => by
      obtain ⟨cs', h1, h2⟩ := hel2 i (Nat.lt_of_lt_of_le hi hlm)
      obtain ⟨v, hv⟩ := hel _ _ _ h2
      exact ⟨v, cs', h1, hv⟩)
    refine ⟨some a, cap, (List.range len).map f, by simp, by simpa using hl, by simp, by simp; unfold maxLen at hm; omega, fun _ => ⟨a, rfl, fun j p hj => ?_⟩⟩
    have hjl : j < len := by
      have := (List.getElem?_eq_some_iff.1 hj).1
      simpa using this
    rw [List.getElem?_map, List.getElem?_range hjl] at hj
    injection hj with hj
    subst hj
    obtain ⟨cs', h1, h2⟩ := hf j hjl
    obtain ⟨_, h3, h4⟩ := World.cells?_some h1
    rw [hsz] at h3 h4
    refine ⟨cs', h3, h2, fun i u hu => ?_⟩
    have hi : i < d.sz := by rw [← h3]; exact (List.getElem?_eq_some_iff.1 hu).1
    have h5 := h4 i hi
    rw [add_add] at h5
    rw [h5]
    exact hu
theorem open_intK {t : TypeId} {k : IntKind} (ht : P.underlying t = some (.int k)) (n : Nat) (cs : List Value) (y : DataW H × List MemPlace) (h : DataW.trod enc P w base spare held n t cs = some y) : ∃ v, (Kd.int k).K w v cs := by
  obtain ⟨v, rfl, _⟩ := DataW.trod_int ht h
  exact ⟨v, rfl⟩
theorem open_fields {t : TypeId} {fs : Array Field} (ht : P.underlying t = some (.struct fs)) {n : Nat} {cs : List Value} {x : DataW H × List MemPlace} (h : DataW.trod enc P w base spare held n t cs = some x) :
    ∃ m, cs.length = P.cellsOf t ∧ ∀ (i : Nat) (f : Field) (u : TypeId) (o k : Nat), fs[i]? = some f → f.type = u → f.offset = o → P.cellsOf u = k → ∃ y, DataW.trod enc P w base spare held m u ((cs.drop o).take k) = some y := by
  obtain ⟨xs, m, _, _, hl, hx, hf⟩ := DataW.trod_struct ht h
  refine ⟨m, hl, fun i f u o k hi hu ho hk => ?_⟩
  subst hu; subst ho; subst hk
  have hil : i < fs.size := (Array.getElem?_eq_some_iff.1 hi).1
  exact ⟨xs[i]'(by omega), (hf i f hi).trans (List.getElem?_eq_getElem (by omega))⟩
end
section
variable {H : Type} {enc : TypeId × Value → H} {w : World} {base : Nat} {spare : Nat → Bool} {held : Bool}
theorem len4 {α : Type} {cs : List α} (h : cs.length = 4) : ∃ a b c d, cs = [a, b, c, d] := by
  match cs, h with
  | [a, b, c, d], _ => exact ⟨a, b, c, d, rfl⟩
theorem len3 {α : Type} {cs : List α} (h : cs.length = 3) : ∃ a b c, cs = [a, b, c] := by
  match cs, h with
  | [a, b, c], _ => exact ⟨a, b, c, rfl⟩
set_option maxRecDepth 100000 in
theorem open_138 (n : Nat) (cs : List Value) (y : DataW H × List MemPlace) (h : DataW.trod enc Try.prog w base spare held n 138 cs = some y) : ∃ v, k138.K w v cs := by
  obtain ⟨m, hl, hf⟩ := open_fields Try.underlying138 h
  rw [show Try.prog.cellsOf 138 = 4 by kernel_rfl] at hl
  obtain ⟨c0, c1, c2, c3, rfl⟩ := len4 hl
  obtain ⟨y0, h0⟩ := hf 0 _ 3 0 1 rfl rfl rfl (by kernel_rfl)
  obtain ⟨y1, h1⟩ := hf 1 _ 3 1 1 rfl rfl rfl (by kernel_rfl)
  obtain ⟨y2, h2⟩ := hf 2 _ 3 2 1 rfl rfl rfl (by kernel_rfl)
  obtain ⟨y3, h3⟩ := hf 3 _ 66 3 1 rfl rfl rfl (by kernel_rfl)
  clear hf h
  simp only [List.drop, List.take] at h0 h1 h2 h3
  obtain ⟨x0, e0, _⟩ := DataW.trod_int Try.underlying3 h0
  obtain ⟨x1, e1, _⟩ := DataW.trod_int Try.underlying3 h1
  obtain ⟨x2, e2, _⟩ := DataW.trod_int Try.underlying3 h2
  obtain ⟨A, cap, xs, e3, hlc, hC⟩ := open_row (Kd.int .u8) 0 Try.underlying66 (by kernel_rfl) (open_intK Try.underlying5) h3
  cases e0; cases e1; cases e2; cases e3
  exact ⟨⟨x0, x1, x2, xs⟩, k138_mk w ⟨x0, x1, x2, xs⟩ hlc hC⟩
set_option maxRecDepth 100000 in
/-- The Bag that a law is handed. -/
theorem open_Bag {v : Value} {d : DataW H} {ps : List MemPlace} (h : DataW.Trod enc Try.prog w base spare held 25 v d ps) :
    ∃ (a0 : Int) (A1 : Option Addr) (c1 : Nat) (l1 : List S138) (A2 : Option Addr) (c2 : Nat) (l2 : List Int), v = .agg #[.int .i64 a0, .slice A1 l1.length c1, .slice A2 l2.length c2] ∧ l1.length ≤ c1 ∧ k138.C w A1 l1.length l1 ∧ l2.length ≤ c2 ∧ (Kd.int .i64).C w A2 l2.length l2 := by
  obtain ⟨n, h⟩ := h
  obtain ⟨m, hl, hf⟩ := open_fields Try.underlying25 h
  rw [show Try.prog.cellsOf 25 = 3 by kernel_rfl] at hl
  obtain ⟨c0, c1, c2, hcs⟩ := len3 hl
  rw [hcs] at hf
  obtain ⟨y0, h0⟩ := hf 0 _ 3 0 1 rfl rfl rfl (by kernel_rfl)
  obtain ⟨y1, h1⟩ := hf 1 _ 22 1 1 rfl rfl rfl (by kernel_rfl)
  obtain ⟨y2, h2⟩ := hf 2 _ 23 2 1 rfl rfl rfl (by kernel_rfl)
  clear hf h
  simp only [List.drop, List.take] at h0 h1 h2
  obtain ⟨x0, e0, _⟩ := DataW.trod_int Try.underlying3 h0
  obtain ⟨A1, cap1, xs1, e1, hlc1, hC1⟩ := open_row k138 z138 Try.underlying22 (by kernel_rfl) open_138 h1
  obtain ⟨A2, cap2, xs2, e2, hlc2, hC2⟩ := open_row (Kd.int .i64) 0 Try.underlying23 (by kernel_rfl) (open_intK Try.underlying3) h2
  cases e0; cases e1; cases e2
  refine ⟨x0, A1, cap1, xs1, A2, cap2, xs2, ?_, hlc1, hC1, hlc2, hC2⟩
  cases v <;> simp [Value.cells] at hcs
  rename_i cs
  cases cs
  simp at hcs
  rw [hcs]
end
end Go.Proofs.Ytppegigcclflbaa.PFnExactBagWall
