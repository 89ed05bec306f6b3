/- What the law ApplyCmd is handed, opened: a table, a command. -/
import Derived.Test.YtppegigcclflbaaTLawC
import Derived.Deep.Slices
import Derived.DataReads
namespace Go.Proofs.Ytppegigcclflbaa.PFnExactApplyCmd
open Go.RowKit Go.Proofs.YtppegigcclflbaaW.PrintWords Go.Proofs.YtppegigcclflbaaW.PrintLast Go.Proofs.YtppegigcclflbaaW.PrintMore

section
variable {H : Type} {enc : TypeId × Value → H} {P : Program} {w : World} {base : Nat} {spare : Nat → Bool} {held : Bool}
theorem open_rowQ {α : Type} (d : Kd α) (z : α) (Q : α → Prop) {t e : TypeId} {fuel : Nat} {cs : List Value} {x : DataW H × List MemPlace} (ht : P.underlying t = some (.slice e)) (hsz : P.cellsOf e = d.sz)
    (hel : ∀ (n : Nat) (cs : List Value) (y : DataW H × List MemPlace), DataW.trod enc P w base spare held n e cs = some y → ∃ v, d.K w v cs ∧ Q v) (h : DataW.trod enc P w base spare held fuel t cs = some x) :
    ∃ (A : Option Addr) (cap : Nat) (xs : List α), cs = [.slice A xs.length cap] ∧ xs.length ≤ cap ∧ d.C w A xs.length xs ∧ ∀ v ∈ xs, Q v := by
  rcases Go.Deep.open_slice ht h with ⟨rfl, _⟩ | ⟨a, len, cap, m, n, D, Pl, rfl, hb, hl, hm, hmm, _, hel2⟩
  · exact ⟨none, 0, [], rfl, Nat.le_refl _, Kd.C_nil _ _, fun v hv => by cases hv⟩
  · have hlm : len ≤ m := by
      rw [hmm]
      split
      · exact hl
      · exact Nat.le_refl _
    haveI : Inhabited α := ⟨z⟩
    obtain ⟨f, hf⟩ := Go.Deep.choose_lt (n := len) (p := fun i v => ∃ cs', w.cells? base (a.add (i * P.cellsOf e)) (P.cellsOf e) = some cs' ∧ d.K w v cs' ∧ Q v) (fun i hi => by
      obtain ⟨cs', h1, h2⟩ := hel2 i (Nat.lt_of_lt_of_le hi hlm)
      obtain ⟨v, hv, hq⟩ := hel _ _ _ h2
      exact ⟨v, cs', h1, hv, hq⟩)
    refine ⟨some a, cap, (List.range len).map f, by simp, by simpa using hl, ⟨by simp, by simp; unfold maxLen at hm; omega, fun _ => ⟨a, rfl, fun j p hj => ?_⟩⟩, fun v hv => ?_⟩
    · have hjl : j < len := by
        have := (List.getElem?_eq_some_iff.1 hj).1
        simpa using this
      rw [List.getElem?_map, List.getElem?_range hjl] at hj
      injection hj with hj
      subst hj
      obtain ⟨cs', h1, h2, _⟩ := hf j hjl
      obtain ⟨_, h3, h4⟩ := World.cells?_some h1
      rw [hsz] at h3 h4
      refine ⟨cs', h3, h2, fun i u hu => ?_⟩
      have hi : i < d.sz := by rw [← h3]; exact (List.getElem?_eq_some_iff.1 hu).1
      have h5 := h4 i hi
      rw [add_add] at h5
      rw [h5]
      exact hu
    · obtain ⟨i, hi, rfl⟩ := List.mem_map.1 hv
      obtain ⟨_, _, _, hq⟩ := hf i (List.mem_range.1 hi)
      exact hq
theorem open_fieldsQ {t : TypeId} {fs : Array Field} (ht : P.underlying t = some (.struct fs)) {n : Nat} {cs : List Value} {x : DataW H × List MemPlace} (h : DataW.trod enc P w base spare held n t cs = some x) :
    ∃ m, cs.length = P.cellsOf t ∧ ∀ (i : Nat) (f : Field) (u : TypeId) (o k : Nat), fs[i]? = some f → f.type = u → f.offset = o → P.cellsOf u = k → ∃ y, DataW.trod enc P w base spare held m u ((cs.drop o).take k) = some y := by
  obtain ⟨xs, m, _, _, hl, hx, hf⟩ := DataW.trod_struct ht h
  refine ⟨m, hl, fun i f u o k hi hu ho hk => ?_⟩
  subst hu; subst ho; subst hk
  have hil : i < fs.size := (Array.getElem?_eq_some_iff.1 hi).1
  exact ⟨xs[i]'(by omega), (hf i f hi).trans (List.getElem?_eq_getElem (by omega))⟩
end
section
variable {H : Type} {enc : TypeId × Value → H} {w : World} {base : Nat} {spare : Nat → Bool} {held : Bool}
theorem len6 {α : Type} {cs : List α} (h : cs.length = 6) : ∃ a b c d e f, cs = [a, b, c, d, e, f] := by
  match cs, h with
  | [a, b, c, d, e, f], _ => exact ⟨a, b, c, d, e, f, rfl⟩
set_option maxRecDepth 100000 in
theorem open_54 (n : Nat) (cs : List Value) (y : DataW H × List MemPlace) (h : DataW.trod enc Try.prog w base spare held n 54 cs = some y) :
    ∃ (i0 i1 i2 : Int) (s3 s4 s5 : ByteArray), cs = [.int .i64 i0, .int .i64 i1, .int .i64 i2, .string s3, .string s4, .string s5] ∧ s3.size ≤ 9223372036854775807 ∧ s4.size ≤ 9223372036854775807 ∧ s5.size ≤ 9223372036854775807 := by
  obtain ⟨m, hl, hf⟩ := open_fieldsQ Try.underlying54 h
  rw [show Try.prog.cellsOf 54 = 6 by kernel_rfl] at hl
  obtain ⟨c0, c1, c2, c3, c4, c5, rfl⟩ := len6 hl
  obtain ⟨y0, h0⟩ := hf 0 _ 3 0 1 rfl rfl rfl (by kernel_rfl)
  obtain ⟨y1, h1⟩ := hf 1 _ 3 1 1 rfl rfl rfl (by kernel_rfl)
  obtain ⟨y2, h2⟩ := hf 2 _ 3 2 1 rfl rfl rfl (by kernel_rfl)
  obtain ⟨y3, h3⟩ := hf 3 _ 9 3 1 rfl rfl rfl (by kernel_rfl)
  obtain ⟨y4, h4⟩ := hf 4 _ 9 4 1 rfl rfl rfl (by kernel_rfl)
  obtain ⟨y5, h5⟩ := hf 5 _ 9 5 1 rfl rfl rfl (by kernel_rfl)
  clear hf h
  simp only [List.drop, List.take] at h0 h1 h2 h3 h4 h5
  obtain ⟨x0, e0, _⟩ := DataW.trod_int Try.underlying3 h0
  obtain ⟨x1, e1, _⟩ := DataW.trod_int Try.underlying3 h1
  obtain ⟨x2, e2, _⟩ := DataW.trod_int Try.underlying3 h2
  obtain ⟨s3, e3, _, z3⟩ := DataW.trod_string Try.underlying9 h3
  obtain ⟨s4, e4, _, z4⟩ := DataW.trod_string Try.underlying9 h4
  obtain ⟨s5, e5, _, z5⟩ := DataW.trod_string Try.underlying9 h5
  cases e0; cases e1; cases e2; cases e3; cases e4; cases e5
  unfold maxLen at z3 z4 z5
  exact ⟨x0, x1, x2, s3, s4, s5, rfl, z3, z4, z5⟩
end
section
variable {H : Type} {enc : TypeId × Value → H} {w : World} {base : Nat} {spare : Nat → Bool} {held : Bool}
theorem len2 {α : Type} {cs : List α} (h : cs.length = 2) : ∃ a b, cs = [a, b] := by
  match cs, h with
  | [a, b], _ => exact ⟨a, b, rfl⟩
theorem len4' {α : Type} {cs : List α} (h : cs.length = 4) : ∃ a b c d, cs = [a, b, c, d] := by
  match cs, h with
  | [a, b, c, d], _ => exact ⟨a, b, c, d, rfl⟩
set_option maxRecDepth 100000 in
theorem open_170 (n : Nat) (cs : List Value) (y : DataW H × List MemPlace) (h : DataW.trod enc Try.prog w base spare held n 170 cs = some y) : ∃ v, k170.K w v cs ∧ (Max v.f0 ∧ Max v.f1) := by
  obtain ⟨m, hl, hf⟩ := open_fieldsQ Try.underlying170 h
  rw [show Try.prog.cellsOf 170 = 2 by kernel_rfl] at hl
  obtain ⟨c0, c1, rfl⟩ := len2 hl
  obtain ⟨y0, h0⟩ := hf 0 _ 9 0 1 rfl rfl rfl (by kernel_rfl)
  obtain ⟨y1, h1⟩ := hf 1 _ 9 1 1 rfl rfl rfl (by kernel_rfl)
  clear hf h
  simp only [List.drop, List.take] at h0 h1
  obtain ⟨s0, e0, _, z0⟩ := DataW.trod_string Try.underlying9 h0
  obtain ⟨s1, e1, _, z1⟩ := DataW.trod_string Try.underlying9 h1
  cases e0; cases e1
  unfold maxLen at z0 z1
  exact ⟨⟨s0, s1⟩, k170_mk w ⟨s0, s1⟩, z0, z1⟩
set_option maxRecDepth 100000 in
theorem open_172 (n : Nat) (cs : List Value) (y : DataW H × List MemPlace) (h : DataW.trod enc Try.prog w base spare held n 172 cs = some y) : ∃ v, k172.K w v cs ∧ Max v.f3 := by
  obtain ⟨m, hl, hf⟩ := open_fieldsQ Try.underlying172 h
  rw [show Try.prog.cellsOf 172 = 4 by kernel_rfl] at hl
  obtain ⟨c0, c1, c2, c3, rfl⟩ := len4' hl
  obtain ⟨y0, h0⟩ := hf 0 _ 3 0 1 rfl rfl rfl (by kernel_rfl)
  obtain ⟨y1, h1⟩ := hf 1 _ 3 1 1 rfl rfl rfl (by kernel_rfl)
  obtain ⟨y2, h2⟩ := hf 2 _ 3 2 1 rfl rfl rfl (by kernel_rfl)
  obtain ⟨y3, h3⟩ := hf 3 _ 9 3 1 rfl rfl rfl (by kernel_rfl)
  clear hf h
  simp only [List.drop, List.take] at h0 h1 h2 h3
  obtain ⟨x0, e0, _⟩ := DataW.trod_int Try.underlying3 h0
  obtain ⟨x1, e1, _⟩ := DataW.trod_int Try.underlying3 h1
  obtain ⟨x2, e2, _⟩ := DataW.trod_int Try.underlying3 h2
  obtain ⟨s3, e3, _, z3⟩ := DataW.trod_string Try.underlying9 h3
  cases e0; cases e1; cases e2; cases e3
  unfold maxLen at z3
  exact ⟨⟨x0, x1, x2, s3⟩, k172_mk w ⟨x0, x1, x2, s3⟩, z3⟩
set_option maxRecDepth 100000 in
/-- The table that the law is handed. -/
theorem open_Table {v : Value} {d : DataW H} {ps : List MemPlace} (h : DataW.Trod enc Try.prog w base spare held 52 v d ps) :
    ∃ (A1 : Option Addr) (c1 : Nat) (l1 : List S170) (A2 : Option Addr) (c2 : Nat) (l2 : List S172), v = .agg #[.slice A1 l1.length c1, .slice A2 l2.length c2] ∧ l1.length ≤ c1 ∧ k170.C w A1 l1.length l1 ∧ l2.length ≤ c2 ∧ k172.C w A2 l2.length l2 ∧ (∀ e ∈ l1, Max e.f0 ∧ Max e.f1) ∧ (∀ e ∈ l2, Max e.f3) := by
  obtain ⟨n, h⟩ := h
  obtain ⟨m, hl, hf⟩ := open_fieldsQ Try.underlying52 h
  rw [show Try.prog.cellsOf 52 = 2 by kernel_rfl] at hl
  obtain ⟨c0, c1, hcs⟩ := len2 hl
  rw [hcs] at hf
  obtain ⟨y0, h0⟩ := hf 0 _ 49 0 1 rfl rfl rfl (by kernel_rfl)
  obtain ⟨y1, h1⟩ := hf 1 _ 50 1 1 rfl rfl rfl (by kernel_rfl)
  clear hf h
  simp only [List.drop, List.take] at h0 h1
  obtain ⟨A1, cap1, xs1, e1, hlc1, hC1, hQ1⟩ := open_rowQ k170 z170 (fun v => Max v.f0 ∧ Max v.f1) Try.underlying49 (by kernel_rfl) open_170 h0
  obtain ⟨A2, cap2, xs2, e2, hlc2, hC2, hQ2⟩ := open_rowQ k172 z172 (fun v => Max v.f3) Try.underlying50 (by kernel_rfl) open_172 h1
  cases e1; cases e2
  refine ⟨A1, cap1, xs1, A2, cap2, xs2, ?_, hlc1, hC1, hlc2, hC2, hQ1, hQ2⟩
  cases v <;> simp [Value.cells] at hcs
  rename_i cs
  cases cs
  simp at hcs
  rw [hcs]
/-- The command that the law is handed. -/
theorem open_Cmd {v : Value} {d : DataW H} {ps : List MemPlace} (h : DataW.Trod enc Try.prog w base spare held 54 v d ps) :
    ∃ (i0 i1 i2 : Int) (s3 s4 s5 : ByteArray), v = .agg #[.int .i64 i0, .int .i64 i1, .int .i64 i2, .string s3, .string s4, .string s5] ∧ Max s3 ∧ Max s4 ∧ Max s5 := by
  obtain ⟨n, h⟩ := h
  obtain ⟨i0, i1, i2, s3, s4, s5, hcs, z3, z4, z5⟩ := open_54 _ _ _ h
  refine ⟨i0, i1, i2, s3, s4, s5, ?_, z3, z4, z5⟩
  cases v <;> simp [Value.cells] at hcs
  rename_i cs
  cases cs
  simp at hcs
  rw [hcs]
end
end Go.Proofs.Ytppegigcclflbaa.PFnExactApplyCmd
