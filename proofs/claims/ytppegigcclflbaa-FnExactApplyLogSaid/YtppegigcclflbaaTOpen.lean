/- What a law is handed, opened: a row of log entries. -/
import Derived.Test.YtppegigcclflbaaTLawE
import Derived.Deep.Slices
import Derived.DataReads
namespace Go.Proofs.Ytppegigcclflbaa.PFnExactApplyCmd
open Go.RowKit Go.Proofs.YtppegigcclflbaaW.PrintWords Go.Proofs.YtppegigcclflbaaW.PrintLast Go.Proofs.YtppegigcclflbaaW.PrintMore

section
variable {H : Type} {enc : TypeId × Value → H} {P : Program} {w : World} {base : Nat} {spare : Nat → Bool} {held : Bool}
theorem open_rowQ {α : Type} (d : Kd α) (z : α) (Q : α → Prop) {t e : TypeId} {fuel : Nat} {cs : List Value} {x : DataW H × List MemPlace} (ht : P.underlying t = some (.slice e)) (hsz : P.cellsOf e = d.sz)
    (hel : ∀ (n : Nat) (cs : List Value) (y : DataW H × List MemPlace), DataW.trod enc P w base spare held n e cs = some y → ∃ v, d.K w v cs ∧ Q v) (h : DataW.trod enc P w base spare held fuel t cs = some x) :
    ∃ (A : Option Addr) (cap : Nat) (xs : List α), cs = [.slice A xs.length cap] ∧ xs.length ≤ cap ∧ d.C w A xs.length xs ∧ ∀ v ∈ xs, Q v := by
  rcases Go.Deep.open_slice ht h with ⟨rfl, _⟩ | ⟨a, len, cap, m, n, D, Pl, rfl, hb, hl, hm, hmm, _, hel2⟩
  · exact ⟨none, 0, [], rfl, Nat.le_refl _, Kd.C_nil _ _, fun v hv => by cases hv⟩
  · have hlm : len ≤ m := by
      rw [hmm]
      split
      · exact hl
      · exact Nat.le_refl _
    haveI : Inhabited α := ⟨z⟩
    obtain ⟨f, hf⟩ := Go.Deep.choose_lt (n := len) (p := fun i v => ∃ cs', w.cells? base (a.add (i * P.cellsOf e)) (P.cellsOf e) = some cs' ∧ d.K w v cs' ∧ Q v) (fun i hi => by
      obtain ⟨cs', h1, h2⟩ := hel2 i (Nat.lt_of_lt_of_le hi hlm)
      obtain ⟨v, hv, hq⟩ := hel _ _ _ h2
      exact ⟨v, cs', h1, hv, hq⟩)
    refine ⟨some a, cap, (List.range len).map f, by simp, by simpa using hl, ⟨by simp, by simp; unfold maxLen at hm; omega, fun _ => ⟨a, rfl, fun j p hj => ?_⟩⟩, fun v hv => ?_⟩
    · have hjl : j < len := by
        have := (List.getElem?_eq_some_iff.1 hj).1
        simpa using this
      rw [List.getElem?_map, List.getElem?_range hjl] at hj
      injection hj with hj
      subst hj
      obtain ⟨cs', h1, h2, _⟩ := hf j hjl
      obtain ⟨_, h3, h4⟩ := World.cells?_some h1
      rw [hsz] at h3 h4
      refine ⟨cs', h3, h2, fun i u hu => ?_⟩
      have hi : i < d.sz := by rw [← h3]; exact (List.getElem?_eq_some_iff.1 hu).1
      have h5 := h4 i hi
      rw [add_add] at h5
      rw [h5]
      exact hu
    · obtain ⟨i, hi, rfl⟩ := List.mem_map.1 hv
      obtain ⟨_, _, _, hq⟩ := hf i (List.mem_range.1 hi)
      exact hq
theorem open_fieldsQ {t : TypeId} {fs : Array Field} (ht : P.underlying t = some (.struct fs)) {n : Nat} {cs : List Value} {x : DataW H × List MemPlace} (h : DataW.trod enc P w base spare held n t cs = some x) :
    ∃ m, cs.length = P.cellsOf t ∧ ∀ (i : Nat) (f : Field) (u : TypeId) (o k : Nat), fs[i]? = some f → f.type = u → f.offset = o → P.cellsOf u = k → ∃ y, DataW.trod enc P w base spare held m u ((cs.drop o).take k) = some y := by
  obtain ⟨xs, m, _, _, hl, hx, hf⟩ := DataW.trod_struct ht h
  refine ⟨m, hl, fun i f u o k hi hu ho hk => ?_⟩
  subst hu; subst ho; subst hk
  have hil : i < fs.size := (Array.getElem?_eq_some_iff.1 hi).1
  exact ⟨xs[i]'(by omega), (hf i f hi).trans (List.getElem?_eq_getElem (by omega))⟩
end
section
variable {H : Type} {enc : TypeId × Value → H} {w : World} {base : Nat} {spare : Nat → Bool} {held : Bool}
theorem len6 {α : Type} {cs : List α} (h : cs.length = 6) : ∃ a b c d e f, cs = [a, b, c, d, e, f] := by
  match cs, h with
  | [a, b, c, d, e, f], _ => exact ⟨a, b, c, d, e, f, rfl⟩
theorem len7 {α : Type} {cs : List α} (h : cs.length = 7) : ∃ a b c d e f g, cs = [a, b, c, d, e, f, g] := by
  match cs, h with
  | [a, b, c, d, e, f, g], _ => exact ⟨a, b, c, d, e, f, g, rfl⟩
set_option maxRecDepth 100000 in
theorem open_54 (n : Nat) (cs : List Value) (y : DataW H × List MemPlace) (h : DataW.trod enc Try.prog w base spare held n 54 cs = some y) :
    ∃ v : S54, cs = [.int .i64 v.f0, .int .i64 v.f1, .int .i64 v.f2, .string v.f3, .string v.f4, .string v.f5] ∧ v.f3.size ≤ 9223372036854775807 ∧ v.f4.size ≤ 9223372036854775807 ∧ v.f5.size ≤ 9223372036854775807 := by
  obtain ⟨m, hl, hf⟩ := open_fieldsQ Try.underlying54 h
  rw [show Try.prog.cellsOf 54 = 6 by kernel_rfl] at hl
  obtain ⟨c0, c1, c2, c3, c4, c5, rfl⟩ := len6 hl
  obtain ⟨y0, h0⟩ := hf 0 _ 3 0 1 rfl rfl rfl (by kernel_rfl)
  obtain ⟨y1, h1⟩ := hf 1 _ 3 1 1 rfl rfl rfl (by kernel_rfl)
  obtain ⟨y2, h2⟩ := hf 2 _ 3 2 1 rfl rfl rfl (by kernel_rfl)
  obtain ⟨y3, h3⟩ := hf 3 _ 9 3 1 rfl rfl rfl (by kernel_rfl)
  obtain ⟨y4, h4⟩ := hf 4 _ 9 4 1 rfl rfl rfl (by kernel_rfl)
  obtain ⟨y5, h5⟩ := hf 5 _ 9 5 1 rfl rfl rfl (by kernel_rfl)
  clear hf h
  simp only [List.drop, List.take] at h0 h1 h2 h3 h4 h5
  obtain ⟨x0, e0, _⟩ := DataW.trod_int Try.underlying3 h0
  obtain ⟨x1, e1, _⟩ := DataW.trod_int Try.underlying3 h1
  obtain ⟨x2, e2, _⟩ := DataW.trod_int Try.underlying3 h2
  obtain ⟨s3, e3, _, z3⟩ := DataW.trod_string Try.underlying9 h3
  obtain ⟨s4, e4, _, z4⟩ := DataW.trod_string Try.underlying9 h4
  obtain ⟨s5, e5, _, z5⟩ := DataW.trod_string Try.underlying9 h5
  cases e0; cases e1; cases e2; cases e3; cases e4; cases e5
  unfold maxLen at z3 z4 z5
  exact ⟨⟨x0, x1, x2, s3, s4, s5⟩, rfl, z3, z4, z5⟩
set_option maxRecDepth 100000 in
theorem open_100 (n : Nat) (cs : List Value) (y : DataW H × List MemPlace) (h : DataW.trod enc Try.prog w base spare held n 100 cs = some y) : ∃ v, k100.K w v cs ∧ Str v := by
  obtain ⟨m, hl, hf⟩ := open_fieldsQ Try.underlying100 h
  rw [show Try.prog.cellsOf 100 = 7 by kernel_rfl] at hl
  obtain ⟨c0, c1, c2, c3, c4, c5, c6, rfl⟩ := len7 hl
  obtain ⟨y0, h0⟩ := hf 0 _ 3 0 1 rfl rfl rfl (by kernel_rfl)
  obtain ⟨y1, h1⟩ := hf 1 _ 54 1 6 rfl rfl rfl (by kernel_rfl)
  clear hf h
  simp only [List.drop, List.take] at h0 h1
  obtain ⟨x0, e0, _⟩ := DataW.trod_int Try.underlying3 h0
  obtain ⟨v, e1, z3, z4, z5⟩ := open_54 _ _ _ h1
  cases e0; cases e1
  exact ⟨⟨x0, v⟩, k100_mk w ⟨x0, v⟩, ⟨z3, z4, z5⟩⟩
set_option maxRecDepth 100000 in
/-- The log that a law is handed. -/
theorem open_Log {a : Option Addr} {len cap : Nat} {d : DataW H} {ps : List MemPlace} (h : DataW.Trod enc Try.prog w base spare held 35 (.slice a len cap) d ps) :
    ∃ L : List S100, len = L.length ∧ L.length ≤ cap ∧ k100.C w a L.length L ∧ ∀ e ∈ L, Str e := by
  obtain ⟨n, h⟩ := h
  obtain ⟨A, c, L, hcs, hc, hC, hQ⟩ := open_rowQ k100 z100 Str Try.underlying35 (by kernel_rfl) open_100 h
  have he : Value.slice a len cap = .slice A L.length c := by simpa [Value.cells] using hcs
  injection he with h1 h2 h3
  subst h1
  subst h2
  subst h3
  exact ⟨L, rfl, hc, hC, hQ⟩
end
end Go.Proofs.Ytppegigcclflbaa.PFnExactApplyCmd
