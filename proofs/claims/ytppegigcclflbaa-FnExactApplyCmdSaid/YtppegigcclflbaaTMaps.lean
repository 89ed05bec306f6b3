/- The key store's two maps at work: what the program's maps hold, as plain lists. -/
import Derived.Test.YtppegigcclflbaaTFun
import Derived.Test.YtppegigcclflbaaShelf
import Derived.WalkSpells
import Derived.WalkLawsBesides
import Derived.Maps.OwnSet
import Derived.Lib.SlKeysI
import Derived.Sort.KeysCollected
namespace Go.Proofs.Ytppegigcclflbaa.PFnExactApplyCmd
open Go.RowKit Go.Proofs.YtppegigcclflbaaW.PrintWords Go.Proofs.YtppegigcclflbaaW.PrintLast Go.Proofs.YtppegigcclflbaaW.PrintMore
open Go.Proofs.Ytppegigcclflbaa.PStr
open Go.Maps (has IsMap)
open Go.Sort Go.Shelf

/-! ### A session as a map's element -/
def sessV (s : S146) : Value := .agg #[.int .i64 s.f0, .int .i64 s.f1, .int .i64 s.f2, .string s.f3]
def sessD (s : S146) : DataW Unit := .agg [.lit (.int .i64 s.f0), .lit (.int .i64 s.f1), .lit (.int .i64 s.f2), .lit (.string s.f3.data.toList)]
theorem sessV_inj {s t : S146} (h : sessV s = sessV t) : s = t := by
  cases s; cases t
  simp [sessV] at h
  simp [h]
theorem data_inj {a b : ByteArray} (h : a.data.toList = b.data.toList) : a = b := by
  cases a; cases b
  simp at h
  rw [h]
theorem sessD_inj {s t : S146} (h : sessD s = sessD t) : s = t := by
  rcases s with ⟨a0, a1, a2, a3⟩
  rcases t with ⟨b0, b1, b2, b3⟩
  simp [sessD] at h
  obtain ⟨h0, h1, h2, h3⟩ := h
  have e : a3 = b3 := data_inj (by simpa using h3)
  rw [h0, h1, h2, e]
open Classical in
noncomputable def sessElem (v : Value) : Option (DataW Unit × List MemPlace) := if h : ∃ s, v = sessV s then some (sessD h.choose, []) else none
theorem sessElem_mk (s : S146) : sessElem (sessV s) = some (sessD s, []) := by
  unfold sessElem
  have h : ∃ t, sessV s = sessV t := ⟨s, rfl⟩
  rw [dif_pos h]
  exact congrArg (fun t => some (sessD t, ([] : List MemPlace))) (sessV_inj h.choose_spec).symm
theorem sessElem_inv {v : Value} {z : DataW Unit × List MemPlace} (h : sessElem v = some z) : ∃ s, v = sessV s ∧ z = (sessD s, []) := by
  unfold sessElem at h
  by_cases hh : ∃ s, v = sessV s
  · rw [dif_pos hh] at h
    injection h with h
    exact ⟨hh.choose, hh.choose_spec, h.symm⟩
  · rw [dif_neg hh] at h
    cases h

/-- Block b holds the pairs. -/
def IsP (W : World) (b n : Nat) (P : List S157) : Prop := ∃ D : DataW Unit, W.ownsMap Try.prog 9 (plainElem Try.prog 9) b n D ∧
  ∀ k : List UInt8, has D (.string k) = (lookP P k).isSome ∧ ∀ v, lookP P k = some v → ∀ zd, D.atKey (.string k) zd = .lit (.string v.data.toList)
/-- Block b holds the sessions. -/
def IsS (W : World) (b n : Nat) (S : List S146) : Prop := ∃ D : DataW Unit, W.ownsMap Try.prog 3 sessElem b n D ∧
  ∀ c : Int, has D (.int .i64 c) = (lookS S c).isSome ∧ ∀ s, lookS S c = some s → ∀ zd, D.atKey (.int .i64 c) zd = sessD s
theorem IsP.lt {W : World} {b n : Nat} {P : List S157} (h : IsP W b n P) : b < W.heap.size := by
  obtain ⟨D, h, _⟩ := h
  exact h.lt
theorem IsS.lt {W : World} {b n : Nat} {S : List S146} (h : IsS W b n S) : b < W.heap.size := by
  obtain ⟨D, h, _⟩ := h
  exact h.lt
theorem IsP.kept {W W1 : World} {b n : Nat} {P : List S157} {row : Option Nat} (h : IsP W b n P) (hg : W.grownBy W1 row) (hne : some b ≠ row) : IsP W1 b n P := by
  obtain ⟨D, h, hS⟩ := h
  exact ⟨D, h.kept hg hne, hS⟩
theorem IsS.kept {W W1 : World} {b n : Nat} {S : List S146} {row : Option Nat} (h : IsS W b n S) (hg : W.grownBy W1 row) (hne : some b ≠ row) : IsS W1 b n S := by
  obtain ⟨D, h, hS⟩ := h
  exact ⟨D, h.kept hg hne, hS⟩
theorem IsP.below {W W1 : World} {b n : Nat} {P : List S157} (h : IsP W b n P) (hb : Below W.heap.size W W1) : IsP W1 b n P := h.kept (grown_of_below hb none) (by simp)
theorem IsS.below {W W1 : World} {b n : Nat} {S : List S146} (h : IsS W b n S) (hb : Below W.heap.size W W1) : IsS W1 b n S := h.kept (grown_of_below hb none) (by simp)

theorem strkey_ne {x y : List UInt8} (h : x ≠ y) : (Lit.string x) ≠ .string y := fun e => h (by injection e)
theorem int_key_ne {x y : Int} (h : x ≠ y) : (Lit.int .i64 x) ≠ .int .i64 y := fun e => h (by injection e)
theorem tl (s : ByteArray) : s.toList = s.data.toList := Lib.toList_data s
theorem key_str {key : ByteArray} (h : key.size ≤ 1000000) : keyOf Try.prog 9 (.string key) = some (.string key.data.toList) := WideMaps.keyOf_string_mk Try.underlying9 (by unfold maxLen; omega)
theorem key_int {c : Int} (h : -4000000000000000000 ≤ c ∧ c ≤ 4000000000000000000) : keyOf Try.prog 3 (.int .i64 c) = some (.int .i64 c) := by
  refine Maps.keyOf_int_mk Try.underlying3 ?_
  have e1 : IntKind.i64.min = -9223372036854775808 := rfl
  have e2 : IntKind.i64.max = 9223372036854775807 := rfl
  simp [Lit.wf, e1, e2]
  omega

/-- A pair is put. -/
theorem putP {D : DataW Unit} {P : List S157} (hD : IsMap D) (hS : ∀ k : List UInt8, has D (.string k) = (lookP P k).isSome ∧ ∀ v, lookP P k = some v → ∀ zd, D.atKey (.string k) zd = .lit (.string v.data.toList)) (key val : ByteArray) (hk : WideAt.IsKeyLit (.string key.data.toList)) :
    ∀ k : List UInt8, has (D.put (.string key.data.toList) (.lit (.string val.data.toList))) (.string k) = (lookP (withP P key true val) k).isSome ∧ ∀ v, lookP (withP P key true val) k = some v → ∀ zd, (D.put (.string key.data.toList) (.lit (.string val.data.toList))).atKey (.string k) zd = .lit (.string v.data.toList) := by
  intro k
  by_cases h : k = key.toList
  · subst h
    rw [lookP_same, if_pos rfl]
    rw [tl]
    exact ⟨Go.Maps.has_put_same hD hk _, fun v hv zd => by injection hv with hv; rw [← hv]; exact Go.Maps.atKey_put_same hD hk _ zd⟩
  · rw [lookP_other _ _ _ _ h]
    have hne : (Lit.string k) ≠ .string key.data.toList := strkey_ne (by rw [← tl]; exact h)
    refine ⟨(Go.Maps.has_put_other hne _).trans (hS k).1, fun v hv zd => (Go.Maps.atKey_put_other hne _ zd).trans ((hS k).2 v hv zd)⟩
/-- A pair is struck. -/
theorem delP {D : DataW Unit} {P : List S157} (hS : ∀ k : List UInt8, has D (.string k) = (lookP P k).isSome ∧ ∀ v, lookP P k = some v → ∀ zd, D.atKey (.string k) zd = .lit (.string v.data.toList)) (key val : ByteArray) :
    ∀ k : List UInt8, has (D.del (.string key.data.toList)) (.string k) = (lookP (withP P key false val) k).isSome ∧ ∀ v, lookP (withP P key false val) k = some v → ∀ zd, (D.del (.string key.data.toList)).atKey (.string k) zd = .lit (.string v.data.toList) := by
  intro k
  by_cases h : k = key.toList
  · subst h
    rw [lookP_same, if_neg (by decide)]
    rw [tl]
    exact ⟨Go.Maps.has_del_same, fun v hv => by cases hv⟩
  · rw [lookP_other _ _ _ _ h]
    have hne : (Lit.string k) ≠ .string key.data.toList := strkey_ne (by rw [← tl]; exact h)
    refine ⟨(Go.Maps.has_del_other hne).trans (hS k).1, fun v hv zd => (Go.Maps.atKey_del_other hne zd).trans ((hS k).2 v hv zd)⟩
/-- A session is put. -/
theorem putS {D : DataW Unit} {S : List S146} (hD : IsMap D) (hSS : SortedS S) (hS : ∀ c : Int, has D (.int .i64 c) = (lookS S c).isSome ∧ ∀ s, lookS S c = some s → ∀ zd, D.atKey (.int .i64 c) zd = sessD s) (x : S146) (hx : 1 ≤ x.f0 ∧ x.f0 ≤ 8) (hk : WideAt.IsKeyLit (.int .i64 x.f0)) :
    ∀ c : Int, has (D.put (.int .i64 x.f0) (sessD x)) (.int .i64 c) = (lookS (withS S x) c).isSome ∧ ∀ s, lookS (withS S x) c = some s → ∀ zd, (D.put (.int .i64 x.f0) (sessD x)).atKey (.int .i64 c) zd = sessD s := by
  intro c
  by_cases h : c = x.f0
  · subst h
    rw [lookS_same hSS hx]
    exact ⟨Go.Maps.has_put_same hD hk _, fun v hv zd => by injection hv with hv; rw [← hv]; exact Go.Maps.atKey_put_same hD hk _ zd⟩
  · rw [lookS_other hSS hx h]
    have hne : (Lit.int .i64 c) ≠ .int .i64 x.f0 := int_key_ne h
    refine ⟨(Go.Maps.has_put_other hne _).trans (hS c).1, fun v hv zd => (Go.Maps.atKey_put_other hne _ zd).trans ((hS c).2 v hv zd)⟩
end Go.Proofs.Ytppegigcclflbaa.PFnExactApplyCmd
