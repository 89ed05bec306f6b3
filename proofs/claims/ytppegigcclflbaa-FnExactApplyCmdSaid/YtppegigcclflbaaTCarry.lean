/- What impl's tables do: newTables at the empty table, change, carry. -/
import Derived.Test.YtppegigcclflbaaTMaps
import Derived.Test.YtppegigcclflbaaTApply
import Derived.StillTailTactics
namespace Go.Proofs.Ytppegigcclflbaa.PFnExactApplyCmd
open Go.RowKit Go.Proofs.YtppegigcclflbaaW.PrintWords Go.Proofs.YtppegigcclflbaaW.PrintLast Go.Proofs.YtppegigcclflbaaW.PrintMore
open Go.Proofs.Ytppegigcclflbaa.PStr
open Go.Maps (has IsMap)

/-- The tables at work: block g, its two maps. -/
structure Tabs (W : World) (base g bp np : Nat) (P : List S157) (bs ns : Nat) (S : List S146) : Prop where
  cells : W.heap[g]? = some (.cells #[.map (some bp), .map (some bs)] 155 (0, 0))
  pairs : IsP W bp np P
  sess : IsS W bs ns S
  g0 : base ≤ g
  p0 : base ≤ bp
  s0 : base ≤ bs
  ps : bp ≠ bs
theorem Tabs.below {W W1 : World} {base g bp np : Nat} {P : List S157} {bs ns : Nat} {S : List S146} (h : Tabs W base g bp np P bs ns S) (hb : Below W.heap.size W W1) : Tabs W1 base g bp np P bs ns S :=
  ⟨blk_below h.cells hb, h.pairs.below hb, h.sess.below hb, h.g0, h.p0, h.s0, h.ps⟩
theorem Tabs.gp {W : World} {base g bp np : Nat} {P : List S157} {bs ns : Nat} {S : List S146} (h : Tabs W base g bp np P bs ns S) : g ≠ bp := by
  intro e
  obtain ⟨D, ⟨es, clock, hb, _⟩, _⟩ := h.pairs
  have := h.cells
  rw [e, hb] at this
  cases this
theorem Tabs.gs {W : World} {base g bp np : Nat} {P : List S157} {bs ns : Nat} {S : List S146} (h : Tabs W base g bp np P bs ns S) : g ≠ bs := by
  intro e
  obtain ⟨D, ⟨es, clock, hb, _⟩, _⟩ := h.sess
  have := h.cells
  rw [e, hb] at this
  cases this
/-- The pairs have turned. -/
theorem Tabs.turnP {W W1 : World} {base g bp np np' : Nat} {P P' : List S157} {bs ns : Nat} {S : List S146} (h : Tabs W base g bp np P bs ns S) (hg : W.grownBy W1 (some bp)) (hp : IsP W1 bp np' P') : Tabs W1 base g bp np' P' bs ns S :=
  ⟨(hg.block g (blk_lt h.cells) (fun e => h.gp (by injection e))).trans h.cells, hp, h.sess.kept hg (fun e => h.ps (by injection e with e; exact e.symm)), h.g0, h.p0, h.s0, h.ps⟩
theorem Tabs.turnS {W W1 : World} {base g bp np ns' : Nat} {P : List S157} {bs ns : Nat} {S S' : List S146} (h : Tabs W base g bp np P bs ns S) (hg : W.grownBy W1 (some bs)) (hp : IsS W1 bs ns' S') : Tabs W1 base g bp np P bs ns' S' :=
  ⟨(hg.block g (blk_lt h.cells) (fun e => h.gs (by injection e))).trans h.cells, h.pairs.kept hg (fun e => h.ps (by injection e)), hp, h.g0, h.p0, h.s0, h.ps⟩

/-- One more pair behind the others. -/
theorem snocP {D : DataW Unit} {P : List S157} (hD : IsMap D) (hS : ∀ k : List UInt8, has D (.string k) = (lookP P k).isSome ∧ ∀ v, lookP P k = some v → ∀ zd, D.atKey (.string k) zd = .lit (.string v.data.toList)) (key val : ByteArray) (hk : WideAt.IsKeyLit (.string key.data.toList)) (hn : lookP P key.toList = none) :
    ∀ k : List UInt8, has (D.put (.string key.data.toList) (.lit (.string val.data.toList))) (.string k) = (lookP (P ++ [⟨key, val⟩]) k).isSome ∧ ∀ v, lookP (P ++ [⟨key, val⟩]) k = some v → ∀ zd, (D.put (.string key.data.toList) (.lit (.string val.data.toList))).atKey (.string k) zd = .lit (.string v.data.toList) := by
  intro k
  rw [lookP_append]
  by_cases h : k = key.toList
  · subst h
    rw [hn, Option.none_or, show lookP [⟨key, val⟩] key.toList = some val by simp [lookP]]
    rw [tl]
    exact ⟨Go.Maps.has_put_same hD hk _, fun v hv zd => by injection hv with hv; rw [← hv]; exact Go.Maps.atKey_put_same hD hk _ zd⟩
  · have hm : lookP [⟨key, val⟩] k = none := by
      simp [lookP]
      exact fun e => h e.symm
    rw [hm, Option.or_none]
    have hne : (Lit.string k) ≠ .string key.data.toList := strkey_ne (by rw [← tl]; exact h)
    refine ⟨(Go.Maps.has_put_other hne _).trans (hS k).1, fun v hv zd => (Go.Maps.atKey_put_other hne _ zd).trans ((hS k).2 v hv zd)⟩
theorem lookS_append : ∀ (a b : List S146) (c : Int), lookS (a ++ b) c = (lookS a c).or (lookS b c)
  | [], b, c => rfl
  | p :: ps, b, c => by
    show (if p.f0 = c then some p else lookS (ps ++ b) c) = (if p.f0 = c then some p else lookS ps c).or (lookS b c)
    by_cases h : p.f0 = c
    · rw [if_pos h, if_pos h]; rfl
    · rw [if_neg h, if_neg h]; exact lookS_append ps b c
theorem snocS {D : DataW Unit} {S : List S146} (hD : IsMap D) (hS : ∀ c : Int, has D (.int .i64 c) = (lookS S c).isSome ∧ ∀ s, lookS S c = some s → ∀ zd, D.atKey (.int .i64 c) zd = sessD s) (x : S146) (hk : WideAt.IsKeyLit (.int .i64 x.f0)) (hn : lookS S x.f0 = none) :
    ∀ c : Int, has (D.put (.int .i64 x.f0) (sessD x)) (.int .i64 c) = (lookS (S ++ [x]) c).isSome ∧ ∀ s, lookS (S ++ [x]) c = some s → ∀ zd, (D.put (.int .i64 x.f0) (sessD x)).atKey (.int .i64 c) zd = sessD s := by
  intro c
  rw [lookS_append]
  by_cases h : c = x.f0
  · subst h
    rw [hn, Option.none_or, show lookS [x] x.f0 = some x by simp [lookS]]
    exact ⟨Go.Maps.has_put_same hD hk _, fun v hv zd => by injection hv with hv; rw [← hv]; exact Go.Maps.atKey_put_same hD hk _ zd⟩
  · have hm : lookS [x] c = none := by
      simp [lookS]
      exact fun e => h e.symm
    rw [hm, Option.or_none]
    have hne : (Lit.int .i64 c) ≠ .int .i64 x.f0 := int_key_ne h
    refine ⟨(Go.Maps.has_put_other hne _).trans (hS c).1, fun v hv zd => (Go.Maps.atKey_put_other hne _ zd).trans ((hS c).2 v hv zd)⟩
theorem takeP_new {P : List S157} (h : SortedP P) {j : Nat} (hj : j < P.length) : lookP (P.take j) P[j].f0.toList = none := by
  cases hl : lookP (P.take j) P[j].f0.toList with
  | none => rfl
  | some v =>
    obtain ⟨p, hp, he⟩ := mem_lookP.1 (show (lookP (P.take j) P[j].f0.toList).isSome = true by rw [hl]; rfl)
    obtain ⟨i, hi, rfl⟩ := List.getElem_of_mem hp
    rw [List.getElem_take] at he
    rw [List.length_take] at hi
    have := List.pairwise_iff_getElem.1 h i j (by omega) hj (by omega)
    exact absurd (he ▸ this) (lt_irr _)
theorem takeS_new {S : List S146} (h : SortedS S) {j : Nat} (hj : j < S.length) : lookS (S.take j) S[j].f0 = none := by
  refine lookS_none (fun s hs he => ?_)
  obtain ⟨i, hi, rfl⟩ := List.getElem_of_mem hs
  rw [List.getElem_take] at he
  rw [List.length_take] at hi
  have := List.pairwise_iff_getElem.1 h.1 i j (by omega) hj (by omega)
  omega

set_option maxHeartbeats 3200000 in
set_option maxRecDepth 100000 in
theorem newTables.calls (A1 : Option Addr) (d1 : Nat) (P : List S157) (A2 : Option Addr) (d2 : Nat) (S : List S146) (w : World)
    (hr1 : Kd.C k157 w A1 P.length P) (hc1 : P.length ≤ d1) (hr2 : Kd.C k146 w A2 S.length S) (hc2 : S.length ≤ d2) (hp : P.length ≤ 1000000) (hs : S.length ≤ 1000000) (hP : SortedP P) (hS : SortedS S) (hk : ∀ p ∈ P, p.f0.size ≤ 1000000 ∧ p.f1.size ≤ 1000000) :
    Calls Try.prog 63 #[.agg #[.slice A1 P.length d1, .slice A2 S.length d2]] w fun e w' => ∃ g bp bs, e = .returned (.pointer (some ⟨g, 0, none⟩)) ∧ Tabs w' w.heap.size g bp P.length P bs S.length S ∧ Below w.heap.size w w' := by
  have hmm := @run_makeMap Try.prog
  have H1 := Aside0.mk hr1
  have H2 := Aside0.mk hr2
  have HC1 := Aside0.mk hc1
  have HC2 := Aside0.mk hc2
  have HP := Aside0.mk hP
  have HS := Aside0.mk hS
  have HK := Aside0.mk hk
  clear hr1 hr2 hc1 hc2 hP hS hk
  go_enter Try.func63, Try.ntmps63
  go_wp2_with fail
  obtain ⟨wz, hwz⟩ : ∃ wz, wz = ((((w.alloc (.cells #[.slice A1 P.length d1, .slice A2 S.length d2] 40)).alloc (.map #[] 0)).alloc (.map #[] 0)).alloc (.cells #[.map (some (w.heap.size + 1)), .map (some (w.heap.size + 1 + 1))] 155)) := ⟨_, rfl⟩
  have hz0 : wz.heap[w.heap.size]? = some (.cells #[.slice A1 P.length d1, .slice A2 S.length d2] 40 (0, 0)) := by rw [hwz]; exact blk_alloc (blk_alloc (blk_alloc (blk_new _ _) _) _) _
  have hzB : Below w.heap.size w wz := by rw [hwz]; exact below_alloc (below_alloc (below_alloc (below_alloc (Below.refl _ _) _) _) _) _
  have hzT : Tabs wz w.heap.size (w.heap.size + 1 + 1 + 1) (w.heap.size + 1) 0 [] (w.heap.size + 1 + 1) 0 [] := by
    refine ⟨?_, ⟨.map [], ?_, fun k => ⟨rfl, fun v hv => by cases hv⟩⟩, ⟨.map [], ?_, fun k => ⟨rfl, fun v hv => by cases hv⟩⟩, by omega, by omega, by omega, by omega⟩
    · rw [hwz]
      have := blk_new (((w.alloc (.cells #[.slice A1 P.length d1, .slice A2 S.length d2] 40)).alloc (.map #[] 0)).alloc (.map #[] 0)) (.cells #[.map (some (w.heap.size + 1)), .map (some (w.heap.size + 1 + 1))] 155)
      simpa using this
    · rw [hwz]
      have := (World.ownsMap_made (H := Unit) (w.alloc (.cells #[.slice A1 P.length d1, .slice A2 S.length d2] 40)) Try.prog 9 (plainElem Try.prog 9))
      exact (((by simpa using this : World.ownsMap _ Try.prog 9 (plainElem Try.prog 9) (w.heap.size + 1) 0 (.map []))).alloc _).alloc _
    · rw [hwz]
      have := (World.ownsMap_made (H := Unit) ((w.alloc (.cells #[.slice A1 P.length d1, .slice A2 S.length d2] 40)).alloc (.map #[] 0)) Try.prog 3 sessElem)
      exact ((by simpa using this : World.ownsMap _ Try.prog 3 sessElem (w.heap.size + 1 + 1) 0 (.map []))).alloc _
  rw [← hwz]
  have HZ0 := Aside0.mk hz0
  have HZB := Aside0.mk hzB
  have HZT := Aside0.mk hzT
  clear hwz hz0 hzB hzT hmm
  go_loopg [15] P.length (fun k i wr => ∃ j : Nat, j + k = P.length ∧ i = .int .i64 j ∧ Tabs wr w.heap.size (w.heap.size + 1 + 1 + 1) (w.heap.size + 1) j (P.take j) (w.heap.size + 1 + 1) 0 [] ∧ wr.heap[w.heap.size]? = some (.cells #[.slice A1 P.length d1, .slice A2 S.length d2] 40 (0, 0)) ∧ Below w.heap.size w wr)
  case atStart => exact ⟨0, by omega, rfl, HZT.out, HZ0.out, HZB.out⟩
  case round =>
    obtain ⟨j, hjk, rfl, hT, hb0, hB⟩ := hrel
    by_cases hlt : j < P.length
    · obtain ⟨ad, rfl, h0, h1⟩ := at_T157 H1.out (j : Int) (by omega) (by omega)
      rw [rd157_at hlt] at h0 h1
      obtain ⟨p, hpe⟩ : ∃ p, p = P[j] := ⟨_, rfl⟩
      rw [← hpe] at h0 h1
      simp only [Int.toNat_natCast] at h0 h1
      replace h0 := pw_cell_below hB h0
      replace h1 := pw_cell_below hB h1
      have hj0 : (0 : Int) ≤ (j : Int) := by omega
      have hj1 : (j : Int) < (P.length : Int) := by omega
      have c1 := blk_alloc hT.cells (.cells #[.string p.f0, .string p.f1] 157)
      obtain ⟨x0, x1⟩ := cells2 c1
      have HT := Aside0.mk hT
      have HB0 := Aside0.mk hb0
      have HB := Aside0.mk hB
      have HJK := Aside0.mk hjk
      have HPE := Aside0.mk hpe
      clear hT hb0 hB hjk hpe c1
      go_wp2_with fail
      obtain ⟨w5, hw5⟩ : ∃ w5, w5 = wr.alloc (.cells #[.string p.f0, .string p.f1] 157) := ⟨_, rfl⟩
      have hT5 := HT.out.below (below_alloc (Below.refl wr.heap.size wr) (.cells #[.string p.f0, .string p.f1] 157))
      have hB5 := below_alloc HB.out (.cells #[.string p.f0, .string p.f1] 157)
      have hb5 := blk_alloc HB0.out (.cells #[.string p.f0, .string p.f1] 157)
      have hn5 := blk_new wr (.cells #[.string p.f0, .string p.f1] 157)
      rw [← hw5] at hT5 hB5 hb5 hn5 x0 x1 ⊢
      clear hw5
      obtain ⟨m0, m1⟩ := cells2 hn5
      have HT5 := Aside0.mk hT5
      have HB5 := Aside0.mk hB5
      have Hb5 := Aside0.mk hb5
      clear hT5 hB5 hb5 hn5
      go_still_tail 8, (by kernel_rfl)
      obtain ⟨D, hown, hD⟩ := HT5.out.pairs
      have hks := HK.out p (HPE.out ▸ List.getElem_mem hlt)
      have hkey := key_str (key := p.f0) (by omega)
      refine wpList_mapUpdate_own _ rfl _ _ _ 152 rfl 9 9 (Maps.string_keyed Try.underlying9) Try.underlying152 (plainElem Try.prog 9) (w.heap.size + 1) j D rfl hown.drew (by unfold maxLen; omega) _ _ (.string p.f0.data.toList) rfl rfl hkey _ [] (plainElem_string Try.underlying9 (s := p.f1) (by unfold maxLen; omega)) ?_
      intro w6 hown6 hgrow6
      have hsn := snocP hown.isMap hD p.f0 p.f1 ((Maps.string_keyed Try.underlying9).key hkey) (by rw [HPE.out]; exact takeP_new HP.out hlt)
      have hgrow : w5.grownBy w6 (some (w.heap.size + 1)) := ⟨hgrow6.os, hgrow6.tape, hgrow6.output, hgrow6.size, hgrow6.block⟩
      have hT6 : Tabs w6 w.heap.size (w.heap.size + 1 + 1 + 1) (w.heap.size + 1) (j + 1) (P.take (j + 1)) (w.heap.size + 1 + 1) 0 [] := by
        refine HT5.out.turnP hgrow ⟨_, hown6, ?_⟩
        rw [List.take_succ_eq_append_getElem hlt, ← HPE.out]
        exact hsn
      have HT6 := Aside0.mk hT6
      have HB6 := Aside0.mk (HB5.out.grown hgrow (HB5.out.size) (fun k hk => by injection hk with hk; omega))
      have Hb6 := Aside0.mk ((hgrow.block w.heap.size (blk_lt Hb5.out) (fun e => by injection e with e; omega)).trans Hb5.out)
      clear hown hD hown6 hgrow6 hgrow hsn hT6
      go_wp2_with fail
      go_roundg (gk - 1)
      case measure => have := HJK.out; omega
      case rel => exact ⟨j + 1, by have := HJK.out; omega, by go_num, HT6.out, Hb6.out, HB6.out⟩
    · obtain rfl : j = P.length := by omega
      have hj1 : ¬ (P.length : Int) < (P.length : Int) := by omega
      rw [List.take_length] at hT
      obtain ⟨x0, x1⟩ := cells2 hb0
      have HT := Aside0.mk hT
      have HB0 := Aside0.mk hb0
      have HB := Aside0.mk hB
      clear hT hb0 hB hjk HZ0 HZB HZT
      go_wp2_with fail
      go_loopg [31] S.length (fun k i wr => ∃ j : Nat, j + k = S.length ∧ i = .int .i64 j ∧ Tabs wr w.heap.size (w.heap.size + 1 + 1 + 1) (w.heap.size + 1) P.length P (w.heap.size + 1 + 1) j (S.take j) ∧ Below w.heap.size w wr)
      case atStart => exact ⟨0, by omega, rfl, HT.out, HB.out⟩
      case round =>
        clear x0 x1
        obtain ⟨j, hjk, rfl, hT, hB⟩ := hrel
        by_cases hlt : j < S.length
        · obtain ⟨ad, rfl, h0, h1, h2, h3⟩ := at_T146 H2.out (j : Int) (by omega) (by omega)
          rw [rd146_at hlt] at h0 h1 h2 h3
          obtain ⟨p, hpe⟩ : ∃ p, p = S[j] := ⟨_, rfl⟩
          rw [← hpe] at h0 h1 h2 h3
          simp only [Int.toNat_natCast] at h0 h1 h2 h3
          replace h0 := pw_cell_below hB h0
          replace h1 := pw_cell_below hB h1
          replace h2 := pw_cell_below hB h2
          replace h3 := pw_cell_below hB h3
          have hj0 : (0 : Int) ≤ (j : Int) := by omega
          have hj2 : (j : Int) < (S.length : Int) := by omega
          have c1 := blk_alloc hT.cells (.cells #[.int .i64 p.f0, .int .i64 p.f1, .int .i64 p.f2, .string p.f3] 146)
          obtain ⟨x0, x1⟩ := cells2 c1
          have HT := Aside0.mk hT
          have HB := Aside0.mk hB
          have HJK := Aside0.mk hjk
          have HPE := Aside0.mk hpe
          clear hT hB hjk hpe c1
          go_wp2_with fail
          obtain ⟨w5, hw5⟩ : ∃ w5, w5 = wr.alloc (.cells #[.int .i64 p.f0, .int .i64 p.f1, .int .i64 p.f2, .string p.f3] 146) := ⟨_, rfl⟩
          have hT5 := HT.out.below (below_alloc (Below.refl wr.heap.size wr) (.cells #[.int .i64 p.f0, .int .i64 p.f1, .int .i64 p.f2, .string p.f3] 146))
          have hB5 := below_alloc HB.out (.cells #[.int .i64 p.f0, .int .i64 p.f1, .int .i64 p.f2, .string p.f3] 146)
          have hn5 := blk_new wr (.cells #[.int .i64 p.f0, .int .i64 p.f1, .int .i64 p.f2, .string p.f3] 146)
          rw [← hw5] at hT5 hB5 hn5 x0 x1 ⊢
          clear hw5
          have m0 : w5.cell? ⟨wr.heap.size, 0, none⟩ = some (.int .i64 p.f0) := (blk_cell hn5 0).trans rfl
          have m1 : w5.cell? ⟨wr.heap.size, 1, none⟩ = some (.int .i64 p.f1) := (blk_cell hn5 1).trans rfl
          have m2 : w5.cell? ⟨wr.heap.size, 2, none⟩ = some (.int .i64 p.f2) := (blk_cell hn5 2).trans rfl
          have m3 : w5.cell? ⟨wr.heap.size, 3, none⟩ = some (.string p.f3) := (blk_cell hn5 3).trans rfl
          have HT5 := Aside0.mk hT5
          have HB5 := Aside0.mk hB5
          clear hT5 hB5 hn5
          go_still_tail 7, (by kernel_rfl)
          obtain ⟨D, hown, hD⟩ := HT5.out.sess
          have hks := HS.out.2 p (HPE.out ▸ List.getElem_mem hlt)
          have hkey := key_int (c := p.f0) (by omega)
          refine wpList_mapUpdate_own _ rfl _ _ _ 153 rfl 3 146 (Maps.int_keyed Try.underlying3) Try.underlying153 sessElem (w.heap.size + 1 + 1) j D rfl hown.drew (by unfold maxLen; omega) _ (sessV p) (.int .i64 p.f0) rfl rfl hkey _ [] (sessElem_mk p) ?_
          intro w6 hown6 hgrow6
          have hsn := snocS hown.isMap hD p ((Maps.int_keyed Try.underlying3).key hkey) (by rw [HPE.out]; exact takeS_new HS.out hlt)
          have hgrow : w5.grownBy w6 (some (w.heap.size + 1 + 1)) := ⟨hgrow6.os, hgrow6.tape, hgrow6.output, hgrow6.size, hgrow6.block⟩
          have hT6 : Tabs w6 w.heap.size (w.heap.size + 1 + 1 + 1) (w.heap.size + 1) P.length P (w.heap.size + 1 + 1) (j + 1) (S.take (j + 1)) := by
            refine HT5.out.turnS hgrow ⟨_, hown6, ?_⟩
            rw [List.take_succ_eq_append_getElem hlt, ← HPE.out]
            exact hsn
          have HT6 := Aside0.mk hT6
          have HB6 := Aside0.mk (HB5.out.grown hgrow (HB5.out.size) (fun k hk => by injection hk with hk; omega))
          clear hown hD hown6 hgrow6 hgrow hsn hT6
          go_wp2_with fail
          go_roundg (gk - 1)
          case measure => have := HJK.out; omega
          case rel => exact ⟨j + 1, by have := HJK.out; omega, by go_num, HT6.out, HB6.out⟩
        · obtain rfl : j = S.length := by omega
          have hj2 : ¬ (S.length : Int) < (S.length : Int) := by omega
          rw [List.take_length] at hT
          have HT := Aside0.mk hT
          have HB := Aside0.mk hB
          clear hT hB hjk
          go_wp2_with fail
          go_ret
          exact ⟨_, rfl, ⟨_, _, HT.out⟩, HB.out⟩
end Go.Proofs.Ytppegigcclflbaa.PFnExactApplyCmd
