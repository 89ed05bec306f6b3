/- What ApplyCmd answers, the reference's and the program's. -/
import Derived.Test.YtppegigcclflbaaTOk76
import Derived.Test.YtppegigcclflbaaTTell
import Derived.Test.YtppegigcclflbaaTInv
set_option linter.unusedSimpArgs false
namespace Go.Proofs.Ytppegigcclflbaa.PFnExactApplyCmd
open Go.RowKit Go.Proofs.YtppegigcclflbaaW.PrintWords Go.Proofs.YtppegigcclflbaaW.PrintLast Go.Proofs.YtppegigcclflbaaW.PrintMore
open Go.Proofs.Ytppegigcclflbaa.PStr

/-- What a command on a table answers. -/
def cmdF (P : List S157) (S : List S146) (c0 c1 c2 : Int) (key val old : ByteArray) : Int × Int × ByteArray × List S157 × List S146 :=
  if tabOk P S = true then (if faultC c0 c1 c2 key val old = 0 then applyF P S c0 c1 c2 key val old else (8, 0, ⟨#[]⟩, P, S)) else (9, 0, ⟨#[]⟩, [], [])
def CmdAns (F : Int × Int × ByteArray × List S157 × List S146) (w : World) (e : Ending) (w' : World) : Prop := ∃ B1 e1 B2 e2, e = .returned (.agg #[.int .i64 F.1, .int .i64 F.2.1, .string F.2.2.1, .slice B1 F.2.2.2.1.length e1, .slice B2 F.2.2.2.2.length e2]) ∧ HeldT w' w.heap.size (fun _ => True) B1 e1 F.2.2.2.1 B2 e2 F.2.2.2.2 ∧ Below w.heap.size w w'
theorem held_none (w : World) (b : Nat) (ok : Nat → Prop) : HeldT w b ok none 0 [] none 0 [] := ⟨Kd.R_nil _ _ _ _ _, Kd.R_nil _ _ _ _ _⟩
theorem tok_of {P : List S157} {S : List S146} (h : tabOk P S = true) : TOk P S := by
  obtain ⟨a, b, c, d⟩ := tabOk_sorted h
  exact ⟨a, b, c, d⟩
set_option maxHeartbeats 6400000 in
set_option maxRecDepth 100000 in
theorem spec_ApplyCmd.calls (A1 : Option Addr) (d1 : Nat) (P : List S157) (A2 : Option Addr) (d2 : Nat) (S : List S146) (c0 c1 c2 : Int) (key val old : ByteArray) (w : World)
    (hr1 : Kd.C k157 w A1 P.length P) (hc1 : P.length ≤ d1) (hr2 : Kd.C k146 w A2 S.length S) (hc2 : S.length ≤ d2) (hk : key.size ≤ 1048576) (hv : val.size ≤ 1048576) (ho : old.size ≤ 1048576) :
    Calls Try.prog 25 #[.agg #[.slice A1 P.length d1, .slice A2 S.length d2], .agg #[.int .i64 c0, .int .i64 c1, .int .i64 c2, .string key, .string val, .string old]] w (CmdAns (cmdF P S c0 c1 c2 key val old) w) := by
  have H1 := Aside0.mk hr1
  have H2 := Aside0.mk hr2
  have HC1 := Aside0.mk hc1
  have HC2 := Aside0.mk hc2
  clear hr1 hr2 hc1 hc2
  go_enter Try.func25, Try.ntmps25
  go_wp2_with fail
  obtain ⟨wz, hwz⟩ : ∃ wz, wz = (((w.alloc (.cells #[.slice A1 P.length d1, .slice A2 S.length d2] 40)).alloc (.cells #[.int .i64 c0, .int .i64 c1, .int .i64 c2, .string key, .string val, .string old] 61)).alloc (.cells #[.int .i64 0, .int .i64 0, .string ⟨#[]⟩, .slice none 0 0, .slice none 0 0] 58)) := ⟨_, rfl⟩
  have hz0 : wz.heap[w.heap.size]? = some (.cells #[.slice A1 P.length d1, .slice A2 S.length d2] 40 (0, 0)) := by rw [hwz]; exact blk_alloc (blk_alloc (blk_new _ _) _) _
  have hz1 : wz.heap[w.heap.size + 1]? = some (.cells #[.int .i64 c0, .int .i64 c1, .int .i64 c2, .string key, .string val, .string old] 61 (0, 0)) := by
    rw [hwz]
    have := blk_new (w.alloc (.cells #[.slice A1 P.length d1, .slice A2 S.length d2] 40)) (.cells #[.int .i64 c0, .int .i64 c1, .int .i64 c2, .string key, .string val, .string old] 61)
    exact blk_alloc (by simpa using this) _
  have hz2 : wz.heap[w.heap.size + 2]? = some (.cells #[.int .i64 0, .int .i64 0, .string ⟨#[]⟩, .slice none 0 0, .slice none 0 0] 58 (0, 0)) := by
    rw [hwz]
    have := blk_new ((w.alloc (.cells #[.slice A1 P.length d1, .slice A2 S.length d2] 40)).alloc (.cells #[.int .i64 c0, .int .i64 c1, .int .i64 c2, .string key, .string val, .string old] 61)) (.cells #[.int .i64 0, .int .i64 0, .string ⟨#[]⟩, .slice none 0 0, .slice none 0 0] 58)
    simpa using this
  have hzB : Below w.heap.size w wz := by rw [hwz]; exact below_alloc (below_alloc (below_alloc (Below.refl _ _) _) _) _
  rw [← hwz]
  have HB := Aside0.mk hzB
  have Q0 := Aside0.mk hz0
  have Q1 := Aside0.mk hz1
  have Q2 := Aside0.mk hz2
  clear hwz hz0 hz1 hz2 hzB
  refine (l5tableOk.calls A1 d1 P A2 d2 S wz (Kd.C_below H1.out HB.out) (Kd.C_below H2.out HB.out)).mono ?_
  rintro e w3 ⟨rfl, hB3⟩
  have HB3 := Aside0.mk (below_then HB.out HB.out.size hB3)
  have R0 := Aside0.mk (blk_below Q0.out hB3)
  have R1 := Aside0.mk (blk_below Q1.out hB3)
  have R2 := Aside0.mk (blk_below Q2.out hB3)
  clear hB3 HB Q0 Q1 Q2
  cases hok : tabOk P S with
  | false =>
    have HF : Aside0 (cmdF P S c0 c1 c2 key val old = (9, 0, ⟨#[]⟩, [], [])) := ⟨by unfold cmdF; rw [if_neg (by rw [hok]; decide)]⟩
    clear hok
    obtain ⟨z0, z1, z2, z3, z4⟩ := cells5 R2.out
    obtain ⟨f0, f1, f2, f3, f4⟩ := frozen5 R2.out
    go_wp2_with fail
    have x4 := put5_blk (u0 := .int .i64 9) (u1 := .int .i64 0) (u2 := .string ⟨#[]⟩) (u3 := .slice none 0 0) (u4 := .slice none 0 0) R2.out
    refine bodyPost_ret (v := .agg #[.int .i64 9, .int .i64 0, .string ⟨#[]⟩, .slice none 0 0, .slice none 0 0]) (results_single rfl (Vals.cell (w.heap.size + 2) 58 _ (0, 0) _ rfl x4 Try.underlying58 rfl (by kernel_rfl) Vals.nil)) rfl ?_
    rw [HF.out]
    exact ⟨none, 0, none, 0, rfl, held_none _ _ _, below_put5 HB3.out (by omega)⟩
  | true =>
    have HOK := Aside0.mk hok
    clear hok
    obtain ⟨a0, a1⟩ := cells2 R0.out
    obtain ⟨y0, y1, y2, y3, y4, y5⟩ := cells6 R1.out
    go_wp2_with fail
    refine (spec_CmdFault.calls c0 c1 c2 key val old w3 (by omega) (by omega) (by omega)).mono ?_
    rintro e w4 ⟨rfl, hB4⟩
    have HB4 := Aside0.mk (below_then HB3.out HB3.out.size hB4)
    have R0' := Aside0.mk (blk_below R0.out hB4)
    have R1' := Aside0.mk (blk_below R1.out hB4)
    have R2' := Aside0.mk (blk_below R2.out hB4)
    clear hB4 a0 a1 y0 y1 y2 y3 y4 y5 R0 R1 R2
    obtain ⟨a0, a1⟩ := cells2 R0'.out
    obtain ⟨n, hn⟩ : ∃ n, n = faultC c0 c1 c2 key val old := ⟨_, rfl⟩
    rw [← hn]
    by_cases hz : n = 0
    · have HF : Aside0 (cmdF P S c0 c1 c2 key val old = applyF P S c0 c1 c2 key val old) := ⟨by unfold cmdF; rw [if_pos HOK.out, if_pos (by rw [← hn]; exact hz)]⟩
      subst hz
      clear hn
      obtain ⟨y0, y1, y2, y3, y4, y5⟩ := cells6 R1'.out
      go_wp2_with fail
      refine (l5apply.calls A1 d1 P A2 d2 S c0 c1 c2 key val old w4 (Kd.C_below H1.out HB4.out) HC1.out (Kd.C_below H2.out HB4.out) HC2.out (by have := (tok_of HOK.out).l; omega) (by have := few (tok_of HOK.out).s; omega)).mono ?_
      rintro e w5 ⟨B1, e1, B2, e2, rfl, hH, hB5⟩
      obtain ⟨F, hFe⟩ : ∃ F, F = applyF P S c0 c1 c2 key val old := ⟨_, rfl⟩
      rw [← hFe] at hH HF ⊢
      obtain ⟨n1, hn1⟩ : ∃ m, m = F.2.2.2.1.length := ⟨_, rfl⟩
      obtain ⟨n2, hn2⟩ : ∃ m, m = F.2.2.2.2.length := ⟨_, rfl⟩
      rw [← hn1, ← hn2]
      have HN1 := Aside0.mk hn1
      have HN2 := Aside0.mk hn2
      have HH := Aside0.mk (hH.lower HB4.out.size)
      have R2'' := Aside0.mk (blk_below R2'.out hB5)
      have HB5 := Aside0.mk (below_then HB4.out HB4.out.size hB5)
      clear hFe hn1 hn2 hH hB5 a0 a1 y0 y1 y2 y3 y4 y5
      obtain ⟨z0, z1, z2, z3, z4⟩ := cells5 R2''.out
      obtain ⟨f0, f1, f2, f3, f4⟩ := frozen5 R2''.out
      go_wp2_with fail
      have x4 := put5_blk (u0 := .int .i64 F.1) (u1 := .int .i64 F.2.1) (u2 := .string F.2.2.1) (u3 := .slice B1 n1 e1) (u4 := .slice B2 n2 e2) R2''.out
      refine bodyPost_ret (v := .agg #[.int .i64 F.1, .int .i64 F.2.1, .string F.2.2.1, .slice B1 n1 e1, .slice B2 n2 e2]) (results_single rfl (Vals.cell (w.heap.size + 2) 58 _ (0, 0) _ rfl x4 Try.underlying58 rfl (by kernel_rfl) Vals.nil)) rfl ?_
      rw [HF.out]
      exact ⟨B1, e1, B2, e2, by rw [HN1.out, HN2.out], HH.out.put5 _ _ _ _ _ R2''.out, below_put5 HB5.out (by omega)⟩
    · have HF : Aside0 (cmdF P S c0 c1 c2 key val old = (8, 0, ⟨#[]⟩, P, S)) := ⟨by unfold cmdF; rw [if_pos HOK.out, if_neg (by rw [← hn]; exact hz)]⟩
      have hne : (n != 0) = true := bne_iff_ne.2 hz
      clear hn hz
      go_wp2_with fail
      refine (copyT A1 d1 P A2 d2 S w4 (Kd.C_below H1.out HB4.out) HC1.out (Kd.C_below H2.out HB4.out) HC2.out (by have := (tok_of HOK.out).l; omega) (by have := few (tok_of HOK.out).s; omega)).mono ?_
      rintro e w5 ⟨B1, e1, B2, e2, rfl, hH, hB5⟩
      have HH := Aside0.mk (hH.lower HB4.out.size)
      have R2'' := Aside0.mk (blk_below R2'.out hB5)
      have HB5 := Aside0.mk (below_then HB4.out HB4.out.size hB5)
      clear hH hB5 a0 a1 hne
      obtain ⟨z0, z1, z2, z3, z4⟩ := cells5 R2''.out
      obtain ⟨f0, f1, f2, f3, f4⟩ := frozen5 R2''.out
      go_wp2_with fail
      have x4 := put5_blk (u0 := .int .i64 8) (u1 := .int .i64 0) (u2 := .string ⟨#[]⟩) (u3 := .slice B1 P.length e1) (u4 := .slice B2 S.length e2) R2''.out
      refine bodyPost_ret (v := .agg #[.int .i64 8, .int .i64 0, .string ⟨#[]⟩, .slice B1 P.length e1, .slice B2 S.length e2]) (results_single rfl (Vals.cell (w.heap.size + 2) 58 _ (0, 0) _ rfl x4 Try.underlying58 rfl (by kernel_rfl) Vals.nil)) rfl ?_
      rw [HF.out]
      exact ⟨B1, e1, B2, e2, rfl, HH.out.put5 _ _ _ _ _ R2''.out, below_put5 HB5.out (by omega)⟩

theorem put3_blk {w : World} {n t : Nat} {a0 a1 a2 a3 a4 u0 u1 u2 : Value} (h : w.heap[n]? = some (.cells #[a0, a1, a2, a3, a4] t (0, 0))) : (((w.setCell ⟨n, 0, none⟩ u0).setCell ⟨n, 1, none⟩ u1).setCell ⟨n, 2, none⟩ u2).heap[n]? = some (.cells #[u0, u1, u2, a3, a4] t (0, 0)) := by
  have x1 := blk_put h 0 u0 (cs' := #[u0, a1, a2, a3, a4]) (by simp)
  have x2 := blk_put x1 1 u1 (cs' := #[u0, u1, a2, a3, a4]) (by simp)
  exact blk_put x2 2 u2 (cs' := #[u0, u1, u2, a3, a4]) (by simp)
set_option maxHeartbeats 12800000 in
set_option maxRecDepth 100000 in
theorem impl_ApplyCmd.calls (A1 : Option Addr) (d1 : Nat) (P : List S157) (A2 : Option Addr) (d2 : Nat) (S : List S146) (c0 c1 c2 : Int) (key val old : ByteArray) (w : World)
    (hr1 : Kd.C k157 w A1 P.length P) (hc1 : P.length ≤ d1) (hr2 : Kd.C k146 w A2 S.length S) (hc2 : S.length ≤ d2) (hp : P.length ≤ 1100000) (hs : S.length ≤ 1100000) :
    Calls Try.prog 28 #[.agg #[.slice A1 P.length d1, .slice A2 S.length d2], .agg #[.int .i64 c0, .int .i64 c1, .int .i64 c2, .string key, .string val, .string old]] w (CmdAns (cmdF P S c0 c1 c2 key val old) w) := by
  have H1 := Aside0.mk hr1
  have H2 := Aside0.mk hr2
  have HC1 := Aside0.mk hc1
  have HC2 := Aside0.mk hc2
  clear hr1 hr2 hc1 hc2
  go_enter Try.func28, Try.ntmps28
  go_wp2_with fail
  obtain ⟨wz, hwz⟩ : ∃ wz, wz = (((w.alloc (.cells #[.slice A1 P.length d1, .slice A2 S.length d2] 40)).alloc (.cells #[.int .i64 c0, .int .i64 c1, .int .i64 c2, .string key, .string val, .string old] 61)).alloc (.cells #[.int .i64 0, .int .i64 0, .string ⟨#[]⟩, .slice none 0 0, .slice none 0 0] 58)) := ⟨_, rfl⟩
  have hz0 : wz.heap[w.heap.size]? = some (.cells #[.slice A1 P.length d1, .slice A2 S.length d2] 40 (0, 0)) := by rw [hwz]; exact blk_alloc (blk_alloc (blk_new _ _) _) _
  have hz1 : wz.heap[w.heap.size + 1]? = some (.cells #[.int .i64 c0, .int .i64 c1, .int .i64 c2, .string key, .string val, .string old] 61 (0, 0)) := by
    rw [hwz]
    have := blk_new (w.alloc (.cells #[.slice A1 P.length d1, .slice A2 S.length d2] 40)) (.cells #[.int .i64 c0, .int .i64 c1, .int .i64 c2, .string key, .string val, .string old] 61)
    exact blk_alloc (by simpa using this) _
  have hz2 : wz.heap[w.heap.size + 2]? = some (.cells #[.int .i64 0, .int .i64 0, .string ⟨#[]⟩, .slice none 0 0, .slice none 0 0] 58 (0, 0)) := by
    rw [hwz]
    have := blk_new ((w.alloc (.cells #[.slice A1 P.length d1, .slice A2 S.length d2] 40)).alloc (.cells #[.int .i64 c0, .int .i64 c1, .int .i64 c2, .string key, .string val, .string old] 61)) (.cells #[.int .i64 0, .int .i64 0, .string ⟨#[]⟩, .slice none 0 0, .slice none 0 0] 58)
    simpa using this
  have hzB : Below w.heap.size w wz := by rw [hwz]; exact below_alloc (below_alloc (below_alloc (Below.refl _ _) _) _) _
  rw [← hwz]
  have HB := Aside0.mk hzB
  have Q0 := Aside0.mk hz0
  have Q1 := Aside0.mk hz1
  have Q2 := Aside0.mk hz2
  clear hwz hz0 hz1 hz2 hzB
  refine (impl_Table_wellFormed.calls 3000000 A1 d1 P A2 d2 S (tabOk P S) wz (Kd.C_below H1.out HB.out) HC1.out (Kd.C_below H2.out HB.out) HC2.out (wfT_f (by omega) (by omega) (by omega))).mono ?_
  rintro e w3 ⟨rfl, hB3⟩
  have HB3 := Aside0.mk (below_then HB.out HB.out.size hB3)
  have R0 := Aside0.mk (blk_below Q0.out hB3)
  have R1 := Aside0.mk (blk_below Q1.out hB3)
  have R2 := Aside0.mk (blk_below Q2.out hB3)
  clear hB3 HB Q0 Q1 Q2
  cases hok : tabOk P S with
  | false =>
    have HF : Aside0 (cmdF P S c0 c1 c2 key val old = (9, 0, ⟨#[]⟩, [], [])) := ⟨by unfold cmdF; rw [if_neg (by rw [hok]; decide)]⟩
    clear hok
    obtain ⟨z0, z1, z2, z3, z4⟩ := cells5 R2.out
    obtain ⟨f0, f1, f2, f3, f4⟩ := frozen5 R2.out
    go_wp2_with fail
    have x4 := put5_blk (u0 := .int .i64 9) (u1 := .int .i64 0) (u2 := .string ⟨#[]⟩) (u3 := .slice none 0 0) (u4 := .slice none 0 0) R2.out
    refine bodyPost_ret (v := .agg #[.int .i64 9, .int .i64 0, .string ⟨#[]⟩, .slice none 0 0, .slice none 0 0]) (results_single rfl (Vals.cell (w.heap.size + 2) 58 _ (0, 0) _ rfl x4 Try.underlying58 rfl (by kernel_rfl) Vals.nil)) rfl ?_
    rw [HF.out]
    exact ⟨none, 0, none, 0, rfl, held_none _ _ _, below_put5 HB3.out (by omega)⟩
  | true =>
    have HTK := Aside0.mk (tok_of hok)
    have HOK := Aside0.mk hok
    clear hok
    obtain ⟨a0, a1⟩ := cells2 R0.out
    go_wp2_with fail
    refine (newTables.calls A1 d1 P A2 d2 S w3 (Kd.C_below H1.out HB3.out) HC1.out (Kd.C_below H2.out HB3.out) HC2.out (by have := HTK.out.l; omega) (by have := few HTK.out.s; omega) HTK.out.p HTK.out.s (fun p hp => by have := HTK.out.k p hp; omega)).mono ?_
    rintro e w4 ⟨g, bp, bs, rfl, hT4, hB4⟩
    have hB5 := below_alloc hB4 (.cells #[.int .i64 8, .int .i64 0, .string ⟨#[]⟩, .slice none 0 0, .slice none 0 0] 58)
    have HB35 := Aside0.mk hB5
    have HT5 := Aside0.mk (hT4.below (below_alloc (Below.refl w4.heap.size w4) (.cells #[.int .i64 8, .int .i64 0, .string ⟨#[]⟩, .slice none 0 0, .slice none 0 0] 58)))
    have R1' := Aside0.mk (blk_below R1.out hB5)
    have R2' := Aside0.mk (blk_below R2.out hB5)
    have hn5 := blk_new w4 (.cells #[.int .i64 8, .int .i64 0, .string ⟨#[]⟩, .slice none 0 0, .slice none 0 0] 58)
    have HX5 := Aside0.mk hn5
    have hg4 := blk_lt hT4.cells
    have hp4 := hT4.pairs.lt
    have hs4 := hT4.sess.lt
    have hz34 := hB4.size
    obtain ⟨y0, y1, y2, y3, y4, y5⟩ := cells6 R1'.out
    obtain ⟨z0, z1, z2, z3, z4⟩ := cells5 hn5
    obtain ⟨f0, f1, f2, f3, f4⟩ := frozen5 hn5
    clear hT4 hB4 hB5 a0 a1 R0 R1 hn5
    go_wp2_with fail
    obtain ⟨w5, hw5⟩ : ∃ w5, w5 = w4.alloc (.cells #[.int .i64 8, .int .i64 0, .string ⟨#[]⟩, .slice none 0 0, .slice none 0 0] 58) := ⟨_, rfl⟩
    rw [← hw5] at HB35 HT5 R1' R2' HX5 ⊢
    clear hw5 y0 y1 y2 y3 y4 y5 z0 z1 z2 z3 z4 f0 f1 f2 f3 f4
    refine (impl_CmdFault.calls 9 c0 c1 c2 key val old _ w5 (impl_CmdFault_f (by omega) _ _ _ _ _ _)).mono ?_
    rintro e w6 ⟨rfl, hB6⟩
    have HB36 := Aside0.mk (below_then HB35.out HB35.out.size hB6)
    have HT6 := Aside0.mk (HT5.out.below hB6)
    have S1 := Aside0.mk (blk_below R1'.out hB6)
    have S2 := Aside0.mk (blk_below R2'.out hB6)
    have SX := Aside0.mk (blk_below HX5.out hB6)
    clear hB6 HB35 HT5 R1' R2' HX5
    obtain ⟨n, hn⟩ : ∃ n, n = faultC c0 c1 c2 key val old := ⟨_, rfl⟩
    rw [← hn]
    by_cases hz : n = 0
    · have hfz : faultC c0 c1 c2 key val old = 0 := by rw [← hn]; exact hz
      have HF : Aside0 (cmdF P S c0 c1 c2 key val old = applyF P S c0 c1 c2 key val old) := ⟨by unfold cmdF; rw [if_pos HOK.out, if_pos hfz]⟩
      have HFZ := Aside0.mk (fault_zero hfz)
      have HAP := Aside0.mk (apply_ok HTK.out hfz)
      subst hz
      clear hn hfz
      obtain ⟨y0, y1, y2, y3, y4, y5⟩ := cells6 S1.out
      go_wp2_with fail
      refine (carry.keeps w3 w6 g bp P.length P bs S.length S c0 c1 c2 key val old HB36.out HT6.out HTK.out.p HTK.out.s HTK.out.l (by have := HTK.out.l; omega) (by have := few HTK.out.s; omega) HFZ.out.1 (by have := HFZ.out.2.1; omega) (by have := HFZ.out.2.2.1; omega)).mono ?_
      rintro e w7 ⟨rfl, hT7, hB7, hK7⟩
      obtain ⟨F, hFe⟩ : ∃ F, F = applyF P S c0 c1 c2 key val old := ⟨_, rfl⟩
      rw [← hFe] at hT7 HF HAP ⊢
      have hx7 := blk_kept SX.out hK7 (by omega)
      have h27 := (hB7.block (w.heap.size + 2) (blk_lt R2.out)).trans R2.out
      have HX7 := Aside0.mk hx7
      have HT7 := Aside0.mk hT7
      have HB7 := Aside0.mk hB7
      clear hFe hT7 hB7 hK7 y0 y1 y2 y3 y4 y5
      obtain ⟨z0, z1, z2, z3, z4⟩ := cells5 hx7
      obtain ⟨f0, f1, f2, f3, f4⟩ := frozen5 hx7
      clear hx7
      go_wp2_with fail
      obtain ⟨wt, hwt⟩ : ∃ wt, wt = (((w7.setCell ⟨w4.heap.size, 0, none⟩ (.int .i64 F.1)).setCell ⟨w4.heap.size, 1, none⟩ (.int .i64 F.2.1)).setCell ⟨w4.heap.size, 2, none⟩ (.string F.2.2.1)) := ⟨_, rfl⟩
      have hg1 : ∀ k, some w4.heap.size = some k → k ≠ g ∧ k ≠ bp ∧ k ≠ bs := fun k hk => by injection hk with hk; omega
      have HTt := Aside0.mk (((HT7.out.step (grown_set w7 w4.heap.size 0 (.int .i64 F.1)) hg1).step (grown_set _ w4.heap.size 1 (.int .i64 F.2.1)) hg1).step (grown_set _ w4.heap.size 2 (.string F.2.2.1)) hg1)
      have HXt := Aside0.mk (put3_blk (u0 := .int .i64 F.1) (u1 := .int .i64 F.2.1) (u2 := .string F.2.2.1) HX7.out)
      have hBt := below_set (j := 2) (v := .string F.2.2.1) (below_set (j := 1) (v := .int .i64 F.2.1) (below_set (j := 0) (v := .int .i64 F.1) HB7.out (show w3.heap.size ≤ w4.heap.size by omega)) (show w3.heap.size ≤ w4.heap.size by omega)) (show w3.heap.size ≤ w4.heap.size by omega)
      have H4t := Aside0.mk ((hBt.block (w.heap.size + 2) (blk_lt R2.out)).trans R2.out)
      have HBt := Aside0.mk (below_then HB3.out HB3.out.size hBt)
      rw [← hwt] at HTt HXt H4t HBt ⊢
      have hlt2 := blk_lt R2.out
      clear hwt hBt HT7 HX7 HB7 z0 z1 z2 z3 z4 f0 f1 f2 f3 f4 hg1
      refine (tell.calls w3 wt g bp (P.length + 1) F.2.2.2.1 bs (S.length + 1) F.2.2.2.2 HTt.out HAP.out.p HAP.out.s (by have := HAP.out.l; omega) (by have := few HAP.out.s; omega) (by omega) (fun q hq => by have := (HAP.out.k q hq).1; omega)).mono ?_
      rintro e w8 ⟨B1, e1, B2, e2, rfl, hH, hB8⟩
      obtain ⟨n1, hn1⟩ : ∃ m, m = F.2.2.2.1.length := ⟨_, rfl⟩
      obtain ⟨n2, hn2⟩ : ∃ m, m = F.2.2.2.2.length := ⟨_, rfl⟩
      rw [← hn1, ← hn2]
      have HN1 := Aside0.mk hn1
      have HN2 := Aside0.mk hn2
      have HH := Aside0.mk (hH.lower HBt.out.size)
      have hx8 := blk_below HXt.out hB8
      have h48 := blk_below H4t.out hB8
      have HX8 := Aside0.mk hx8
      have H48 := Aside0.mk h48
      have HB8 := Aside0.mk (below_then HBt.out HBt.out.size hB8)
      clear hn1 hn2 hH hB8
      obtain ⟨z0, z1, z2, z3, z4⟩ := cells5 hx8
      obtain ⟨f0, f1, f2, f3, f4⟩ := frozen5 hx8
      obtain ⟨v0, v1, v2, v3, v4⟩ := cells5 h48
      obtain ⟨g0, g1, g2, g3, g4⟩ := frozen5 h48
      have hne : w4.heap.size ≠ w.heap.size + 2 := by omega
      have hne' : w.heap.size + 2 ≠ w4.heap.size := by omega
      clear hx8 h48
      go_wp2_with fail
      have k1 := blk_put HX8.out 3 (.slice B1 n1 e1) (cs' := #[.int .i64 F.1, .int .i64 F.2.1, .string F.2.2.1, .slice B1 n1 e1, .slice none 0 0]) (by simp)
      have k2 := blk_far (blk_far H48.out (p := ⟨w4.heap.size, 3, none⟩) hne' (.slice B1 n1 e1)) (p := ⟨w4.heap.size, 4, none⟩) hne' (.slice B2 n2 e2)
      have x4 := put5_blk (u0 := .int .i64 F.1) (u1 := .int .i64 F.2.1) (u2 := .string F.2.2.1) (u3 := .slice B1 n1 e1) (u4 := .slice B2 n2 e2) k2
      refine bodyPost_ret (v := .agg #[.int .i64 F.1, .int .i64 F.2.1, .string F.2.2.1, .slice B1 n1 e1, .slice B2 n2 e2]) (results_single rfl (Vals.cell (w.heap.size + 2) 58 _ (0, 0) _ rfl x4 Try.underlying58 rfl (by kernel_rfl) Vals.nil)) rfl ?_
      rw [HF.out]
      refine ⟨B1, e1, B2, e2, by rw [HN1.out, HN2.out], HeldT.put5 _ _ _ _ _ ?_ k2, below_put5 (below_set (below_set HB8.out (by omega)) (by omega)) (by omega)⟩
      exact HeldT.mk (Kd.R_set (Kd.R_set HH.out.p HX8.out (by decide) 3 _) k1 (by decide) 4 _) (Kd.R_set (Kd.R_set HH.out.s HX8.out (by decide) 3 _) k1 (by decide) 4 _)
    · have HF : Aside0 (cmdF P S c0 c1 c2 key val old = (8, 0, ⟨#[]⟩, P, S)) := ⟨by unfold cmdF; rw [if_pos HOK.out, if_neg (by rw [← hn]; exact hz)]⟩
      have hne : (n == 0) = false := beq_eq_false_iff_ne.2 hz
      clear hn hz
      go_wp2_with fail
      have HTt := HT6
      have HXt := SX
      have H4t := S2
      have HBt := Aside0.mk (below_then HB3.out HB3.out.size HB36.out)
      have hlt2 := blk_lt R2.out
      clear hne HT6 SX S2 HB36
      refine (tell.calls w3 w6 g bp P.length P bs S.length S HTt.out HTK.out.p HTK.out.s (by have := HTK.out.l; omega) (by have := few HTK.out.s; omega) (by omega) (fun q hq => by have := (HTK.out.k q hq).1; omega)).mono ?_
      rintro e w8 ⟨B1, e1, B2, e2, rfl, hH, hB8⟩
      obtain ⟨n1, hn1⟩ : ∃ m, m = P.length := ⟨_, rfl⟩
      obtain ⟨n2, hn2⟩ : ∃ m, m = S.length := ⟨_, rfl⟩
      rw [← hn1, ← hn2]
      have HN1 := Aside0.mk hn1
      have HN2 := Aside0.mk hn2
      have HH := Aside0.mk (hH.lower HBt.out.size)
      have hx8 := blk_below HXt.out hB8
      have h48 := blk_below H4t.out hB8
      have HX8 := Aside0.mk hx8
      have H48 := Aside0.mk h48
      have HB8 := Aside0.mk (below_then HBt.out HBt.out.size hB8)
      clear hn1 hn2 hH hB8
      obtain ⟨z0, z1, z2, z3, z4⟩ := cells5 hx8
      obtain ⟨f0, f1, f2, f3, f4⟩ := frozen5 hx8
      obtain ⟨v0, v1, v2, v3, v4⟩ := cells5 h48
      obtain ⟨g0, g1, g2, g3, g4⟩ := frozen5 h48
      have hne : w4.heap.size ≠ w.heap.size + 2 := by omega
      have hne' : w.heap.size + 2 ≠ w4.heap.size := by omega
      clear hx8 h48
      go_wp2_with fail
      have k1 := blk_put HX8.out 3 (.slice B1 n1 e1) (cs' := #[.int .i64 8, .int .i64 0, .string ⟨#[]⟩, .slice B1 n1 e1, .slice none 0 0]) (by simp)
      have k2 := blk_far (blk_far H48.out (p := ⟨w4.heap.size, 3, none⟩) hne' (.slice B1 n1 e1)) (p := ⟨w4.heap.size, 4, none⟩) hne' (.slice B2 n2 e2)
      have x4 := put5_blk (u0 := .int .i64 8) (u1 := .int .i64 0) (u2 := .string ⟨#[]⟩) (u3 := .slice B1 n1 e1) (u4 := .slice B2 n2 e2) k2
      refine bodyPost_ret (v := .agg #[.int .i64 8, .int .i64 0, .string ⟨#[]⟩, .slice B1 n1 e1, .slice B2 n2 e2]) (results_single rfl (Vals.cell (w.heap.size + 2) 58 _ (0, 0) _ rfl x4 Try.underlying58 rfl (by kernel_rfl) Vals.nil)) rfl ?_
      rw [HF.out]
      refine ⟨B1, e1, B2, e2, by rw [HN1.out, HN2.out], HeldT.put5 _ _ _ _ _ ?_ k2, below_put5 (below_set (below_set HB8.out (by omega)) (by omega)) (by omega)⟩
      exact HeldT.mk (Kd.R_set (Kd.R_set HH.out.p HX8.out (by decide) 3 _) k1 (by decide) 4 _) (Kd.R_set (Kd.R_set HH.out.s HX8.out (by decide) 3 _) k1 (by decide) 4 _)
end Go.Proofs.Ytppegigcclflbaa.PFnExactApplyCmd
