/- What spec.l5apply answers. -/
import Derived.Test.YtppegigcclflbaaTFun
namespace Go.Proofs.Ytppegigcclflbaa.PFnExactApplyCmd
open Go.RowKit Go.Proofs.YtppegigcclflbaaW.PrintWords Go.Proofs.YtppegigcclflbaaW.PrintLast Go.Proofs.YtppegigcclflbaaW.PrintMore
open Go.Proofs.Ytppegigcclflbaa.PStr

/-- A table's two rows, held. -/
structure HeldT (W : World) (base : Nat) (ok : Nat → Prop) (A1 : Option Addr) (c1 : Nat) (P : List S157) (A2 : Option Addr) (c2 : Nat) (S : List S146) : Prop where
  p : Kd.R k157 157 W base ok (.slice A1 P.length c1) P
  s : Kd.R k146 146 W base ok (.slice A2 S.length c2) S
section
variable {W W' : World} {base : Nat} {ok ok' : Nat → Prop} {A1 A2 : Option Addr} {c1 c2 : Nat} {P : List S157} {S : List S146}
theorem HeldT.below (h : HeldT W base ok A1 c1 P A2 c2 S) (hb : Below W.heap.size W W') : HeldT W' base ok A1 c1 P A2 c2 S := ⟨Kd.R_below h.p hb, Kd.R_below h.s hb⟩
theorem HeldT.mono (h : HeldT W base ok A1 c1 P A2 c2 S) (hk : ∀ k, ok k → ok' k) : HeldT W base ok' A1 c1 P A2 c2 S := ⟨Kd.R_mono h.p hk, Kd.R_mono h.s hk⟩
theorem HeldT.bound (h : HeldT W base ok A1 c1 P A2 c2 S) : HeldT W base (fun k => base ≤ k ∧ k < W.heap.size) A1 c1 P A2 c2 S :=
  ⟨Kd.R_mono (Kd.R_bound h.p) (fun _ hk => ⟨hk.2.1, hk.2.2.1⟩), Kd.R_mono (Kd.R_bound h.s) (fun _ hk => ⟨hk.2.1, hk.2.2.1⟩)⟩
theorem HeldT.kept {S' : Nat → Prop} (h : HeldT W base ok A1 c1 P A2 c2 S) (hk : Kept W W' S') (hn : ∀ k, ok k → ¬ S' k) : HeldT W' base ok A1 c1 P A2 c2 S :=
  ⟨Kd.R_step h.p (fun k ho hl => hk.2 k hl (hn k ho)), Kd.R_step h.s (fun k ho hl => hk.2 k hl (hn k ho))⟩
theorem HeldT.lower {b : Nat} (h : HeldT W base ok A1 c1 P A2 c2 S) (hb : b ≤ base) : HeldT W b ok A1 c1 P A2 c2 S := ⟨Kd.R_lower h.p hb, Kd.R_lower h.s hb⟩
theorem HeldT.cp (h : HeldT W base ok A1 c1 P A2 c2 S) : k157.C W A1 P.length P := (Kd.R_reads' h.p).2.2
theorem HeldT.cs (h : HeldT W base ok A1 c1 P A2 c2 S) : k146.C W A2 S.length S := (Kd.R_reads' h.s).2.2
theorem HeldT.lp (h : HeldT W base ok A1 c1 P A2 c2 S) : P.length ≤ c1 := (Kd.R_reads' h.p).2.1
theorem HeldT.ls (h : HeldT W base ok A1 c1 P A2 c2 S) : S.length ≤ c2 := (Kd.R_reads' h.s).2.1
end
theorem cells2 {w : World} {b t : Nat} {u0 u1 : Value} (h : w.heap[b]? = some (.cells #[u0, u1] t (0, 0))) : w.cell? ⟨b, 0, none⟩ = some u0 ∧ w.cell? ⟨b, 1, none⟩ = some u1 :=
  ⟨(blk_cell h 0).trans rfl, (blk_cell h 1).trans rfl⟩
theorem cells6 {w : World} {b t : Nat} {u0 u1 u2 u3 u4 u5 : Value} (h : w.heap[b]? = some (.cells #[u0, u1, u2, u3, u4, u5] t (0, 0))) :
    w.cell? ⟨b, 0, none⟩ = some u0 ∧ w.cell? ⟨b, 1, none⟩ = some u1 ∧ w.cell? ⟨b, 2, none⟩ = some u2 ∧ w.cell? ⟨b, 3, none⟩ = some u3 ∧ w.cell? ⟨b, 4, none⟩ = some u4 ∧ w.cell? ⟨b, 5, none⟩ = some u5 :=
  ⟨(blk_cell h 0).trans rfl, (blk_cell h 1).trans rfl, (blk_cell h 2).trans rfl, (blk_cell h 3).trans rfl, (blk_cell h 4).trans rfl, (blk_cell h 5).trans rfl⟩
theorem cells5 {w : World} {b t : Nat} {u0 u1 u2 u3 u4 : Value} (h : w.heap[b]? = some (.cells #[u0, u1, u2, u3, u4] t (0, 0))) :
    w.cell? ⟨b, 0, none⟩ = some u0 ∧ w.cell? ⟨b, 1, none⟩ = some u1 ∧ w.cell? ⟨b, 2, none⟩ = some u2 ∧ w.cell? ⟨b, 3, none⟩ = some u3 ∧ w.cell? ⟨b, 4, none⟩ = some u4 :=
  ⟨(blk_cell h 0).trans rfl, (blk_cell h 1).trans rfl, (blk_cell h 2).trans rfl, (blk_cell h 3).trans rfl, (blk_cell h 4).trans rfl⟩

def put5 (w : World) (n : Nat) (u0 u1 u2 u3 u4 : Value) : World := ((((w.setCell ⟨n, 0, none⟩ u0).setCell ⟨n, 1, none⟩ u1).setCell ⟨n, 2, none⟩ u2).setCell ⟨n, 3, none⟩ u3).setCell ⟨n, 4, none⟩ u4
theorem put5_blk {w : World} {n t : Nat} {a0 a1 a2 a3 a4 u0 u1 u2 u3 u4 : Value} (h : w.heap[n]? = some (.cells #[a0, a1, a2, a3, a4] t (0, 0))) : (put5 w n u0 u1 u2 u3 u4).heap[n]? = some (.cells #[u0, u1, u2, u3, u4] t (0, 0)) := by
  have x1 := blk_put h 0 u0 (cs' := #[u0, a1, a2, a3, a4]) (by simp)
  have x2 := blk_put x1 1 u1 (cs' := #[u0, u1, a2, a3, a4]) (by simp)
  have x3 := blk_put x2 2 u2 (cs' := #[u0, u1, u2, a3, a4]) (by simp)
  have x4 := blk_put x3 3 u3 (cs' := #[u0, u1, u2, u3, a4]) (by simp)
  exact blk_put x4 4 u4 (cs' := #[u0, u1, u2, u3, u4]) (by simp)
theorem HeldT.put5 {w : World} {n base c1 c2 : Nat} {ok : Nat → Prop} {A1 A2 : Option Addr} {P : List S157} {S : List S146} {a0 a1 a2 a3 a4 : Value} (u0 u1 u2 u3 u4 : Value) (hh : HeldT w base ok A1 c1 P A2 c2 S) (h : w.heap[n]? = some (.cells #[a0, a1, a2, a3, a4] 58 (0, 0))) :
    HeldT (put5 w n u0 u1 u2 u3 u4) base ok A1 c1 P A2 c2 S := by
  have x1 := blk_put h 0 u0 (cs' := #[u0, a1, a2, a3, a4]) (by simp)
  have x2 := blk_put x1 1 u1 (cs' := #[u0, u1, a2, a3, a4]) (by simp)
  have x3 := blk_put x2 2 u2 (cs' := #[u0, u1, u2, a3, a4]) (by simp)
  have x4 := blk_put x3 3 u3 (cs' := #[u0, u1, u2, u3, a4]) (by simp)
  exact ⟨Kd.R_set (Kd.R_set (Kd.R_set (Kd.R_set (Kd.R_set hh.p h (by decide) 0 _) x1 (by decide) 1 _) x2 (by decide) 2 _) x3 (by decide) 3 _) x4 (by decide) 4 _,
    Kd.R_set (Kd.R_set (Kd.R_set (Kd.R_set (Kd.R_set hh.s h (by decide) 0 _) x1 (by decide) 1 _) x2 (by decide) 2 _) x3 (by decide) 3 _) x4 (by decide) 4 _⟩
theorem below_put5 {n : Nat} {w w' : World} {u0 u1 u2 u3 u4 : Value} (h : Below w.heap.size w w') (hb : w.heap.size ≤ n) : Below w.heap.size w (PFnExactApplyCmd.put5 w' n u0 u1 u2 u3 u4) := below_set (below_set (below_set (below_set (below_set h hb) hb) hb) hb) hb
theorem frozen5 {w : World} {b t : Nat} {u0 u1 u2 u3 u4 : Value} (h : w.heap[b]? = some (.cells #[u0, u1, u2, u3, u4] t (0, 0))) :
    w.frozen? ⟨b, 0, none⟩ = false ∧ w.frozen? ⟨b, 1, none⟩ = false ∧ w.frozen? ⟨b, 2, none⟩ = false ∧ w.frozen? ⟨b, 3, none⟩ = false ∧ w.frozen? ⟨b, 4, none⟩ = false :=
  ⟨blk_frozen h 0, blk_frozen h 1, blk_frozen h 2, blk_frozen h 3, blk_frozen h 4⟩

theorem copyT (A1 : Option Addr) (d1 : Nat) (P : List S157) (A2 : Option Addr) (d2 : Nat) (S : List S146) (w : World) (hr1 : Kd.C k157 w A1 P.length P) (hc1 : P.length ≤ d1) (hr2 : Kd.C k146 w A2 S.length S) (hc2 : S.length ≤ d2) (hp : P.length ≤ 1000000) (hs : S.length ≤ 1000000) :
    Calls Try.prog 78 #[.agg #[.slice A1 P.length d1, .slice A2 S.length d2]] w fun e w' => ∃ B1 e1 B2 e2, e = .returned (.agg #[.slice B1 P.length e1, .slice B2 S.length e2]) ∧ HeldT w' w.heap.size (fun _ => True) B1 e1 P B2 e2 S ∧ Below w.heap.size w w' := by
  refine (spec_l5copy.calls 10000000 A1 d1 P A2 d2 S P S w hr1 hc1 hr2 hc2 (copy_f (by omega) (by omega) (by omega))).mono ?_
  rintro e w' ⟨v0, v1, rfl, hR1, hR2, hB⟩
  obtain ⟨B1, e1, rfl⟩ := Kd.R_slice hR1
  obtain ⟨B2, e2, rfl⟩ := Kd.R_slice hR2
  exact ⟨B1, e1, B2, e2, rfl, ⟨hR1, hR2⟩, hB⟩
theorem below_of_drew {w w1 : World} (h : Below w.drew.heap.size w.drew w1) : Below w.heap.size w w1 := ⟨h.os, h.tape, h.output, h.size, h.block⟩
/-- What a change of the pairs answers: the result, the value, the pairs. -/
def changeF (P : List S157) (op : Int) (key val old : ByteArray) : Int × ByteArray × List S157 :=
  match lookP P key.toList with
  | none => if op = 2 then (if P.length < 256 then (1, ⟨#[]⟩, withP P key true val) else (4, ⟨#[]⟩, P)) else (2, ⟨#[]⟩, P)
  | some v => if op = 1 then (1, v, P) else if op = 2 then (1, ⟨#[]⟩, withP P key true val) else if op = 3 then (1, v, withP P key false val)
    else if v.toList = old.toList then (1, ⟨#[]⟩, withP P key true val) else (3, v, P)
/-- What a command answers: code, result, value, pairs, sessions. -/
def applyF (P : List S157) (S : List S146) (c0 c1 c2 : Int) (key val old : ByteArray) : Int × Int × ByteArray × List S157 × List S146 :=
  if c2 = 0 then (1, 0, ⟨#[]⟩, P, S)
  else if ((lookS S c0).getD z146).f1 > c1 then (3, 0, ⟨#[]⟩, P, S)
  else if ((lookS S c0).getD z146).f1 = c1 then (2, ((lookS S c0).getD z146).f2, ((lookS S c0).getD z146).f3, P, S)
  else (0, (changeF P c2 key val old).1, (changeF P c2 key val old).2.1, (changeF P c2 key val old).2.2, withS S ⟨c0, c1, (changeF P c2 key val old).1, (changeF P c2 key val old).2.1⟩)

set_option maxHeartbeats 6400000 in
set_option maxRecDepth 100000 in
theorem l5apply.calls (A1 : Option Addr) (d1 : Nat) (P : List S157) (A2 : Option Addr) (d2 : Nat) (S : List S146) (c0 c1 c2 : Int) (key val old : ByteArray) (w : World)
    (hr1 : Kd.C k157 w A1 P.length P) (hc1 : P.length ≤ d1) (hr2 : Kd.C k146 w A2 S.length S) (hc2 : S.length ≤ d2) (hp : P.length ≤ 1000000) (hs : S.length ≤ 1000000) :
    Calls Try.prog 60 #[.agg #[.slice A1 P.length d1, .slice A2 S.length d2], .agg #[.int .i64 c0, .int .i64 c1, .int .i64 c2, .string key, .string val, .string old]] w fun e w' => ∃ B1 e1 B2 e2,
      e = .returned (.agg #[.int .i64 (applyF P S c0 c1 c2 key val old).1, .int .i64 (applyF P S c0 c1 c2 key val old).2.1, .string (applyF P S c0 c1 c2 key val old).2.2.1, .slice B1 (applyF P S c0 c1 c2 key val old).2.2.2.1.length e1, .slice B2 (applyF P S c0 c1 c2 key val old).2.2.2.2.length e2]) ∧
      HeldT w' w.heap.size (fun _ => True) B1 e1 (applyF P S c0 c1 c2 key val old).2.2.2.1 B2 e2 (applyF P S c0 c1 c2 key val old).2.2.2.2 ∧ Below w.heap.size w w' := by
  obtain ⟨F, hF⟩ : ∃ F, F = applyF P S c0 c1 c2 key val old := ⟨_, rfl⟩
  rw [← hF]
  have HF := Aside0.mk hF
  have H1 := Aside0.mk hr1
  have H2 := Aside0.mk hr2
  have HC1 := Aside0.mk hc1
  have HC2 := Aside0.mk hc2
  clear hF hr1 hr2 hc1 hc2
  go_enter Try.func60, Try.ntmps60
  have hgen : ∀ wz : World, wz = (((w.alloc (.cells #[.slice A1 P.length d1, .slice A2 S.length d2] 40)).alloc (.cells #[.int .i64 c0, .int .i64 c1, .int .i64 c2, .string key, .string val, .string old] 61)).alloc (.cells #[.int .i64 0, .int .i64 0, .string ⟨#[]⟩, .slice none 0 0, .slice none 0 0] 58)) →
      wz.heap[w.heap.size]? = some (.cells #[.slice A1 P.length d1, .slice A2 S.length d2] 40 (0, 0)) ∧ wz.heap[w.heap.size + 1]? = some (.cells #[.int .i64 c0, .int .i64 c1, .int .i64 c2, .string key, .string val, .string old] 61 (0, 0)) ∧
      wz.heap[w.heap.size + 1 + 1]? = some (.cells #[.int .i64 0, .int .i64 0, .string ⟨#[]⟩, .slice none 0 0, .slice none 0 0] 58 (0, 0)) ∧ Below w.heap.size w wz ∧ wz.heap.size = w.heap.size + 3 := by
    intro wz hwz
    refine ⟨?_, ?_, ?_, ?_, ?_⟩
    · rw [hwz]; exact blk_alloc (blk_alloc (blk_new _ _) _) _
    · rw [hwz]
      have := blk_new (w.alloc (.cells #[.slice A1 P.length d1, .slice A2 S.length d2] 40)) (.cells #[.int .i64 c0, .int .i64 c1, .int .i64 c2, .string key, .string val, .string old] 61)
      exact blk_alloc (by simpa using this) _
    · rw [hwz]
      have := blk_new ((w.alloc (.cells #[.slice A1 P.length d1, .slice A2 S.length d2] 40)).alloc (.cells #[.int .i64 c0, .int .i64 c1, .int .i64 c2, .string key, .string val, .string old] 61)) (.cells #[.int .i64 0, .int .i64 0, .string ⟨#[]⟩, .slice none 0 0, .slice none 0 0] 58)
      simpa using this
    · rw [hwz]; exact below_alloc (below_alloc (below_alloc (Below.refl _ _) _) _) _
    · rw [hwz]; simp
  by_cases h0 : c2 = 0
  · subst h0
    go_wp2_with fail
    obtain ⟨wz, hwz⟩ : ∃ wz, wz = (((w.alloc (.cells #[.slice A1 P.length d1, .slice A2 S.length d2] 40)).alloc (.cells #[.int .i64 c0, .int .i64 c1, .int .i64 0, .string key, .string val, .string old] 61)).alloc (.cells #[.int .i64 0, .int .i64 0, .string ⟨#[]⟩, .slice none 0 0, .slice none 0 0] 58)) := ⟨_, rfl⟩
    obtain ⟨b0, b1, b2, hB, hsz⟩ := hgen wz hwz
    rw [← hwz]
    clear hwz hgen
    refine (spec_l5copy.calls 10000000 A1 d1 P A2 d2 S P S wz (Kd.C_below H1.out hB) HC1.out (Kd.C_below H2.out hB) HC2.out (copy_f (by omega) (by omega) (by omega))).mono ?_
    rintro e w3 ⟨v0, v1, rfl, hR1, hR2, hB3⟩
    obtain ⟨B1, e1, hv⟩ := Kd.R_slice hR1
    subst hv
    obtain ⟨B2, e2, hv⟩ := Kd.R_slice hR2
    subst hv
    have q := blk_below b2 hB3
    obtain ⟨z0, z1, z2, z3, z4⟩ := cells5 q
    obtain ⟨f0, f1, f2, f3, f4⟩ := frozen5 q
    have HH3 := Aside0.mk ((HeldT.mk hR1 hR2).lower hB.size)
    have HB3 := Aside0.mk (below_then hB hB.size hB3)
    have Q := Aside0.mk q
    clear hR1 hR2 hB3 hB b0 b1 b2 q
    go_wp2_with fail
    have x4 := put5_blk (u0 := .int .i64 1) (u1 := .int .i64 0) (u2 := .string ⟨#[]⟩) (u3 := .slice B1 P.length e1) (u4 := .slice B2 S.length e2) Q.out
    refine bodyPost_ret (v := .agg #[.int .i64 1, .int .i64 0, .string ⟨#[]⟩, .slice B1 P.length e1, .slice B2 S.length e2]) (results_single rfl (Vals.cell (w.heap.size + 1 + 1) 58 _ (0, 0) _ rfl x4 Try.underlying58 rfl (by kernel_rfl) Vals.nil)) rfl ?_
    have hF : F = (1, 0, ⟨#[]⟩, P, S) := by
      rw [HF.out]
      unfold applyF
      rw [if_pos rfl]
    rw [hF]
    exact ⟨B1, e1, B2, e2, rfl, HH3.out.put5 _ _ _ _ _ Q.out, below_put5 HB3.out (by omega)⟩
  · go_wp2_with fail
    obtain ⟨wz, hwz⟩ : ∃ wz, wz = (((w.alloc (.cells #[.slice A1 P.length d1, .slice A2 S.length d2] 40)).alloc (.cells #[.int .i64 c0, .int .i64 c1, .int .i64 c2, .string key, .string val, .string old] 61)).alloc (.cells #[.int .i64 0, .int .i64 0, .string ⟨#[]⟩, .slice none 0 0, .slice none 0 0] 58)) := ⟨_, rfl⟩
    obtain ⟨b0, b1, b2, hB, hsz⟩ := hgen wz hwz
    rw [← hwz]
    clear hwz hgen
    refine (spec_l5session.calls 10000000 A1 d1 P A2 d2 S c0 _ _ _ _ wz (Kd.C_below H1.out hB) HC1.out (Kd.C_below H2.out hB) HC2.out (session_f (by omega) (by omega))).mono ?_
    rintro e w3 ⟨rfl, hB3⟩
    obtain ⟨X, hX⟩ : ∃ X, X = (lookS S c0).getD z146 := ⟨_, rfl⟩
    rw [← hX]
    have HX := Aside0.mk hX
    have q0 := blk_alloc (blk_below b0 hB3) (.cells #[.int .i64 X.f0, .int .i64 X.f1, .int .i64 X.f2, .string X.f3] 146)
    have q1 := blk_alloc (blk_below b1 hB3) (.cells #[.int .i64 X.f0, .int .i64 X.f1, .int .i64 X.f2, .string X.f3] 146)
    have q2 := blk_alloc (blk_below b2 hB3) (.cells #[.int .i64 X.f0, .int .i64 X.f1, .int .i64 X.f2, .string X.f3] 146)
    have hB4 := below_alloc (below_then hB hB.size hB3) (.cells #[.int .i64 X.f0, .int .i64 X.f1, .int .i64 X.f2, .string X.f3] 146)
    have hs3 := hB3.size
    have HB4 := Aside0.mk hB4
    have Q0 := Aside0.mk q0
    have Q1 := Aside0.mk q1
    have Q2 := Aside0.mk q2
    obtain ⟨t0, t1⟩ := cells2 q0
    obtain ⟨y0, y1, y2, y3, y4, y5⟩ := cells6 q1
    clear hX b0 b1 b2 q0 q1 q2 hB hB3 hB4
    by_cases h3 : X.f1 > c1
    · go_wp2_with fail
      refine (spec_l5copy.calls 10000000 A1 d1 P A2 d2 S P S _ (Kd.C_below H1.out HB4.out) HC1.out (Kd.C_below H2.out HB4.out) HC2.out (copy_f (by omega) (by omega) (by omega))).mono ?_
      rintro e w5 ⟨v0, v1, rfl, hR1, hR2, hB5⟩
      obtain ⟨B1, e1, hv⟩ := Kd.R_slice hR1
      subst hv
      obtain ⟨B2, e2, hv⟩ := Kd.R_slice hR2
      subst hv
      have q := blk_below Q2.out hB5
      obtain ⟨z0, z1, z2, z3, z4⟩ := cells5 q
      obtain ⟨f0, f1, f2, f3, f4⟩ := frozen5 q
      have HH3 := Aside0.mk ((HeldT.mk hR1 hR2).lower HB4.out.size)
      have HB3 := Aside0.mk (below_then HB4.out HB4.out.size hB5)
      have Q := Aside0.mk q
      clear hR1 hR2 hB5 q
      go_wp2_with fail
      have x4 := put5_blk (u0 := .int .i64 3) (u1 := .int .i64 0) (u2 := .string ⟨#[]⟩) (u3 := .slice B1 P.length e1) (u4 := .slice B2 S.length e2) Q.out
      refine bodyPost_ret (v := .agg #[.int .i64 3, .int .i64 0, .string ⟨#[]⟩, .slice B1 P.length e1, .slice B2 S.length e2]) (results_single rfl (Vals.cell (w.heap.size + 1 + 1) 58 _ (0, 0) _ rfl x4 Try.underlying58 rfl (by kernel_rfl) Vals.nil)) rfl ?_
      have hF : F = (3, 0, ⟨#[]⟩, P, S) := by
        rw [HF.out]
        unfold applyF
        rw [if_neg h0, ← HX.out, if_pos h3]
      rw [hF]
      exact ⟨B1, e1, B2, e2, rfl, HH3.out.put5 _ _ _ _ _ Q.out, below_put5 HB3.out (by omega)⟩
    · by_cases h4 : X.f1 = c1
      · subst h4
        go_wp2_with fail
        obtain ⟨w4, hw4⟩ : ∃ w4, w4 = w3.alloc (.cells #[.int .i64 X.f0, .int .i64 X.f1, .int .i64 X.f2, .string X.f3] 146) := ⟨_, rfl⟩
        have hQ0 := Q0.out
        have hQ2 := Q2.out
        have hB4 := HB4.out
        have hbX := blk_new w3 (.cells #[.int .i64 X.f0, .int .i64 X.f1, .int .i64 X.f2, .string X.f3] 146)
        rw [← hw4] at hQ0 hQ2 hB4 hbX ⊢
        clear hw4 Q0 Q1 Q2 HB4 t0 t1 y0 y1 y2 y3 y4 y5
        obtain ⟨t0, t1⟩ := cells2 hQ0
        have x2 : w4.cell? ⟨w3.heap.size, 2, none⟩ = some (.int .i64 X.f2) := (blk_cell hbX 2).trans rfl
        have x3 : w4.cell? ⟨w3.heap.size, 3, none⟩ = some (.string X.f3) := (blk_cell hbX 3).trans rfl
        have Q0 := Aside0.mk hQ0
        have Q2 := Aside0.mk hQ2
        have HB4 := Aside0.mk hB4
        have HBX := Aside0.mk hbX
        clear hQ0 hQ2 hB4 hbX
        have hn0 : w.heap.size + 1 + 1 ≠ w.heap.size := by omega
        have hn1 : w.heap.size + 1 + 1 ≠ w3.heap.size := by omega
        have HCOPY := Aside0.mk (copyT A1 d1 P A2 d2 S w4.drew (Kd.C_below H1.out HB4.out.drew) HC1.out (Kd.C_below H2.out HB4.out.drew) HC2.out hp hs)
        have HFR : Aside0 (∀ w5, Below w4.drew.heap.size w4.drew w5 → w5.cell? ⟨w3.heap.size, 2, none⟩ = some (.int .i64 X.f2) ∧ w5.cell? ⟨w3.heap.size, 3, none⟩ = some (.string X.f3) ∧ w5.cell? ⟨w.heap.size, 0, none⟩ = some (.slice A1 P.length d1) ∧ w5.cell? ⟨w.heap.size, 1, none⟩ = some (.slice A2 S.length d2) ∧
            w5.frozen? ⟨w.heap.size + 1 + 1, 0, none⟩ = false ∧ w5.frozen? ⟨w.heap.size + 1 + 1, 1, none⟩ = false ∧ w5.frozen? ⟨w.heap.size + 1 + 1, 2, none⟩ = false ∧ w5.frozen? ⟨w.heap.size + 1 + 1, 3, none⟩ = false ∧ w5.frozen? ⟨w.heap.size + 1 + 1, 4, none⟩ = false ∧
            w5.cell? ⟨w.heap.size + 1 + 1, 0, none⟩ = some (.int .i64 0) ∧ w5.cell? ⟨w.heap.size + 1 + 1, 1, none⟩ = some (.int .i64 0) ∧ w5.cell? ⟨w.heap.size + 1 + 1, 2, none⟩ = some (.string ⟨#[]⟩) ∧ w5.cell? ⟨w.heap.size + 1 + 1, 3, none⟩ = some (.slice none 0 0) ∧ w5.cell? ⟨w.heap.size + 1 + 1, 4, none⟩ = some (.slice none 0 0)) := ⟨fun w5 hb' => by
          have hb := below_of_drew hb'
          obtain ⟨a, b⟩ := cells2 (blk_below Q0.out hb)
          have q := blk_below Q2.out hb
          obtain ⟨z0, z1, z2, z3, z4⟩ := cells5 q
          obtain ⟨f0, f1, f2, f3, f4⟩ := frozen5 q
          exact ⟨(blk_cell (blk_below HBX.out hb) 2).trans rfl, (blk_cell (blk_below HBX.out hb) 3).trans rfl, a, b, f0, f1, f2, f3, f4, z0, z1, z2, z3, z4⟩⟩
        have xd2 : w4.drew.cell? ⟨w3.heap.size, 2, none⟩ = some (.int .i64 X.f2) := x2
        have xd3 : w4.drew.cell? ⟨w3.heap.size, 3, none⟩ = some (.string X.f3) := x3
        have td0 : w4.drew.cell? ⟨w.heap.size, 0, none⟩ = some (.slice A1 P.length d1) := t0
        have td1 : w4.drew.cell? ⟨w.heap.size, 1, none⟩ = some (.slice A2 S.length d2) := t1
        go_region_held3 (fun w' => w'.cell? ⟨w3.heap.size, 2, none⟩ = some (.int .i64 X.f2) ∧ w'.cell? ⟨w3.heap.size, 3, none⟩ = some (.string X.f3) ∧ w'.cell? ⟨w.heap.size, 0, none⟩ = some (.slice A1 P.length d1) ∧ w'.cell? ⟨w.heap.size, 1, none⟩ = some (.slice A2 S.length d2)) (first | (with_reducible exact ⟨xd2, xd3, td0, td1⟩) | (with_reducible exact ⟨x2', x3', t0', t1'⟩) | (refine ⟨?_, ?_, ?_, ?_⟩ <;> ((repeat rw [World.cell?_setCell_far _ _ _ _ (by first | exact hn0 | exact hn1)]); with_reducible assumption)))
          (first | (go_at_call 78; refine HCOPY.out.mono ?_; rintro e w5 ⟨B1, e1, B2, e2, rfl, hH5, hB5⟩; obtain ⟨x2', x3', t0', t1', f0, f1, f2, f3, f4, z0, z1, z2, z3, z4⟩ := HFR.out w5 hB5; have HH5 := Aside0.mk hH5; have HB5 := Aside0.mk hB5; clear hH5 hB5))
        go_wp2
        have Q := Aside0.mk (blk_below Q2.out (below_of_drew HB5.out))
        have HH3 := Aside0.mk (HH5.out.lower HB4.out.size)
        have HB3 := Aside0.mk (below_then HB4.out HB4.out.size (below_of_drew HB5.out))
        have x4 := put5_blk (u0 := .int .i64 2) (u1 := .int .i64 X.f2) (u2 := .string X.f3) (u3 := .slice B1 P.length e1) (u4 := .slice B2 S.length e2) Q.out
        refine bodyPost_ret (v := .agg #[.int .i64 2, .int .i64 X.f2, .string X.f3, .slice B1 P.length e1, .slice B2 S.length e2]) (results_single rfl (Vals.cell (w.heap.size + 1 + 1) 58 _ (0, 0) _ rfl x4 Try.underlying58 rfl (by kernel_rfl) Vals.nil)) rfl ?_
        have hF : F = (2, X.f2, X.f3, P, S) := by
          rw [HF.out]
          unfold applyF
          rw [if_neg h0, ← HX.out, if_neg (by omega), if_pos rfl]
        rw [hF]
        exact ⟨B1, e1, B2, e2, rfl, HH3.out.put5 _ _ _ _ _ Q.out, below_put5 HB3.out (by omega)⟩
      · go_wp2_with fail
        refine (spec_l5value.calls 10000000 A1 d1 P A2 d2 S key _ _ _ (Kd.C_below H1.out HB4.out) HC1.out (Kd.C_below H2.out HB4.out) HC2.out (value_f (by omega) (by omega))).mono ?_
        rintro e w5 ⟨rfl, hB5⟩
        have q0 := blk_below Q0.out hB5
        have q1 := blk_below Q1.out hB5
        have q2 := blk_below Q2.out hB5
        have hlt5 := blk_lt q2
        have hB5' := below_then HB4.out HB4.out.size hB5
        have hs5 := hB5'.size
        clear t0 t1 y0 y1 y2 y3 y4 y5 Q0 Q1 Q2 HB4
        obtain ⟨t0, t1⟩ := cells2 q0
        obtain ⟨y0, y1, y2, y3, y4, y5⟩ := cells6 q1
        have Q0 := Aside0.mk q0
        have Q1 := Aside0.mk q1
        have Q2 := Aside0.mk q2
        have HB5 := Aside0.mk hB5'
        obtain ⟨C, hC⟩ : ∃ C, C = changeF P c2 key val old := ⟨_, rfl⟩
        have HC := Aside0.mk hC
        clear q0 q1 q2 hB5 hB5' hC
        go_upto_block 0 with fail
        have hC' := HC.out
        unfold changeF at hC'
        go_cut [6, 7, 8, 9, 10, 11] (fun s6 s7 r8 v9 p10 d11 wx => ∃ put del : Bool, p10 = .bool put ∧ d11 = .bool del ∧ r8 = .int .i64 C.1 ∧ v9 = .string C.2.1 ∧ C.2.2 = (if (put || del) = true then withP P key put val else P) ∧ wx = w5)
        case first =>
          cases hL : lookP P key.toList with
          | none =>
            rw [hL] at hC'
            simp only [Option.getD_none, Option.isSome_none] at hC' ⊢
            by_cases g2 : c2 = 2
            · subst g2
              by_cases hl : P.length < 256
              · have hli : (P.length : Int) < 256 := by omega
                rw [if_pos rfl, if_pos hl] at hC'
                go_wp2_with fail
                go_meet
                case rel => exact ⟨true, false, rfl, rfl, by rw [hC'], by rw [hC'], by rw [hC']; rfl, rfl⟩
              · have hli : ¬ (P.length : Int) < 256 := by omega
                rw [if_pos rfl, if_neg hl] at hC'
                go_wp2_with fail
                go_meet
                case rel => exact ⟨false, false, rfl, rfl, by rw [hC'], by rw [hC'], by rw [hC']; rfl, rfl⟩
            · rw [if_neg g2] at hC'
              by_cases g1 : c2 = 1
              · go_wp2_with fail
                go_meet
                case rel => exact ⟨false, false, rfl, rfl, by rw [hC'], by rw [hC'], by rw [hC']; rfl, rfl⟩
              · by_cases g3 : c2 = 3
                · go_wp2_with fail
                  go_meet
                  case rel => exact ⟨false, false, rfl, rfl, by rw [hC'], by rw [hC'], by rw [hC']; rfl, rfl⟩
                · go_wp2_with fail
                  go_meet
                  case rel => exact ⟨false, false, rfl, rfl, by rw [hC'], by rw [hC'], by rw [hC']; rfl, rfl⟩
          | some v =>
            rw [hL] at hC'
            simp only [Option.getD_some, Option.isSome_some] at hC' ⊢
            by_cases g1 : c2 = 1
            · rw [if_pos g1] at hC'
              go_wp2_with fail
              go_meet
              case rel => exact ⟨false, false, rfl, rfl, by rw [hC'], by rw [hC'], by rw [hC']; rfl, rfl⟩
            · rw [if_neg g1] at hC'
              by_cases g2 : c2 = 2
              · rw [if_pos g2] at hC'
                go_wp2_with fail
                go_meet
                case rel => exact ⟨true, false, rfl, rfl, by rw [hC'], by rw [hC'], by rw [hC']; rfl, rfl⟩
              · rw [if_neg g2] at hC'
                by_cases g3 : c2 = 3
                · rw [if_pos g3] at hC'
                  go_wp2_with fail
                  go_meet
                  case rel => exact ⟨false, true, rfl, rfl, by rw [hC'], by rw [hC'], by rw [hC']; rfl, rfl⟩
                · rw [if_neg g3] at hC'
                  by_cases g4 : v.toList = old.toList
                  · rw [if_pos g4] at hC'
                    go_wp2_with fail
                    go_meet
                    case rel => exact ⟨true, false, rfl, rfl, by rw [hC'], by rw [hC'], by rw [hC']; rfl, rfl⟩
                  · rw [if_neg g4] at hC'
                    have g4b : (v.toList == old.toList) = false := by simpa using g4
                    go_wp2_with fail
                    go_meet
                    case rel => exact ⟨false, false, rfl, rfl, by rw [hC'], by rw [hC'], by rw [hC']; rfl, rfl⟩
        case rest =>
          clear hC'
          obtain ⟨put, del, rfl, rfl, rfl, rfl, hP', rfl⟩ := hcut
          have HP := Aside0.mk hP'
          clear hP'
          go_wp2_with fail
          refine (copyT A1 d1 P A2 d2 S _ (Kd.C_below H1.out HB5.out) HC1.out (Kd.C_below H2.out HB5.out) HC2.out hp hs).mono ?_
          rintro e w6 ⟨B1, e1, B2, e2, rfl, hH6, hB6⟩
          have q0 := blk_alloc (blk_below Q0.out hB6) (.cells #[.slice B1 P.length e1, .slice B2 S.length e2] 40)
          have q1 := blk_alloc (blk_below Q1.out hB6) (.cells #[.slice B1 P.length e1, .slice B2 S.length e2] 40)
          have q2 := blk_alloc (blk_below Q2.out hB6) (.cells #[.slice B1 P.length e1, .slice B2 S.length e2] 40)
          have qn := blk_new w6 (.cells #[.slice B1 P.length e1, .slice B2 S.length e2] 40)
          have hB7 := below_alloc (below_then HB5.out HB5.out.size hB6) (.cells #[.slice B1 P.length e1, .slice B2 S.length e2] 40)
          have hs6 := hB6.size
          have hH7 := (hH6.lower HB5.out.size).below (below_alloc (Below.refl w6.heap.size w6) (.cells #[.slice B1 P.length e1, .slice B2 S.length e2] 40))
          clear t0 t1 y0 y1 y2 y3 y4 y5
          obtain ⟨u0, u1⟩ := cells2 q0
          obtain ⟨y0, y1, y2, y3, y4, y5⟩ := cells6 q1
          have Q0' := Aside0.mk q0
          have Q1' := Aside0.mk q1
          have Q2' := Aside0.mk q2
          have QN := Aside0.mk qn
          have HB7 := Aside0.mk hB7
          have HH7 := Aside0.mk hH7
          clear q0 q1 q2 qn hB7 hH6 hB6 hH7 HB5 Q0 Q1 Q2
          have hput : put = true ∨ (put = false ∧ del = true) ∨ (put = false ∧ del = false) := by cases put <;> cases del <;> simp
          rcases hput with rfl | ⟨rfl, rfl⟩ | ⟨rfl, rfl⟩
          · cases del
            · go_wp2_with fail
              refine (spec_l5with.calls 10000000 A1 d1 P key true val _ _ (Kd.C_below H1.out HB7.out) HC1.out (with_f (by omega) (by omega))).mono ?_
              rintro e w8 ⟨v4, rfl, hR4, hB8⟩
              obtain ⟨B4, e4, hv⟩ := Kd.R_slice hR4
              subst hv
              have hPe : withP P key true val = C.2.2 := HP.out.symm
              rw [hPe] at hR4 ⊢
              have n0 := blk_below Q0'.out hB8
              have n1 := blk_below Q1'.out hB8
              have n2 := blk_below Q2'.out hB8
              have nn := blk_below QN.out hB8
              have hs8 := hB8.size
              clear u0 u1 y0 y1 y2 y3 y4 y5
              obtain ⟨j0, j1⟩ := cells2 nn
              have j2 : w8.frozen? ⟨w6.heap.size, 0, none⟩ = false := blk_frozen nn 0
              have o0 := blk_far n0 (p := ⟨w6.heap.size, 0, none⟩) (show w.heap.size ≠ w6.heap.size by omega) (.slice B4 C.2.2.length e4)
              have o1 := blk_far n1 (p := ⟨w6.heap.size, 0, none⟩) (show w.heap.size + 1 ≠ w6.heap.size by omega) (.slice B4 C.2.2.length e4)
              have o2 := blk_far n2 (p := ⟨w6.heap.size, 0, none⟩) (show w.heap.size + 1 + 1 ≠ w6.heap.size by omega) (.slice B4 C.2.2.length e4)
              have on := blk_put nn 0 (.slice B4 C.2.2.length e4) (cs' := #[.slice B4 C.2.2.length e4, .slice B2 S.length e2]) (by simp)
              obtain ⟨u0, u1⟩ := cells2 o0
              obtain ⟨y0, y1, y2, y3, y4, y5⟩ := cells6 o1
              have Q2a := Aside0.mk o2
              have Q12a := Aside0.mk on
              have HHPa := Aside0.mk (Kd.R_set (Kd.R_lower hR4 HB7.out.size) nn (by decide) 0 (.slice B4 C.2.2.length e4))
              have HB9 : Aside0 (Below w.heap.size w (w8.setCell ⟨w6.heap.size, 0, none⟩ (.slice B4 C.2.2.length e4))) := ⟨below_set (below_then HB7.out HB7.out.size hB8) (by omega)⟩
              clear n0 n1 n2 nn o0 o1 o2 on hR4 hB8 Q2'
              go_wp2_with fail
              refine (spec_l5withSession.calls 10000000 A2 d2 S c0 c1 C.1 C.2.1 _ _ (Kd.C_below H2.out HB9.out) HC2.out (withS_f (s := ⟨c0, c1, C.1, C.2.1⟩) (by omega) (by omega))).mono ?_
              rintro e w10 ⟨v5, rfl, hR5, hB10⟩
              obtain ⟨B5, e5, hv⟩ := Kd.R_slice hR5
              subst hv
              have p12 := blk_below Q12a.out hB10
              have p2 := blk_below Q2a.out hB10
              obtain ⟨m0, m1⟩ := cells2 p12
              have m2 : w10.frozen? ⟨w6.heap.size, 1, none⟩ = false := blk_frozen p12 1
              obtain ⟨z0, z1, z2, z3, z4⟩ := cells5 p2
              obtain ⟨f0, f1, f2, f3, f4⟩ := frozen5 p2
              have Q12 := Aside0.mk p12
              have Q2' := Aside0.mk p2
              have HHP := Aside0.mk (Kd.R_below HHPa.out hB10)
              have HHS := Aside0.mk (Kd.R_lower hR5 HB9.out.size)
              have HB10 := Aside0.mk (below_then HB9.out HB9.out.size hB10)
              clear hR5 hB10 p12 p2 u0 u1 y0 y1 y2 y3 y4 y5
              go_wp2_with fail
              have g1 := blk_put Q12.out 1 (.slice B5 (withS S ⟨c0, c1, C.1, C.2.1⟩).length e5) (cs' := #[.slice B4 C.2.2.length e4, .slice B5 (withS S ⟨c0, c1, C.1, C.2.1⟩).length e5]) (by simp)
              have g2 := blk_far Q2'.out (p := ⟨w6.heap.size, 1, none⟩) (show w.heap.size + 1 + 1 ≠ w6.heap.size by omega) (.slice B5 (withS S ⟨c0, c1, C.1, C.2.1⟩).length e5)
              have hH := HeldT.mk (Kd.R_set HHP.out Q12.out (by decide) 1 (.slice B5 (withS S ⟨c0, c1, C.1, C.2.1⟩).length e5)) (Kd.R_set HHS.out Q12.out (by decide) 1 (.slice B5 (withS S ⟨c0, c1, C.1, C.2.1⟩).length e5))
              have x4 := put5_blk (u0 := .int .i64 0) (u1 := .int .i64 C.1) (u2 := .string C.2.1) (u3 := .slice B4 C.2.2.length e4) (u4 := .slice B5 (withS S ⟨c0, c1, C.1, C.2.1⟩).length e5) g2
              refine bodyPost_ret (v := .agg #[.int .i64 0, .int .i64 C.1, .string C.2.1, .slice B4 C.2.2.length e4, .slice B5 (withS S ⟨c0, c1, C.1, C.2.1⟩).length e5]) (results_single rfl (Vals.cell (w.heap.size + 1 + 1) 58 _ (0, 0) _ rfl x4 Try.underlying58 rfl (by kernel_rfl) Vals.nil)) rfl ?_
              have hF : F = (0, C.1, C.2.1, C.2.2, withS S ⟨c0, c1, C.1, C.2.1⟩) := by
                rw [HF.out]
                unfold applyF
                rw [if_neg h0, ← HX.out, if_neg (by omega), if_neg h4, HC.out]
              rw [hF]
              exact ⟨B4, e4, B5, e5, rfl, hH.put5 _ _ _ _ _ g2, below_put5 (below_set HB10.out (by show w.heap.size ≤ w6.heap.size; omega)) (by omega)⟩
            · go_wp2_with fail
              refine (spec_l5with.calls 10000000 A1 d1 P key true val _ _ (Kd.C_below H1.out HB7.out) HC1.out (with_f (by omega) (by omega))).mono ?_
              rintro e w8 ⟨v4, rfl, hR4, hB8⟩
              obtain ⟨B4, e4, hv⟩ := Kd.R_slice hR4
              subst hv
              have hPe : withP P key true val = C.2.2 := HP.out.symm
              rw [hPe] at hR4 ⊢
              have n0 := blk_below Q0'.out hB8
              have n1 := blk_below Q1'.out hB8
              have n2 := blk_below Q2'.out hB8
              have nn := blk_below QN.out hB8
              have hs8 := hB8.size
              clear u0 u1 y0 y1 y2 y3 y4 y5
              obtain ⟨j0, j1⟩ := cells2 nn
              have j2 : w8.frozen? ⟨w6.heap.size, 0, none⟩ = false := blk_frozen nn 0
              have o0 := blk_far n0 (p := ⟨w6.heap.size, 0, none⟩) (show w.heap.size ≠ w6.heap.size by omega) (.slice B4 C.2.2.length e4)
              have o1 := blk_far n1 (p := ⟨w6.heap.size, 0, none⟩) (show w.heap.size + 1 ≠ w6.heap.size by omega) (.slice B4 C.2.2.length e4)
              have o2 := blk_far n2 (p := ⟨w6.heap.size, 0, none⟩) (show w.heap.size + 1 + 1 ≠ w6.heap.size by omega) (.slice B4 C.2.2.length e4)
              have on := blk_put nn 0 (.slice B4 C.2.2.length e4) (cs' := #[.slice B4 C.2.2.length e4, .slice B2 S.length e2]) (by simp)
              obtain ⟨u0, u1⟩ := cells2 o0
              obtain ⟨y0, y1, y2, y3, y4, y5⟩ := cells6 o1
              have Q2a := Aside0.mk o2
              have Q12a := Aside0.mk on
              have HHPa := Aside0.mk (Kd.R_set (Kd.R_lower hR4 HB7.out.size) nn (by decide) 0 (.slice B4 C.2.2.length e4))
              have HB9 : Aside0 (Below w.heap.size w (w8.setCell ⟨w6.heap.size, 0, none⟩ (.slice B4 C.2.2.length e4))) := ⟨below_set (below_then HB7.out HB7.out.size hB8) (by omega)⟩
              clear n0 n1 n2 nn o0 o1 o2 on hR4 hB8 Q2'
              go_wp2_with fail
              refine (spec_l5withSession.calls 10000000 A2 d2 S c0 c1 C.1 C.2.1 _ _ (Kd.C_below H2.out HB9.out) HC2.out (withS_f (s := ⟨c0, c1, C.1, C.2.1⟩) (by omega) (by omega))).mono ?_
              rintro e w10 ⟨v5, rfl, hR5, hB10⟩
              obtain ⟨B5, e5, hv⟩ := Kd.R_slice hR5
              subst hv
              have p12 := blk_below Q12a.out hB10
              have p2 := blk_below Q2a.out hB10
              obtain ⟨m0, m1⟩ := cells2 p12
              have m2 : w10.frozen? ⟨w6.heap.size, 1, none⟩ = false := blk_frozen p12 1
              obtain ⟨z0, z1, z2, z3, z4⟩ := cells5 p2
              obtain ⟨f0, f1, f2, f3, f4⟩ := frozen5 p2
              have Q12 := Aside0.mk p12
              have Q2' := Aside0.mk p2
              have HHP := Aside0.mk (Kd.R_below HHPa.out hB10)
              have HHS := Aside0.mk (Kd.R_lower hR5 HB9.out.size)
              have HB10 := Aside0.mk (below_then HB9.out HB9.out.size hB10)
              clear hR5 hB10 p12 p2 u0 u1 y0 y1 y2 y3 y4 y5
              go_wp2_with fail
              have g1 := blk_put Q12.out 1 (.slice B5 (withS S ⟨c0, c1, C.1, C.2.1⟩).length e5) (cs' := #[.slice B4 C.2.2.length e4, .slice B5 (withS S ⟨c0, c1, C.1, C.2.1⟩).length e5]) (by simp)
              have g2 := blk_far Q2'.out (p := ⟨w6.heap.size, 1, none⟩) (show w.heap.size + 1 + 1 ≠ w6.heap.size by omega) (.slice B5 (withS S ⟨c0, c1, C.1, C.2.1⟩).length e5)
              have hH := HeldT.mk (Kd.R_set HHP.out Q12.out (by decide) 1 (.slice B5 (withS S ⟨c0, c1, C.1, C.2.1⟩).length e5)) (Kd.R_set HHS.out Q12.out (by decide) 1 (.slice B5 (withS S ⟨c0, c1, C.1, C.2.1⟩).length e5))
              have x4 := put5_blk (u0 := .int .i64 0) (u1 := .int .i64 C.1) (u2 := .string C.2.1) (u3 := .slice B4 C.2.2.length e4) (u4 := .slice B5 (withS S ⟨c0, c1, C.1, C.2.1⟩).length e5) g2
              refine bodyPost_ret (v := .agg #[.int .i64 0, .int .i64 C.1, .string C.2.1, .slice B4 C.2.2.length e4, .slice B5 (withS S ⟨c0, c1, C.1, C.2.1⟩).length e5]) (results_single rfl (Vals.cell (w.heap.size + 1 + 1) 58 _ (0, 0) _ rfl x4 Try.underlying58 rfl (by kernel_rfl) Vals.nil)) rfl ?_
              have hF : F = (0, C.1, C.2.1, C.2.2, withS S ⟨c0, c1, C.1, C.2.1⟩) := by
                rw [HF.out]
                unfold applyF
                rw [if_neg h0, ← HX.out, if_neg (by omega), if_neg h4, HC.out]
              rw [hF]
              exact ⟨B4, e4, B5, e5, rfl, hH.put5 _ _ _ _ _ g2, below_put5 (below_set HB10.out (by show w.heap.size ≤ w6.heap.size; omega)) (by omega)⟩
          · go_wp2_with fail
            refine (spec_l5with.calls 10000000 A1 d1 P key false val _ _ (Kd.C_below H1.out HB7.out) HC1.out (with_f (by omega) (by omega))).mono ?_
            rintro e w8 ⟨v4, rfl, hR4, hB8⟩
            obtain ⟨B4, e4, hv⟩ := Kd.R_slice hR4
            subst hv
            have hPe : withP P key false val = C.2.2 := HP.out.symm
            rw [hPe] at hR4 ⊢
            have n0 := blk_below Q0'.out hB8
            have n1 := blk_below Q1'.out hB8
            have n2 := blk_below Q2'.out hB8
            have nn := blk_below QN.out hB8
            have hs8 := hB8.size
            clear u0 u1 y0 y1 y2 y3 y4 y5
            obtain ⟨j0, j1⟩ := cells2 nn
            have j2 : w8.frozen? ⟨w6.heap.size, 0, none⟩ = false := blk_frozen nn 0
            have o0 := blk_far n0 (p := ⟨w6.heap.size, 0, none⟩) (show w.heap.size ≠ w6.heap.size by omega) (.slice B4 C.2.2.length e4)
            have o1 := blk_far n1 (p := ⟨w6.heap.size, 0, none⟩) (show w.heap.size + 1 ≠ w6.heap.size by omega) (.slice B4 C.2.2.length e4)
            have o2 := blk_far n2 (p := ⟨w6.heap.size, 0, none⟩) (show w.heap.size + 1 + 1 ≠ w6.heap.size by omega) (.slice B4 C.2.2.length e4)
            have on := blk_put nn 0 (.slice B4 C.2.2.length e4) (cs' := #[.slice B4 C.2.2.length e4, .slice B2 S.length e2]) (by simp)
            obtain ⟨u0, u1⟩ := cells2 o0
            obtain ⟨y0, y1, y2, y3, y4, y5⟩ := cells6 o1
            have Q2a := Aside0.mk o2
            have Q12a := Aside0.mk on
            have HHPa := Aside0.mk (Kd.R_set (Kd.R_lower hR4 HB7.out.size) nn (by decide) 0 (.slice B4 C.2.2.length e4))
            have HB9 : Aside0 (Below w.heap.size w (w8.setCell ⟨w6.heap.size, 0, none⟩ (.slice B4 C.2.2.length e4))) := ⟨below_set (below_then HB7.out HB7.out.size hB8) (by omega)⟩
            clear n0 n1 n2 nn o0 o1 o2 on hR4 hB8 Q2'
            go_wp2_with fail
            refine (spec_l5withSession.calls 10000000 A2 d2 S c0 c1 C.1 C.2.1 _ _ (Kd.C_below H2.out HB9.out) HC2.out (withS_f (s := ⟨c0, c1, C.1, C.2.1⟩) (by omega) (by omega))).mono ?_
            rintro e w10 ⟨v5, rfl, hR5, hB10⟩
            obtain ⟨B5, e5, hv⟩ := Kd.R_slice hR5
            subst hv
            have p12 := blk_below Q12a.out hB10
            have p2 := blk_below Q2a.out hB10
            obtain ⟨m0, m1⟩ := cells2 p12
            have m2 : w10.frozen? ⟨w6.heap.size, 1, none⟩ = false := blk_frozen p12 1
            obtain ⟨z0, z1, z2, z3, z4⟩ := cells5 p2
            obtain ⟨f0, f1, f2, f3, f4⟩ := frozen5 p2
            have Q12 := Aside0.mk p12
            have Q2' := Aside0.mk p2
            have HHP := Aside0.mk (Kd.R_below HHPa.out hB10)
            have HHS := Aside0.mk (Kd.R_lower hR5 HB9.out.size)
            have HB10 := Aside0.mk (below_then HB9.out HB9.out.size hB10)
            clear hR5 hB10 p12 p2 u0 u1 y0 y1 y2 y3 y4 y5
            go_wp2_with fail
            have g1 := blk_put Q12.out 1 (.slice B5 (withS S ⟨c0, c1, C.1, C.2.1⟩).length e5) (cs' := #[.slice B4 C.2.2.length e4, .slice B5 (withS S ⟨c0, c1, C.1, C.2.1⟩).length e5]) (by simp)
            have g2 := blk_far Q2'.out (p := ⟨w6.heap.size, 1, none⟩) (show w.heap.size + 1 + 1 ≠ w6.heap.size by omega) (.slice B5 (withS S ⟨c0, c1, C.1, C.2.1⟩).length e5)
            have hH := HeldT.mk (Kd.R_set HHP.out Q12.out (by decide) 1 (.slice B5 (withS S ⟨c0, c1, C.1, C.2.1⟩).length e5)) (Kd.R_set HHS.out Q12.out (by decide) 1 (.slice B5 (withS S ⟨c0, c1, C.1, C.2.1⟩).length e5))
            have x4 := put5_blk (u0 := .int .i64 0) (u1 := .int .i64 C.1) (u2 := .string C.2.1) (u3 := .slice B4 C.2.2.length e4) (u4 := .slice B5 (withS S ⟨c0, c1, C.1, C.2.1⟩).length e5) g2
            refine bodyPost_ret (v := .agg #[.int .i64 0, .int .i64 C.1, .string C.2.1, .slice B4 C.2.2.length e4, .slice B5 (withS S ⟨c0, c1, C.1, C.2.1⟩).length e5]) (results_single rfl (Vals.cell (w.heap.size + 1 + 1) 58 _ (0, 0) _ rfl x4 Try.underlying58 rfl (by kernel_rfl) Vals.nil)) rfl ?_
            have hF : F = (0, C.1, C.2.1, C.2.2, withS S ⟨c0, c1, C.1, C.2.1⟩) := by
              rw [HF.out]
              unfold applyF
              rw [if_neg h0, ← HX.out, if_neg (by omega), if_neg h4, HC.out]
            rw [hF]
            exact ⟨B4, e4, B5, e5, rfl, hH.put5 _ _ _ _ _ g2, below_put5 (below_set HB10.out (by show w.heap.size ≤ w6.heap.size; omega)) (by omega)⟩
          · have HPe : Aside0 (C.2.2 = P) := ⟨HP.out⟩
            have hHp := HH7.out.p
            have Q2a := Q2'
            have Q12a := QN
            have HHPa := Aside0.mk hHp
            have HB9 := HB7
            clear hHp Q2'
            go_wp2_with fail
            refine (spec_l5withSession.calls 10000000 A2 d2 S c0 c1 C.1 C.2.1 _ _ (Kd.C_below H2.out HB9.out) HC2.out (withS_f (s := ⟨c0, c1, C.1, C.2.1⟩) (by omega) (by omega))).mono ?_
            rintro e w10 ⟨v5, rfl, hR5, hB10⟩
            obtain ⟨B5, e5, hv⟩ := Kd.R_slice hR5
            subst hv
            have p12 := blk_below Q12a.out hB10
            have p2 := blk_below Q2a.out hB10
            obtain ⟨m0, m1⟩ := cells2 p12
            have m2 : w10.frozen? ⟨w6.heap.size, 1, none⟩ = false := blk_frozen p12 1
            obtain ⟨z0, z1, z2, z3, z4⟩ := cells5 p2
            obtain ⟨f0, f1, f2, f3, f4⟩ := frozen5 p2
            have Q12 := Aside0.mk p12
            have Q2' := Aside0.mk p2
            have HHP := Aside0.mk (Kd.R_below HHPa.out hB10)
            have HHS := Aside0.mk (Kd.R_lower hR5 HB9.out.size)
            have HB10 := Aside0.mk (below_then HB9.out HB9.out.size hB10)
            clear hR5 hB10 p12 p2 u0 u1 y0 y1 y2 y3 y4 y5
            go_wp2_with fail
            have g1 := blk_put Q12.out 1 (.slice B5 (withS S ⟨c0, c1, C.1, C.2.1⟩).length e5) (cs' := #[.slice B1 P.length e1, .slice B5 (withS S ⟨c0, c1, C.1, C.2.1⟩).length e5]) (by simp)
            have g2 := blk_far Q2'.out (p := ⟨w6.heap.size, 1, none⟩) (show w.heap.size + 1 + 1 ≠ w6.heap.size by omega) (.slice B5 (withS S ⟨c0, c1, C.1, C.2.1⟩).length e5)
            have hH := HeldT.mk (Kd.R_set HHP.out Q12.out (by decide) 1 (.slice B5 (withS S ⟨c0, c1, C.1, C.2.1⟩).length e5)) (Kd.R_set HHS.out Q12.out (by decide) 1 (.slice B5 (withS S ⟨c0, c1, C.1, C.2.1⟩).length e5))
            have x4 := put5_blk (u0 := .int .i64 0) (u1 := .int .i64 C.1) (u2 := .string C.2.1) (u3 := .slice B1 P.length e1) (u4 := .slice B5 (withS S ⟨c0, c1, C.1, C.2.1⟩).length e5) g2
            refine bodyPost_ret (v := .agg #[.int .i64 0, .int .i64 C.1, .string C.2.1, .slice B1 P.length e1, .slice B5 (withS S ⟨c0, c1, C.1, C.2.1⟩).length e5]) (results_single rfl (Vals.cell (w.heap.size + 1 + 1) 58 _ (0, 0) _ rfl x4 Try.underlying58 rfl (by kernel_rfl) Vals.nil)) rfl ?_
            have hF : F = (0, C.1, C.2.1, P, withS S ⟨c0, c1, C.1, C.2.1⟩) := by
              rw [HF.out]
              unfold applyF
              rw [if_neg h0, ← HX.out, if_neg (by omega), if_neg h4, ← HC.out, HPe.out]
            rw [hF]
            exact ⟨B1, e1, B5, e5, rfl, hH.put5 _ _ _ _ _ g2, below_put5 (below_set HB10.out (by show w.heap.size ≤ w6.heap.size; omega)) (by omega)⟩
end Go.Proofs.Ytppegigcclflbaa.PFnExactApplyCmd
