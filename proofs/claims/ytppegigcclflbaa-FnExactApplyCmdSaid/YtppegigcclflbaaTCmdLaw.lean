/- The law FnExactApplyCmd, walked. -/
import Derived.Test.YtppegigcclflbaaTAns
import Derived.Test.YtppegigcclflbaaTLawC
import Derived.Test.YtppegigcclflbaaTEqT
import Derived.Test.YtppegigcclflbaaTHeld
set_option linter.unusedSimpArgs false
namespace Go.Proofs.Ytppegigcclflbaa.PFnExactApplyCmd
open Go.RowKit Go.Proofs.YtppegigcclflbaaW.PrintWords Go.Proofs.YtppegigcclflbaaW.PrintLast Go.Proofs.YtppegigcclflbaaW.PrintMore
open Go.Proofs.Ytppegigcclflbaa.PStr

structure J3 where
  v : Value
  ans : Value
  b : Nat
/-- What a region leaves: an answer, its two rows held, beside the block that waits for it. -/
def JoinA (f0 f1 : Int) (f2 : ByteArray) (P9 : List S157) (S9 : List S146) (wd : World) (ans : Value) (b : Nat) (w' : World) : Prop := ∃ B1 e1 B2 e2, ans = .agg #[.int .i64 f0, .int .i64 f1, .string f2, .slice B1 P9.length e1, .slice B2 S9.length e2] ∧
  HeldT w' wd.heap.size (fun k => wd.heap.size ≤ k ∧ k < w'.heap.size ∧ k ≠ b) B1 e1 P9 B2 e2 S9 ∧ w'.heap[b]? = some (.cells #[.int .i64 0, .int .i64 0, .string ⟨#[]⟩, .slice none 0 0, .slice none 0 0] 58 (0, 0)) ∧ wd.heap.size ≤ b ∧ b < w'.heap.size ∧ Below wd.heap.size wd w'
structure CmdS (key val old : ByteArray) : Prop where
  k : key.size ≤ 1048576
  v : val.size ≤ 1048576
  o : old.size ≤ 1048576
theorem spec_gives {P : List S157} {S : List S146} {c0 c1 c2 : Int} {key val old : ByteArray} {f0 f1 : Int} {f2 : ByteArray} {P9 : List S157} {S9 : List S146} (hF : (f0, f1, f2, P9, S9) = cmdF P S c0 c1 c2 key val old) (A1 : Option Addr) (d1 : Nat) (A2 : Option Addr) (d2 : Nat) (w : World) {base : Nat} {ok : Nat → Prop} (h : HeldT w base ok A1 d1 P A2 d2 S) (_ : P.length ≤ 1100000 ∧ S.length ≤ 1100000) (hk : CmdS key val old) :
    Calls Try.prog 25 #[.agg #[.slice A1 P.length d1, .slice A2 S.length d2], .agg #[.int .i64 c0, .int .i64 c1, .int .i64 c2, .string key, .string val, .string old]] w fun e w' => ∃ B1 e1 B2 e2, e = .returned (.agg #[.int .i64 f0, .int .i64 f1, .string f2, .slice B1 P9.length e1, .slice B2 S9.length e2]) ∧ HeldT w' w.heap.size (fun _ => True) B1 e1 P9 B2 e2 S9 ∧ Below w.heap.size w w' := by
  have := spec_ApplyCmd.calls A1 d1 P A2 d2 S c0 c1 c2 key val old w h.cp h.lp h.cs h.ls hk.k hk.v hk.o
  rw [← hF] at this
  exact this
theorem impl_gives {P : List S157} {S : List S146} {c0 c1 c2 : Int} {key val old : ByteArray} {f0 f1 : Int} {f2 : ByteArray} {P9 : List S157} {S9 : List S146} (hF : (f0, f1, f2, P9, S9) = cmdF P S c0 c1 c2 key val old) (A1 : Option Addr) (d1 : Nat) (A2 : Option Addr) (d2 : Nat) (w : World) {base : Nat} {ok : Nat → Prop} (h : HeldT w base ok A1 d1 P A2 d2 S) (hl : P.length ≤ 1100000 ∧ S.length ≤ 1100000) (_ : CmdS key val old) :
    Calls Try.prog 28 #[.agg #[.slice A1 P.length d1, .slice A2 S.length d2], .agg #[.int .i64 c0, .int .i64 c1, .int .i64 c2, .string key, .string val, .string old]] w fun e w' => ∃ B1 e1 B2 e2, e = .returned (.agg #[.int .i64 f0, .int .i64 f1, .string f2, .slice B1 P9.length e1, .slice B2 S9.length e2]) ∧ HeldT w' w.heap.size (fun _ => True) B1 e1 P9 B2 e2 S9 ∧ Below w.heap.size w w' := by
  have := impl_ApplyCmd.calls A1 d1 P A2 d2 S c0 c1 c2 key val old w h.cp h.lp h.cs h.ls hl.1 hl.2
  rw [← hF] at this
  exact this
theorem cmdF_sized {P : List S157} {S : List S146} (c0 c1 c2 : Int) (key val old : ByteArray) {f0 f1 : Int} {f2 : ByteArray} {P9 : List S157} {S9 : List S146} (hF : (f0, f1, f2, P9, S9) = cmdF P S c0 c1 c2 key val old) : SizedT P9 S9 := by
  unfold cmdF at hF
  by_cases h : tabOk P S = true
  · rw [if_pos h] at hF
    have ht := tok_of h
    by_cases h2 : faultC c0 c1 c2 key val old = 0
    · rw [if_pos h2] at hF
      have := apply_ok ht h2
      rw [← hF] at this
      exact this.sized
    · rw [if_neg h2] at hF
      simp only [Prod.mk.injEq] at hF
      rw [hF.2.2.2.1, hF.2.2.2.2]
      exact ht.sized
  · rw [if_neg h] at hF
    simp only [Prod.mk.injEq] at hF
    rw [hF.2.2.2.1, hF.2.2.2.2]
    exact ⟨by simp, by simp⟩

set_option maxHeartbeats 25600000 in
set_option maxRecDepth 100000 in
theorem lawCmd.calls (A1 : Option Addr) (k1 : Nat) (P0 : List S170) (A2 : Option Addr) (k2 : Nat) (S0 : List S172) (c0 c1 c2 : Int) (key val old : ByteArray) (w : World) (hr1 : Kd.C k170 w A1 P0.length P0) (hc1 : P0.length ≤ k1) (hr2 : Kd.C k172 w A2 S0.length S0) (hc2 : S0.length ≤ k2)
    (sP : ∀ e ∈ P0, Max e.f0 ∧ Max e.f1) (sS : ∀ e ∈ S0, Max e.f3) (mk : Max key) (mv : Max val) (mo : Max old) :
    Calls Try.prog 5 #[.agg #[.slice A1 P0.length k1, .slice A2 S0.length k2], .agg #[.int .i64 c0, .int .i64 c1, .int .i64 c2, .string key, .string val, .string old]] w fun e w' => e = .returned (.bool true) ∧ Below w.heap.size w w' := by
  obtain ⟨r, hsz, hrl, hszb⟩ := szT_f (k := 3000000) (Kd.C_max hr1) (Kd.C_max hr2) (by omega) sP sS
  have HCP : Aside0 (∀ W : World, Below w.heap.size w W → Kd.C k170 W A1 P0.length P0) := ⟨fun W hW => Kd.C_below hr1 hW⟩
  have HCS : Aside0 (∀ W : World, Below w.heap.size w W → Kd.C k172 W A2 S0.length S0) := ⟨fun W hW => Kd.C_below hr2 hW⟩
  have HC1 := Aside0.mk hc1
  have HC2 := Aside0.mk hc2
  have HSZT := Aside0.mk hsz
  have HSZB := Aside0.mk hszb
  have HMX := Aside0.mk (show Max key ∧ Max val ∧ Max old from ⟨mk, mv, mo⟩)
  clear hr1 hr2 hc1 hc2 hsz hszb sP sS mk mv mo
  go_enter Try.func5, Try.ntmps5
  go_wp2_with fail
  obtain ⟨w1, hw1⟩ : ∃ w1, w1 = (w.alloc (.cells #[.slice A1 P0.length k1, .slice A2 S0.length k2] 52)).alloc (.cells #[.int .i64 c0, .int .i64 c1, .int .i64 c2, .string key, .string val, .string old] 54) := ⟨_, rfl⟩
  have hb2 : w1.heap[w.heap.size]? = some (.cells #[.slice A1 P0.length k1, .slice A2 S0.length k2] 52 (0, 0)) := by rw [hw1]; exact blk_alloc (blk_new _ _) _
  have hb3 : w1.heap[w.heap.size + 1]? = some (.cells #[.int .i64 c0, .int .i64 c1, .int .i64 c2, .string key, .string val, .string old] 54 (0, 0)) := by
    rw [hw1]
    have := blk_new (w.alloc (.cells #[.slice A1 P0.length k1, .slice A2 S0.length k2] 52)) (.cells #[.int .i64 c0, .int .i64 c1, .int .i64 c2, .string key, .string val, .string old] 54)
    simpa using this
  have hBw : Below w.heap.size w w1 := by rw [hw1]; exact below_alloc (below_alloc (Below.refl _ _) _) _
  rw [← hw1]
  have HB2 := Aside0.mk hb2
  have HB3 := Aside0.mk hb3
  have HBW0 := Aside0.mk hBw
  clear hw1 hb2 hb3 hBw
  refine (laws_szTable.calls 3000000 A1 k1 P0 A2 k2 S0 1048576 r w1 (HCP.out _ HBW0.out) HC1.out (HCS.out _ HBW0.out) HC2.out HSZT.out).mono ?_
  rintro e w2 ⟨rfl, hBq⟩
  replace HB2 := Aside0.mk (blk_below HB2.out hBq)
  replace HB3 := Aside0.mk (blk_below HB3.out hBq)
  replace HBW0 := Aside0.mk (below_then HBW0.out HBW0.out.size hBq)
  clear hBq
  by_cases hr : r < 0
  · go_wp2_with fail
    go_ret
    exact ⟨rfl, HBW0.out⟩
  · have HL := Aside0.mk (HSZB.out (by omega))
    obtain ⟨q, hq, hqs⟩ := szC_f c0 c1 c2 key val old r (by omega) hrl HMX.out.1 HMX.out.2.1 HMX.out.2.2
    have HQ := Aside0.mk hq
    have HQS := Aside0.mk hqs
    obtain ⟨x0, x1', x2', x3, x4, x5⟩ := cells6 HB3.out
    clear hq hqs
    go_wp2_with fail
    refine (laws_szCmd.calls c0 c1 c2 key val old r q w2 HQ.out).mono ?_
    rintro e w3 ⟨rfl, hBq⟩
    clear x0 x1' x2' x3 x4 x5
    replace HB2 := Aside0.mk (blk_below HB2.out hBq)
    replace HB3 := Aside0.mk (blk_below HB3.out hBq)
    replace HBW0 := Aside0.mk (below_then HBW0.out HBW0.out.size hBq)
    clear hBq
    by_cases hq : q < 0
    · go_wp2_with fail
      go_ret
      exact ⟨rfl, HBW0.out⟩
    · obtain ⟨ka, kb, kc⟩ := HQS.out (by omega)
      have HK : Aside0 (CmdS key val old) := ⟨⟨ka, kb, kc⟩⟩
      clear ka kb kc
      obtain ⟨P, hP⟩ : ∃ P, P = P0.map cvPa := ⟨_, rfl⟩
      obtain ⟨S, hS⟩ : ∃ S, S = S0.map cvSe := ⟨_, rfl⟩
      have hl2 : P.length ≤ 1100000 ∧ S.length ≤ 1100000 := by
        have := HL.out
        rw [hP, hS, List.length_map, List.length_map]
        omega
      obtain ⟨⟨f0, f1, f2, P9, S9⟩, hF⟩ : ∃ F, F = cmdF P S c0 c1 c2 key val old := ⟨_, rfl⟩
      have HSZ9 := Aside0.mk (cmdF_sized c0 c1 c2 key val old hF)
      have HSZ : Aside0 (SizedT P S) := ⟨⟨hl2.1, hl2.2⟩⟩
      have HP := Aside0.mk hP
      have HS := Aside0.mk hS
      have HF := Aside0.mk hF
      have HL2 := Aside0.mk hl2
      have hlt2 := blk_lt HB2.out
      have hlt3 := blk_lt HB3.out
      clear hP hS hF hl2
      go_wp2_with fail
      obtain ⟨wd, hwd⟩ : ∃ wd, wd = w3.drew := ⟨_, rfl⟩
      have HBD : Aside0 (Below w3.heap.size w3 wd) := ⟨by rw [hwd]; exact below_drew1 (Below.refl _ _)⟩
      have hszd := HBD.out.size
      have hszd' : wd.heap.size ≤ w3.heap.size := by rw [hwd]; exact Nat.le_refl _
      have HBW := Aside0.mk (below_then HBW0.out HBW0.out.size HBD.out)
      have Hd2 := Aside0.mk (blk_below HB2.out HBD.out)
      have Hd3 := Aside0.mk (blk_below HB3.out HBD.out)
      refine start_ (n := 7) (S := fun w' => Below wd.heap.size wd w') (ds := [6]) #[false, false, false, false, false, false, false] (by kernel_rfl) rfl rfl (by rw [← hwd]; exact Below.refl _ _) (fun hHeld => ?_)
      rw [← hwd] at hHeld ⊢
      clear hwd
      refine take_ (i := 0) (N := (some 23)) (v := ?_) (a' := ?_) #[true, false, false, false, false, false, false] rfl rfl (by kernel_rfl) (fun _ _ _ h => h) (Or.inl ⟨by rfl, ?_⟩) hHeld ?_ ?_; rotate_left; (intro w' hS'; obtain ⟨x0, x1'⟩ := cells2 (blk_below Hd2.out hS'); go_simp; with_reducible rfl); rotate_left; (go_simp; rfl)
      refine take_ (i := 2) (N := (some 25)) (v := ?_) (a' := ?_) #[true, false, true, false, false, false, false] rfl rfl (by kernel_rfl) (fun _ _ _ h => h) (Or.inl ⟨by rfl, ?_⟩) hHeld ?_ ?_; rotate_left; (intro w' hS'; obtain ⟨x0, x1', x2', x3, x4, x5⟩ := cells6 (blk_below Hd3.out hS'); go_simp; with_reducible rfl); rotate_left; (go_simp; rfl)
      refine join_ (σ := J3) 1 #[true, true, true, true, true, true, false] (fun s => [(24, s.v), (26, .agg #[.int .i64 c0, .int .i64 c1, .int .i64 c2, .string key, .string val, .string old]), (27, s.ans), (6, .pointer (some ⟨s.b, 0, none⟩))]) (fun s w' => JoinA f0 f1 f2 P9 S9 wd s.ans s.b w') (fun s w' hs => ?_) (fun hcont => ?_)
      rotate_left
      · have HDh := Aside0.mk hHeld
        refine two_ (i := 1) (j := 5) (Ni := (some 24)) (Nj := (some 6)) #[true, true, true, false, false, false, false] #[true, false, true, false, false, true, false] rfl rfl rfl rfl (by kernel_rfl) (by decide) (by decide) (fun K hK => ?_) (fun K hK => ?_)
        · refine goes_ Try.func26 (by kernel_rfl) rfl #[.agg #[.slice A1 P0.length k1, .slice A2 S0.length k2]] (by rfl) rfl rfl (by simp only [List.map_toArray, List.map_cons, List.map_nil]; rfl) ?_
          refine (toT.calls A1 k1 P0 A2 k2 S0 P S wd (HCP.out _ (below_then HBW.out HBW.out.size HDh.out)) HC1.out (HCS.out _ (below_then HBW.out HBW.out.size HDh.out)) HC2.out (by have := HL.out.1; omega) (by have := HL.out.2; omega) HP.out HS.out).mono ?_
          rintro e wq0 ⟨X1, x1, X2, x2, rfl, hT, hBc⟩
          have hs0 := hBc.size
          have Dh0 := Aside0.mk (below_then HDh.out HDh.out.size hBc)
          have Th0 := Aside0.mk hT
          clear hT
          refine ⟨_, rfl, hK.out _ _ Dh0.out (fun _ => ?_)⟩
          clear hBc
          clear hK K
          refine norm_ (a' := ?_) ?_ ?_; rotate_left; (show Act.put _ (some 24) _ = _; go_simp; rfl)
          refine two_ (i := 3) (j := 5) (Ni := (some 26)) (Nj := (some 6)) #[true, true, true, true, false, false, false] #[true, true, true, false, false, true, false] rfl rfl rfl rfl (by kernel_rfl) (by decide) (by decide) (fun K hK => ?_) (fun K hK => ?_)
          · refine goes_ Try.func27 (by kernel_rfl) rfl #[.agg #[.int .i64 c0, .int .i64 c1, .int .i64 c2, .string key, .string val, .string old]] (by rfl) rfl rfl (by simp only [List.map_toArray, List.map_cons, List.map_nil]; rfl) ?_
            refine (laws_toCmd.calls c0 c1 c2 key val old _ _ _ _ _ _ wq0 rfl).mono ?_
            rintro e wq1 ⟨rfl, hBc⟩
            have hs1 := hBc.size
            have Dh1 := Aside0.mk (below_then Dh0.out Dh0.out.size hBc)
            have Th1 := Aside0.mk (Th0.out.below hBc)
            refine ⟨_, rfl, hK.out _ _ Dh1.out (fun _ => ?_)⟩
            clear hBc
            clear hK K
            refine norm_ (a' := ?_) ?_ ?_; rotate_left; (show Act.put _ (some 26) _ = _; go_simp; rfl)
            refine two_ (i := 4) (j := 5) (Ni := (some 27)) (Nj := (some 6)) #[true, true, true, true, true, false, false] #[true, true, true, true, false, true, false] rfl rfl rfl rfl (by kernel_rfl) (by decide) (by decide) (fun K hK => ?_) (fun K hK => ?_)
            · refine goes_ Try.func25 (by kernel_rfl) rfl #[.agg #[.slice X1 P.length x1, .slice X2 S.length x2], .agg #[.int .i64 c0, .int .i64 c1, .int .i64 c2, .string key, .string val, .string old]] (by rfl) rfl rfl (by simp only [List.map_toArray, List.map_cons, List.map_nil]; rfl) ?_
              refine (spec_gives HF.out X1 x1 X2 x2 wq1 Th1.out HL2.out HK.out).mono ?_
              rintro e wq2 ⟨B1, e1, B2, e2, rfl, hA, hBc⟩
              have hs2 := hBc.size
              have Dh2 := Aside0.mk (below_then Dh1.out Dh1.out.size hBc)
              have Th2 := Aside0.mk (Th1.out.below hBc)
              have Ah2 := Aside0.mk (HeldT.bound hA)
              clear hA
              refine ⟨_, rfl, hK.out _ _ Dh2.out (fun _ => ?_)⟩
              clear hBc
              clear hK K
              refine norm_ (a' := ?_) ?_ ?_; rotate_left; (show Act.put _ (some 27) _ = _; go_simp; rfl)
              refine one_ (i := 5) (N := (some 6)) #[true, true, true, true, true, true, false] rfl rfl (by kernel_rfl) (by decide) (fun K hK => ?_)
              refine value_ (w1 := ?_) (v := ?_) (by rfl) rfl ?_ ?_; rotate_left 2; (go_simp; constructor; rfl; rfl)
              have hBc := below_alloc (Below.refl wq2.heap.size wq2) (.cells #[.int .i64 0, .int .i64 0, .string ⟨#[]⟩, .slice none 0 0, .slice none 0 0] 58)
              have Dh3 := Aside0.mk (below_then Dh2.out Dh2.out.size hBc)
              have Zh3 := Aside0.mk (blk_new wq2 (.cells #[.int .i64 0, .int .i64 0, .string ⟨#[]⟩, .slice none 0 0, .slice none 0 0] 58))
              have Th3 := Aside0.mk (Th2.out.below hBc)
              have Ah3 := Aside0.mk (Ah2.out.below hBc)
              refine hK.out _ _ Dh3.out (fun _ => ?_)
              clear hK K
              refine norm_ (a' := ?_) ?_ ?_; rotate_left; (show Act.put _ (some 6) _ = _; go_simp; rfl)
              obtain ⟨wq3, hw⟩ : ∃ x, x = wq2.alloc (.cells #[.int .i64 0, .int .i64 0, .string ⟨#[]⟩, .slice none 0 0, .slice none 0 0] 58) := ⟨_, rfl⟩
              rw [← hw] at Dh3 Zh3 Th3 Ah3 ⊢
              clear hw hBc
              have hs3 : wq2.heap.size < wq3.heap.size := blk_lt Zh3.out
              have hj : JoinA f0 f1 f2 P9 S9 wd (.agg #[.int .i64 f0, .int .i64 f1, .string f2, .slice B1 P9.length e1, .slice B2 S9.length e2]) wq2.heap.size wq3 := ⟨B1, e1, B2, e2, rfl, (Ah3.out.lower (by omega)).mono (fun k hk => ⟨by omega, by omega, by omega⟩), Zh3.out, by omega, by omega, Dh3.out⟩
              refine norm_ (a' := putAll _ _) ?_ (hcont ⟨.agg #[.slice X1 P.length x1, .slice X2 S.length x2], .agg #[.int .i64 f0, .int .i64 f1, .string f2, .slice B1 P9.length e1, .slice B2 S9.length e2], wq2.heap.size⟩ wq3 hj)
              simp only [putAll, Act.put, List.setIfInBounds_toArray, List.set_cons_zero, List.set_cons_succ]
            · refine value_ (w1 := ?_) (v := ?_) (by rfl) rfl ?_ ?_; rotate_left 2; (go_simp; constructor; rfl; rfl)
              have hBc := below_alloc (Below.refl wq1.heap.size wq1) (.cells #[.int .i64 0, .int .i64 0, .string ⟨#[]⟩, .slice none 0 0, .slice none 0 0] 58)
              have Dh2 := Aside0.mk (below_then Dh1.out Dh1.out.size hBc)
              have Zh2 := Aside0.mk (blk_new wq1 (.cells #[.int .i64 0, .int .i64 0, .string ⟨#[]⟩, .slice none 0 0, .slice none 0 0] 58))
              have Th2 := Aside0.mk (Th1.out.below hBc)
              refine hK.out _ _ Dh2.out (fun _ => ?_)
              clear hK K
              refine norm_ (a' := ?_) ?_ ?_; rotate_left; (show Act.put _ (some 6) _ = _; go_simp; rfl)
              obtain ⟨wq2, hw⟩ : ∃ x, x = wq1.alloc (.cells #[.int .i64 0, .int .i64 0, .string ⟨#[]⟩, .slice none 0 0, .slice none 0 0] 58) := ⟨_, rfl⟩
              rw [← hw] at Dh2 Zh2 Th2 ⊢
              clear hw hBc
              have hs2 : wq1.heap.size < wq2.heap.size := blk_lt Zh2.out
              refine one_ (i := 4) (N := (some 27)) #[true, true, true, true, true, true, false] rfl rfl (by kernel_rfl) (by decide) (fun K hK => ?_)
              refine goes_ Try.func25 (by kernel_rfl) rfl #[.agg #[.slice X1 P.length x1, .slice X2 S.length x2], .agg #[.int .i64 c0, .int .i64 c1, .int .i64 c2, .string key, .string val, .string old]] (by rfl) rfl rfl (by simp only [List.map_toArray, List.map_cons, List.map_nil]; rfl) ?_
              refine (spec_gives HF.out X1 x1 X2 x2 wq2 Th2.out HL2.out HK.out).mono ?_
              rintro e wq3 ⟨B1, e1, B2, e2, rfl, hA, hBc⟩
              have hs3 := hBc.size
              have Dh3 := Aside0.mk (below_then Dh2.out Dh2.out.size hBc)
              have Th3 := Aside0.mk (Th2.out.below hBc)
              have Ah3 := Aside0.mk (HeldT.bound hA)
              clear hA
              have Zh3 := Aside0.mk (blk_below Zh2.out hBc)
              refine ⟨_, rfl, hK.out _ _ Dh3.out (fun _ => ?_)⟩
              clear hBc
              clear hK K
              refine norm_ (a' := ?_) ?_ ?_; rotate_left; (show Act.put _ (some 27) _ = _; go_simp; rfl)
              have hj : JoinA f0 f1 f2 P9 S9 wd (.agg #[.int .i64 f0, .int .i64 f1, .string f2, .slice B1 P9.length e1, .slice B2 S9.length e2]) wq1.heap.size wq3 := ⟨B1, e1, B2, e2, rfl, (Ah3.out.lower (by omega)).mono (fun k hk => ⟨by omega, by omega, by omega⟩), Zh3.out, by omega, by omega, Dh3.out⟩
              refine norm_ (a' := putAll _ _) ?_ (hcont ⟨.agg #[.slice X1 P.length x1, .slice X2 S.length x2], .agg #[.int .i64 f0, .int .i64 f1, .string f2, .slice B1 P9.length e1, .slice B2 S9.length e2], wq1.heap.size⟩ wq3 hj)
              simp only [putAll, Act.put, List.setIfInBounds_toArray, List.set_cons_zero, List.set_cons_succ]
          · refine value_ (w1 := ?_) (v := ?_) (by rfl) rfl ?_ ?_; rotate_left 2; (go_simp; constructor; rfl; rfl)
            have hBc := below_alloc (Below.refl wq0.heap.size wq0) (.cells #[.int .i64 0, .int .i64 0, .string ⟨#[]⟩, .slice none 0 0, .slice none 0 0] 58)
            have Dh1 := Aside0.mk (below_then Dh0.out Dh0.out.size hBc)
            have Zh1 := Aside0.mk (blk_new wq0 (.cells #[.int .i64 0, .int .i64 0, .string ⟨#[]⟩, .slice none 0 0, .slice none 0 0] 58))
            have Th1 := Aside0.mk (Th0.out.below hBc)
            refine hK.out _ _ Dh1.out (fun _ => ?_)
            clear hK K
            refine norm_ (a' := ?_) ?_ ?_; rotate_left; (show Act.put _ (some 6) _ = _; go_simp; rfl)
            obtain ⟨wq1, hw⟩ : ∃ x, x = wq0.alloc (.cells #[.int .i64 0, .int .i64 0, .string ⟨#[]⟩, .slice none 0 0, .slice none 0 0] 58) := ⟨_, rfl⟩
            rw [← hw] at Dh1 Zh1 Th1 ⊢
            clear hw hBc
            have hs1 : wq0.heap.size < wq1.heap.size := blk_lt Zh1.out
            refine one_ (i := 3) (N := (some 26)) #[true, true, true, true, false, true, false] rfl rfl (by kernel_rfl) (by decide) (fun K hK => ?_)
            refine goes_ Try.func27 (by kernel_rfl) rfl #[.agg #[.int .i64 c0, .int .i64 c1, .int .i64 c2, .string key, .string val, .string old]] (by rfl) rfl rfl (by simp only [List.map_toArray, List.map_cons, List.map_nil]; rfl) ?_
            refine (laws_toCmd.calls c0 c1 c2 key val old _ _ _ _ _ _ wq1 rfl).mono ?_
            rintro e wq2 ⟨rfl, hBc⟩
            have hs2 := hBc.size
            have Dh2 := Aside0.mk (below_then Dh1.out Dh1.out.size hBc)
            have Th2 := Aside0.mk (Th1.out.below hBc)
            have Zh2 := Aside0.mk (blk_below Zh1.out hBc)
            refine ⟨_, rfl, hK.out _ _ Dh2.out (fun _ => ?_)⟩
            clear hBc
            clear hK K
            refine norm_ (a' := ?_) ?_ ?_; rotate_left; (show Act.put _ (some 26) _ = _; go_simp; rfl)
            refine one_ (i := 4) (N := (some 27)) #[true, true, true, true, true, true, false] rfl rfl (by kernel_rfl) (by decide) (fun K hK => ?_)
            refine goes_ Try.func25 (by kernel_rfl) rfl #[.agg #[.slice X1 P.length x1, .slice X2 S.length x2], .agg #[.int .i64 c0, .int .i64 c1, .int .i64 c2, .string key, .string val, .string old]] (by rfl) rfl rfl (by simp only [List.map_toArray, List.map_cons, List.map_nil]; rfl) ?_
            refine (spec_gives HF.out X1 x1 X2 x2 wq2 Th2.out HL2.out HK.out).mono ?_
            rintro e wq3 ⟨B1, e1, B2, e2, rfl, hA, hBc⟩
            have hs3 := hBc.size
            have Dh3 := Aside0.mk (below_then Dh2.out Dh2.out.size hBc)
            have Th3 := Aside0.mk (Th2.out.below hBc)
            have Ah3 := Aside0.mk (HeldT.bound hA)
            clear hA
            have Zh3 := Aside0.mk (blk_below Zh2.out hBc)
            refine ⟨_, rfl, hK.out _ _ Dh3.out (fun _ => ?_)⟩
            clear hBc
            clear hK K
            refine norm_ (a' := ?_) ?_ ?_; rotate_left; (show Act.put _ (some 27) _ = _; go_simp; rfl)
            have hj : JoinA f0 f1 f2 P9 S9 wd (.agg #[.int .i64 f0, .int .i64 f1, .string f2, .slice B1 P9.length e1, .slice B2 S9.length e2]) wq0.heap.size wq3 := ⟨B1, e1, B2, e2, rfl, (Ah3.out.lower (by omega)).mono (fun k hk => ⟨by omega, by omega, by omega⟩), Zh3.out, by omega, by omega, Dh3.out⟩
            refine norm_ (a' := putAll _ _) ?_ (hcont ⟨.agg #[.slice X1 P.length x1, .slice X2 S.length x2], .agg #[.int .i64 f0, .int .i64 f1, .string f2, .slice B1 P9.length e1, .slice B2 S9.length e2], wq0.heap.size⟩ wq3 hj)
            simp only [putAll, Act.put, List.setIfInBounds_toArray, List.set_cons_zero, List.set_cons_succ]
        · refine value_ (w1 := ?_) (v := ?_) (by rfl) rfl ?_ ?_; rotate_left 2; (go_simp; constructor; rfl; rfl)
          have hBc := below_alloc (Below.refl wd.heap.size wd) (.cells #[.int .i64 0, .int .i64 0, .string ⟨#[]⟩, .slice none 0 0, .slice none 0 0] 58)
          have Dh0 := Aside0.mk (below_then HDh.out HDh.out.size hBc)
          have Zh0 := Aside0.mk (blk_new wd (.cells #[.int .i64 0, .int .i64 0, .string ⟨#[]⟩, .slice none 0 0, .slice none 0 0] 58))
          refine hK.out _ _ Dh0.out (fun _ => ?_)
          clear hK K
          refine norm_ (a' := ?_) ?_ ?_; rotate_left; (show Act.put _ (some 6) _ = _; go_simp; rfl)
          obtain ⟨wq0, hw⟩ : ∃ x, x = wd.alloc (.cells #[.int .i64 0, .int .i64 0, .string ⟨#[]⟩, .slice none 0 0, .slice none 0 0] 58) := ⟨_, rfl⟩
          rw [← hw] at Dh0 Zh0 ⊢
          clear hw hBc
          have hs0 : wd.heap.size < wq0.heap.size := blk_lt Zh0.out
          refine one_ (i := 1) (N := (some 24)) #[true, true, true, false, false, true, false] rfl rfl (by kernel_rfl) (by decide) (fun K hK => ?_)
          refine goes_ Try.func26 (by kernel_rfl) rfl #[.agg #[.slice A1 P0.length k1, .slice A2 S0.length k2]] (by rfl) rfl rfl (by simp only [List.map_toArray, List.map_cons, List.map_nil]; rfl) ?_
          refine (toT.calls A1 k1 P0 A2 k2 S0 P S wq0 (HCP.out _ (below_then HBW.out HBW.out.size Dh0.out)) HC1.out (HCS.out _ (below_then HBW.out HBW.out.size Dh0.out)) HC2.out (by have := HL.out.1; omega) (by have := HL.out.2; omega) HP.out HS.out).mono ?_
          rintro e wq1 ⟨X1, x1, X2, x2, rfl, hT, hBc⟩
          have hs1 := hBc.size
          have Dh1 := Aside0.mk (below_then Dh0.out Dh0.out.size hBc)
          have Th1 := Aside0.mk hT
          clear hT
          have Zh1 := Aside0.mk (blk_below Zh0.out hBc)
          refine ⟨_, rfl, hK.out _ _ Dh1.out (fun _ => ?_)⟩
          clear hBc
          clear hK K
          refine norm_ (a' := ?_) ?_ ?_; rotate_left; (show Act.put _ (some 24) _ = _; go_simp; rfl)
          refine one_ (i := 3) (N := (some 26)) #[true, true, true, true, false, true, false] rfl rfl (by kernel_rfl) (by decide) (fun K hK => ?_)
          refine goes_ Try.func27 (by kernel_rfl) rfl #[.agg #[.int .i64 c0, .int .i64 c1, .int .i64 c2, .string key, .string val, .string old]] (by rfl) rfl rfl (by simp only [List.map_toArray, List.map_cons, List.map_nil]; rfl) ?_
          refine (laws_toCmd.calls c0 c1 c2 key val old _ _ _ _ _ _ wq1 rfl).mono ?_
          rintro e wq2 ⟨rfl, hBc⟩
          have hs2 := hBc.size
          have Dh2 := Aside0.mk (below_then Dh1.out Dh1.out.size hBc)
          have Th2 := Aside0.mk (Th1.out.below hBc)
          have Zh2 := Aside0.mk (blk_below Zh1.out hBc)
          refine ⟨_, rfl, hK.out _ _ Dh2.out (fun _ => ?_)⟩
          clear hBc
          clear hK K
          refine norm_ (a' := ?_) ?_ ?_; rotate_left; (show Act.put _ (some 26) _ = _; go_simp; rfl)
          refine one_ (i := 4) (N := (some 27)) #[true, true, true, true, true, true, false] rfl rfl (by kernel_rfl) (by decide) (fun K hK => ?_)
          refine goes_ Try.func25 (by kernel_rfl) rfl #[.agg #[.slice X1 P.length x1, .slice X2 S.length x2], .agg #[.int .i64 c0, .int .i64 c1, .int .i64 c2, .string key, .string val, .string old]] (by rfl) rfl rfl (by simp only [List.map_toArray, List.map_cons, List.map_nil]; rfl) ?_
          refine (spec_gives HF.out X1 x1 X2 x2 wq2 Th2.out HL2.out HK.out).mono ?_
          rintro e wq3 ⟨B1, e1, B2, e2, rfl, hA, hBc⟩
          have hs3 := hBc.size
          have Dh3 := Aside0.mk (below_then Dh2.out Dh2.out.size hBc)
          have Th3 := Aside0.mk (Th2.out.below hBc)
          have Ah3 := Aside0.mk (HeldT.bound hA)
          clear hA
          have Zh3 := Aside0.mk (blk_below Zh2.out hBc)
          refine ⟨_, rfl, hK.out _ _ Dh3.out (fun _ => ?_)⟩
          clear hBc
          clear hK K
          refine norm_ (a' := ?_) ?_ ?_; rotate_left; (show Act.put _ (some 27) _ = _; go_simp; rfl)
          have hj : JoinA f0 f1 f2 P9 S9 wd (.agg #[.int .i64 f0, .int .i64 f1, .string f2, .slice B1 P9.length e1, .slice B2 S9.length e2]) wd.heap.size wq3 := ⟨B1, e1, B2, e2, rfl, (Ah3.out.lower (by omega)).mono (fun k hk => ⟨by omega, by omega, by omega⟩), Zh3.out, by omega, by omega, Dh3.out⟩
          refine norm_ (a' := putAll _ _) ?_ (hcont ⟨.agg #[.slice X1 P.length x1, .slice X2 S.length x2], .agg #[.int .i64 f0, .int .i64 f1, .string f2, .slice B1 P9.length e1, .slice B2 S9.length e2], wd.heap.size⟩ wq3 hj)
          simp only [putAll, Act.put, List.setIfInBounds_toArray, List.set_cons_zero, List.set_cons_succ]
      obtain ⟨vx, ans, b⟩ := s
      obtain ⟨B1, e1, B2, e2, hse, hH, hz, hbd, hbe, hBd⟩ := hs
      simp only at hse hH hz hbd hbe
      subst hse
      refine norm_ (a' := ?_) ?_ ?_; rotate_left; (simp only [putAll, Act.put, List.setIfInBounds_toArray, List.set_cons_zero, List.set_cons_succ]; rfl)
      refine last_ (i := 6) (N := none) #[true, true, true, true, true, true, true] rfl rfl (by kernel_rfl) (by decide) (fun K hK => ?_)
      obtain ⟨z0, z1, z2, z3, z4⟩ := cells5 hz
      obtain ⟨g0, g1, g2, g3, g4⟩ := frozen5 hz
      refine skip_ (w1 := ?_) (by rfl) rfl ?_ ?_; rotate_left; (go_simp; rfl)
      refine hK.out _ _ ?_
      clear hK K
      refine done_ (by kernel_rfl) ?_
      clear z0 z1 z2 z3 z4 g0 g1 g2 g3 g4
      have hput : put5 w' b (.int .i64 f0) (.int .i64 f1) (.string f2) (.slice B1 P9.length e1) (.slice B2 S9.length e2) = ((((w'.setCell ⟨b, 0, none⟩ (.int .i64 f0)).setCell ⟨b, 1, none⟩ (.int .i64 f1)).setCell ⟨b, 2, none⟩ (.string f2)).setCell ⟨b, 3, none⟩ (.slice B1 P9.length e1)).setCell ⟨b, 4, none⟩ (.slice B2 S9.length e2) := rfl
      have h1 := put5_blk (u0 := .int .i64 f0) (u1 := .int .i64 f1) (u2 := .string f2) (u3 := .slice B1 P9.length e1) (u4 := .slice B2 S9.length e2) hz
      have h2 := hH.put5 (.int .i64 f0) (.int .i64 f1) (.string f2) (.slice B1 P9.length e1) (.slice B2 S9.length e2) hz
      have h3 := below_put5 (u0 := .int .i64 f0) (u1 := .int .i64 f1) (u2 := .string f2) (u3 := .slice B1 P9.length e1) (u4 := .slice B2 S9.length e2) hBd hbd
      have h4 : (put5 w' b (.int .i64 f0) (.int .i64 f1) (.string f2) (.slice B1 P9.length e1) (.slice B2 S9.length e2)).heap.size = w'.heap.size := by simp [put5]
      rw [← hput]
      obtain ⟨w4, hw⟩ : ∃ x, x = put5 w' b (.int .i64 f0) (.int .i64 f1) (.string f2) (.slice B1 P9.length e1) (.slice B2 S9.length e2) := ⟨_, rfl⟩
      rw [← hw] at h1 h2 h3 h4 ⊢
      clear hw hput hz hH hBd
      obtain ⟨b6, hbn⟩ : ∃ x, x = b := ⟨_, rfl⟩
      subst hbn
      have hlob6 : w3.heap.size ≤ b6 := by omega
      have hhib6 : b6 < w4.heap.size := by omega
      have HB6 := Aside0.mk h1
      have HW := Aside0.mk ((h2.lower (show w3.heap.size ≤ wd.heap.size by omega)).mono (ok' := fun k => w3.heap.size ≤ k ∧ k < w4.heap.size ∧ k ≠ b6) (fun k hk => ⟨by omega, by omega, by omega⟩))
      have hBq := below_then HBD.out hszd h3
      have hszw4 := hBq.size
      clear h1 h2 h3 h4 hbd hbe hszd hszd' HBD Hd2 Hd3 HBW
      replace HB2 := Aside0.mk (blk_below HB2.out hBq)
      replace HB3 := Aside0.mk (blk_below HB3.out hBq)
      replace HBW0 := Aside0.mk (below_then HBW0.out HBW0.out.size hBq)
      clear hBq
      obtain ⟨x0, x1'⟩ := cells2 HB2.out
      go_wp2_with fail
      clear x0 x1'
      refine (toT.calls A1 k1 P0 A2 k2 S0 P S w4 (HCP.out _ HBW0.out) HC1.out (HCS.out _ HBW0.out) HC2.out (by have := HL.out.1; omega) (by have := HL.out.2; omega) HP.out HS.out).mono ?_
      have HBW4 := HBW0
      rintro e wx ⟨X1, x1, X2, x2, rfl, hT, hBx⟩
      have hszx := hBx.size
      have hBq := below_alloc hBx (.cells #[.slice X1 P.length x1, .slice X2 S.length x2] 40)
      have hX := (hT.bound.mono (ok' := fun k => w4.heap.size ≤ k ∧ k < wx.heap.size) (fun k hk => hk)).below (below_alloc (Below.refl wx.heap.size wx) (.cells #[.slice X1 P.length x1, .slice X2 S.length x2] 40))
      have h7 := blk_new wx (.cells #[.slice X1 P.length x1, .slice X2 S.length x2] 40)
      go_wp2_with fail
      obtain ⟨w5, hw⟩ : ∃ x, x = wx.alloc (.cells #[.slice X1 P.length x1, .slice X2 S.length x2] 40) := ⟨_, rfl⟩
      rw [← hw] at hBq hX h7 ⊢
      have hsz5 : wx.heap.size < w5.heap.size := blk_lt h7
      have HX := Aside0.mk hX
      have HB7 := Aside0.mk h7
      have HB45 := Aside0.mk hBq
      clear hw hX h7 hT hBx
      replace HW := Aside0.mk (HW.out.below hBq)
      replace HB2 := Aside0.mk (blk_below HB2.out hBq)
      replace HB3 := Aside0.mk (blk_below HB3.out hBq)
      replace HB6 := Aside0.mk (blk_below HB6.out hBq)
      replace HBW0 := Aside0.mk (below_then HBW0.out HBW0.out.size hBq)
      clear hBq
      obtain ⟨wd, hwd⟩ : ∃ wd, wd = w5.drew := ⟨_, rfl⟩
      have HBD : Aside0 (Below w5.heap.size w5 wd) := ⟨by rw [hwd]; exact below_drew1 (Below.refl _ _)⟩
      have hszd := HBD.out.size
      have hszd' : wd.heap.size ≤ w5.heap.size := by rw [hwd]; exact Nat.le_refl _
      have HBW := Aside0.mk (below_then HBW0.out HBW0.out.size HBD.out)
      have Hd2 := Aside0.mk (blk_below HB2.out HBD.out)
      have Hd3 := Aside0.mk (blk_below HB3.out HBD.out)
      have Hd7 := Aside0.mk (blk_below HB7.out HBD.out)
      have HXd := Aside0.mk (HX.out.below HBD.out)
      refine start_ (n := 6) (S := fun w' => Below wd.heap.size wd w') (ds := [5]) #[false, false, false, false, false, false] (by kernel_rfl) rfl rfl (by rw [← hwd]; exact Below.refl _ _) (fun hHeld => ?_)
      rw [← hwd] at hHeld ⊢
      clear hwd
      refine take_ (i := 0) (N := (some 30)) (v := ?_) (a' := ?_) #[true, false, false, false, false, false] rfl rfl (by kernel_rfl) (fun _ _ _ h => h) (Or.inl ⟨by rfl, ?_⟩) hHeld ?_ ?_; rotate_left; (intro w' hS'; obtain ⟨x0, x1'⟩ := cells2 (blk_below Hd7.out hS'); go_simp; with_reducible rfl); rotate_left; (go_simp; rfl)
      refine take_ (i := 1) (N := (some 31)) (v := ?_) (a' := ?_) #[true, true, false, false, false, false] rfl rfl (by kernel_rfl) (fun _ _ _ h => h) (Or.inl ⟨by rfl, ?_⟩) hHeld ?_ ?_; rotate_left; (intro w' hS'; obtain ⟨x0, x1', x2', x3, x4, x5⟩ := cells6 (blk_below Hd3.out hS'); go_simp; with_reducible rfl); rotate_left; (go_simp; rfl)
      refine join_ (σ := J3) 1 #[true, true, true, true, true, false] (fun s => [(32, .agg #[.int .i64 c0, .int .i64 c1, .int .i64 c2, .string key, .string val, .string old]), (33, s.ans), (8, .pointer (some ⟨s.b, 0, none⟩))]) (fun s w' => JoinA f0 f1 f2 P9 S9 wd s.ans s.b w') (fun s w' hs => ?_) (fun hcont => ?_)
      rotate_left
      · have HDh := Aside0.mk hHeld
        refine two_ (i := 2) (j := 4) (Ni := (some 32)) (Nj := (some 8)) #[true, true, true, false, false, false] #[true, true, false, false, true, false] rfl rfl rfl rfl (by kernel_rfl) (by decide) (by decide) (fun K hK => ?_) (fun K hK => ?_)
        · refine goes_ Try.func27 (by kernel_rfl) rfl #[.agg #[.int .i64 c0, .int .i64 c1, .int .i64 c2, .string key, .string val, .string old]] (by rfl) rfl rfl (by simp only [List.map_toArray, List.map_cons, List.map_nil]; rfl) ?_
          refine (laws_toCmd.calls c0 c1 c2 key val old _ _ _ _ _ _ wd rfl).mono ?_
          rintro e wq0 ⟨rfl, hBc⟩
          have hs0 := hBc.size
          have Dh0 := Aside0.mk (below_then HDh.out HDh.out.size hBc)
          refine ⟨_, rfl, hK.out _ _ Dh0.out (fun _ => ?_)⟩
          clear hBc
          clear hK K
          refine norm_ (a' := ?_) ?_ ?_; rotate_left; (show Act.put _ (some 32) _ = _; go_simp; rfl)
          refine two_ (i := 3) (j := 4) (Ni := (some 33)) (Nj := (some 8)) #[true, true, true, true, false, false] #[true, true, true, false, true, false] rfl rfl rfl rfl (by kernel_rfl) (by decide) (by decide) (fun K hK => ?_) (fun K hK => ?_)
          · refine goes_ Try.func28 (by kernel_rfl) rfl #[.agg #[.slice X1 P.length x1, .slice X2 S.length x2], .agg #[.int .i64 c0, .int .i64 c1, .int .i64 c2, .string key, .string val, .string old]] (by rfl) rfl rfl (by simp only [List.map_toArray, List.map_cons, List.map_nil]; rfl) ?_
            refine (impl_gives HF.out X1 x1 X2 x2 wq0 (HXd.out.below Dh0.out) HL2.out HK.out).mono ?_
            rintro e wq1 ⟨B1, e1, B2, e2, rfl, hA, hBc⟩
            have hs1 := hBc.size
            have Dh1 := Aside0.mk (below_then Dh0.out Dh0.out.size hBc)
            have Ah1 := Aside0.mk (HeldT.bound hA)
            clear hA
            refine ⟨_, rfl, hK.out _ _ Dh1.out (fun _ => ?_)⟩
            clear hBc
            clear hK K
            refine norm_ (a' := ?_) ?_ ?_; rotate_left; (show Act.put _ (some 33) _ = _; go_simp; rfl)
            refine one_ (i := 4) (N := (some 8)) #[true, true, true, true, true, false] rfl rfl (by kernel_rfl) (by decide) (fun K hK => ?_)
            refine value_ (w1 := ?_) (v := ?_) (by rfl) rfl ?_ ?_; rotate_left 2; (go_simp; constructor; rfl; rfl)
            have hBc := below_alloc (Below.refl wq1.heap.size wq1) (.cells #[.int .i64 0, .int .i64 0, .string ⟨#[]⟩, .slice none 0 0, .slice none 0 0] 58)
            have Dh2 := Aside0.mk (below_then Dh1.out Dh1.out.size hBc)
            have Zh2 := Aside0.mk (blk_new wq1 (.cells #[.int .i64 0, .int .i64 0, .string ⟨#[]⟩, .slice none 0 0, .slice none 0 0] 58))
            have Ah2 := Aside0.mk (Ah1.out.below hBc)
            refine hK.out _ _ Dh2.out (fun _ => ?_)
            clear hK K
            refine norm_ (a' := ?_) ?_ ?_; rotate_left; (show Act.put _ (some 8) _ = _; go_simp; rfl)
            obtain ⟨wq2, hw⟩ : ∃ x, x = wq1.alloc (.cells #[.int .i64 0, .int .i64 0, .string ⟨#[]⟩, .slice none 0 0, .slice none 0 0] 58) := ⟨_, rfl⟩
            rw [← hw] at Dh2 Zh2 Ah2 ⊢
            clear hw hBc
            have hs2 : wq1.heap.size < wq2.heap.size := blk_lt Zh2.out
            have hj : JoinA f0 f1 f2 P9 S9 wd (.agg #[.int .i64 f0, .int .i64 f1, .string f2, .slice B1 P9.length e1, .slice B2 S9.length e2]) wq1.heap.size wq2 := ⟨B1, e1, B2, e2, rfl, (Ah2.out.lower (by omega)).mono (fun k hk => ⟨by omega, by omega, by omega⟩), Zh2.out, by omega, by omega, Dh2.out⟩
            refine norm_ (a' := putAll _ _) ?_ (hcont ⟨undef, .agg #[.int .i64 f0, .int .i64 f1, .string f2, .slice B1 P9.length e1, .slice B2 S9.length e2], wq1.heap.size⟩ wq2 hj)
            simp only [putAll, Act.put, List.setIfInBounds_toArray, List.set_cons_zero, List.set_cons_succ]
          · refine value_ (w1 := ?_) (v := ?_) (by rfl) rfl ?_ ?_; rotate_left 2; (go_simp; constructor; rfl; rfl)
            have hBc := below_alloc (Below.refl wq0.heap.size wq0) (.cells #[.int .i64 0, .int .i64 0, .string ⟨#[]⟩, .slice none 0 0, .slice none 0 0] 58)
            have Dh1 := Aside0.mk (below_then Dh0.out Dh0.out.size hBc)
            have Zh1 := Aside0.mk (blk_new wq0 (.cells #[.int .i64 0, .int .i64 0, .string ⟨#[]⟩, .slice none 0 0, .slice none 0 0] 58))
            refine hK.out _ _ Dh1.out (fun _ => ?_)
            clear hK K
            refine norm_ (a' := ?_) ?_ ?_; rotate_left; (show Act.put _ (some 8) _ = _; go_simp; rfl)
            obtain ⟨wq1, hw⟩ : ∃ x, x = wq0.alloc (.cells #[.int .i64 0, .int .i64 0, .string ⟨#[]⟩, .slice none 0 0, .slice none 0 0] 58) := ⟨_, rfl⟩
            rw [← hw] at Dh1 Zh1 ⊢
            clear hw hBc
            have hs1 : wq0.heap.size < wq1.heap.size := blk_lt Zh1.out
            refine one_ (i := 3) (N := (some 33)) #[true, true, true, true, true, false] rfl rfl (by kernel_rfl) (by decide) (fun K hK => ?_)
            refine goes_ Try.func28 (by kernel_rfl) rfl #[.agg #[.slice X1 P.length x1, .slice X2 S.length x2], .agg #[.int .i64 c0, .int .i64 c1, .int .i64 c2, .string key, .string val, .string old]] (by rfl) rfl rfl (by simp only [List.map_toArray, List.map_cons, List.map_nil]; rfl) ?_
            refine (impl_gives HF.out X1 x1 X2 x2 wq1 (HXd.out.below Dh1.out) HL2.out HK.out).mono ?_
            rintro e wq2 ⟨B1, e1, B2, e2, rfl, hA, hBc⟩
            have hs2 := hBc.size
            have Dh2 := Aside0.mk (below_then Dh1.out Dh1.out.size hBc)
            have Ah2 := Aside0.mk (HeldT.bound hA)
            clear hA
            have Zh2 := Aside0.mk (blk_below Zh1.out hBc)
            refine ⟨_, rfl, hK.out _ _ Dh2.out (fun _ => ?_)⟩
            clear hBc
            clear hK K
            refine norm_ (a' := ?_) ?_ ?_; rotate_left; (show Act.put _ (some 33) _ = _; go_simp; rfl)
            have hj : JoinA f0 f1 f2 P9 S9 wd (.agg #[.int .i64 f0, .int .i64 f1, .string f2, .slice B1 P9.length e1, .slice B2 S9.length e2]) wq0.heap.size wq2 := ⟨B1, e1, B2, e2, rfl, (Ah2.out.lower (by omega)).mono (fun k hk => ⟨by omega, by omega, by omega⟩), Zh2.out, by omega, by omega, Dh2.out⟩
            refine norm_ (a' := putAll _ _) ?_ (hcont ⟨undef, .agg #[.int .i64 f0, .int .i64 f1, .string f2, .slice B1 P9.length e1, .slice B2 S9.length e2], wq0.heap.size⟩ wq2 hj)
            simp only [putAll, Act.put, List.setIfInBounds_toArray, List.set_cons_zero, List.set_cons_succ]
        · refine value_ (w1 := ?_) (v := ?_) (by rfl) rfl ?_ ?_; rotate_left 2; (go_simp; constructor; rfl; rfl)
          have hBc := below_alloc (Below.refl wd.heap.size wd) (.cells #[.int .i64 0, .int .i64 0, .string ⟨#[]⟩, .slice none 0 0, .slice none 0 0] 58)
          have Dh0 := Aside0.mk (below_then HDh.out HDh.out.size hBc)
          have Zh0 := Aside0.mk (blk_new wd (.cells #[.int .i64 0, .int .i64 0, .string ⟨#[]⟩, .slice none 0 0, .slice none 0 0] 58))
          refine hK.out _ _ Dh0.out (fun _ => ?_)
          clear hK K
          refine norm_ (a' := ?_) ?_ ?_; rotate_left; (show Act.put _ (some 8) _ = _; go_simp; rfl)
          obtain ⟨wq0, hw⟩ : ∃ x, x = wd.alloc (.cells #[.int .i64 0, .int .i64 0, .string ⟨#[]⟩, .slice none 0 0, .slice none 0 0] 58) := ⟨_, rfl⟩
          rw [← hw] at Dh0 Zh0 ⊢
          clear hw hBc
          have hs0 : wd.heap.size < wq0.heap.size := blk_lt Zh0.out
          refine one_ (i := 2) (N := (some 32)) #[true, true, true, false, true, false] rfl rfl (by kernel_rfl) (by decide) (fun K hK => ?_)
          refine goes_ Try.func27 (by kernel_rfl) rfl #[.agg #[.int .i64 c0, .int .i64 c1, .int .i64 c2, .string key, .string val, .string old]] (by rfl) rfl rfl (by simp only [List.map_toArray, List.map_cons, List.map_nil]; rfl) ?_
          refine (laws_toCmd.calls c0 c1 c2 key val old _ _ _ _ _ _ wq0 rfl).mono ?_
          rintro e wq1 ⟨rfl, hBc⟩
          have hs1 := hBc.size
          have Dh1 := Aside0.mk (below_then Dh0.out Dh0.out.size hBc)
          have Zh1 := Aside0.mk (blk_below Zh0.out hBc)
          refine ⟨_, rfl, hK.out _ _ Dh1.out (fun _ => ?_)⟩
          clear hBc
          clear hK K
          refine norm_ (a' := ?_) ?_ ?_; rotate_left; (show Act.put _ (some 32) _ = _; go_simp; rfl)
          refine one_ (i := 3) (N := (some 33)) #[true, true, true, true, true, false] rfl rfl (by kernel_rfl) (by decide) (fun K hK => ?_)
          refine goes_ Try.func28 (by kernel_rfl) rfl #[.agg #[.slice X1 P.length x1, .slice X2 S.length x2], .agg #[.int .i64 c0, .int .i64 c1, .int .i64 c2, .string key, .string val, .string old]] (by rfl) rfl rfl (by simp only [List.map_toArray, List.map_cons, List.map_nil]; rfl) ?_
          refine (impl_gives HF.out X1 x1 X2 x2 wq1 (HXd.out.below Dh1.out) HL2.out HK.out).mono ?_
          rintro e wq2 ⟨B1, e1, B2, e2, rfl, hA, hBc⟩
          have hs2 := hBc.size
          have Dh2 := Aside0.mk (below_then Dh1.out Dh1.out.size hBc)
          have Ah2 := Aside0.mk (HeldT.bound hA)
          clear hA
          have Zh2 := Aside0.mk (blk_below Zh1.out hBc)
          refine ⟨_, rfl, hK.out _ _ Dh2.out (fun _ => ?_)⟩
          clear hBc
          clear hK K
          refine norm_ (a' := ?_) ?_ ?_; rotate_left; (show Act.put _ (some 33) _ = _; go_simp; rfl)
          have hj : JoinA f0 f1 f2 P9 S9 wd (.agg #[.int .i64 f0, .int .i64 f1, .string f2, .slice B1 P9.length e1, .slice B2 S9.length e2]) wd.heap.size wq2 := ⟨B1, e1, B2, e2, rfl, (Ah2.out.lower (by omega)).mono (fun k hk => ⟨by omega, by omega, by omega⟩), Zh2.out, by omega, by omega, Dh2.out⟩
          refine norm_ (a' := putAll _ _) ?_ (hcont ⟨undef, .agg #[.int .i64 f0, .int .i64 f1, .string f2, .slice B1 P9.length e1, .slice B2 S9.length e2], wd.heap.size⟩ wq2 hj)
          simp only [putAll, Act.put, List.setIfInBounds_toArray, List.set_cons_zero, List.set_cons_succ]
      obtain ⟨vx, ans, b⟩ := s
      obtain ⟨B1, e1, B2, e2, hse, hH, hz, hbd, hbe, hBd⟩ := hs
      simp only at hse hH hz hbd hbe
      subst hse
      refine norm_ (a' := ?_) ?_ ?_; rotate_left; (simp only [putAll, Act.put, List.setIfInBounds_toArray, List.set_cons_zero, List.set_cons_succ]; rfl)
      refine last_ (i := 5) (N := none) #[true, true, true, true, true, true] rfl rfl (by kernel_rfl) (by decide) (fun K hK => ?_)
      obtain ⟨z0, z1, z2, z3, z4⟩ := cells5 hz
      obtain ⟨g0, g1, g2, g3, g4⟩ := frozen5 hz
      refine skip_ (w1 := ?_) (by rfl) rfl ?_ ?_; rotate_left; (go_simp; rfl)
      refine hK.out _ _ ?_
      clear hK K
      refine done_ (by kernel_rfl) ?_
      clear z0 z1 z2 z3 z4 g0 g1 g2 g3 g4
      clear Hd7 HXd
      have hput : put5 w' b (.int .i64 f0) (.int .i64 f1) (.string f2) (.slice B1 P9.length e1) (.slice B2 S9.length e2) = ((((w'.setCell ⟨b, 0, none⟩ (.int .i64 f0)).setCell ⟨b, 1, none⟩ (.int .i64 f1)).setCell ⟨b, 2, none⟩ (.string f2)).setCell ⟨b, 3, none⟩ (.slice B1 P9.length e1)).setCell ⟨b, 4, none⟩ (.slice B2 S9.length e2) := rfl
      have h1 := put5_blk (u0 := .int .i64 f0) (u1 := .int .i64 f1) (u2 := .string f2) (u3 := .slice B1 P9.length e1) (u4 := .slice B2 S9.length e2) hz
      have h2 := hH.put5 (.int .i64 f0) (.int .i64 f1) (.string f2) (.slice B1 P9.length e1) (.slice B2 S9.length e2) hz
      have h3 := below_put5 (u0 := .int .i64 f0) (u1 := .int .i64 f1) (u2 := .string f2) (u3 := .slice B1 P9.length e1) (u4 := .slice B2 S9.length e2) hBd hbd
      have h4 : (put5 w' b (.int .i64 f0) (.int .i64 f1) (.string f2) (.slice B1 P9.length e1) (.slice B2 S9.length e2)).heap.size = w'.heap.size := by simp [put5]
      rw [← hput]
      obtain ⟨w6, hw⟩ : ∃ x, x = put5 w' b (.int .i64 f0) (.int .i64 f1) (.string f2) (.slice B1 P9.length e1) (.slice B2 S9.length e2) := ⟨_, rfl⟩
      rw [← hw] at h1 h2 h3 h4 ⊢
      clear hw hput hz hH hBd
      obtain ⟨b8, hbn⟩ : ∃ x, x = b := ⟨_, rfl⟩
      subst hbn
      have hlob8 : w5.heap.size ≤ b8 := by omega
      have hhib8 : b8 < w6.heap.size := by omega
      have HB8 := Aside0.mk h1
      have HG := Aside0.mk ((h2.lower (show w5.heap.size ≤ wd.heap.size by omega)).mono (ok' := fun k => w5.heap.size ≤ k ∧ k < w6.heap.size ∧ k ≠ b8) (fun k hk => ⟨by omega, by omega, by omega⟩))
      have hBq := below_then HBD.out hszd h3
      have hszw6 := hBq.size
      clear h1 h2 h3 h4 hbd hbe hszd hszd' HBD Hd2 Hd3 HBW
      replace HW := Aside0.mk (HW.out.below hBq)
      replace HX := Aside0.mk (HX.out.below hBq)
      replace HB2 := Aside0.mk (blk_below HB2.out hBq)
      replace HB3 := Aside0.mk (blk_below HB3.out hBq)
      replace HB6 := Aside0.mk (blk_below HB6.out hBq)
      replace HB7 := Aside0.mk (blk_below HB7.out hBq)
      replace HBW0 := Aside0.mk (below_then HBW0.out HBW0.out.size hBq)
      replace HB45 := Aside0.mk (below_then HB45.out HB45.out.size hBq)
      clear hBq
      obtain ⟨x0, x1', x2', x3, x4⟩ := cells5 HB8.out
      obtain ⟨y0, y1, y2, y3, y4⟩ := cells5 HB6.out
      go_wp2_with fail
      clear x0 x1' x2' x3 x4 y0 y1 y2 y3 y4
      refine (HeldT.eqA f0 f1 f2 HG.out HW.out).mono ?_
      rintro e w7 ⟨rfl, hBq⟩
      have hsz7 := hBq.size
      replace HW := Aside0.mk (HW.out.below hBq)
      replace HX := Aside0.mk (HX.out.below hBq)
      replace HG := Aside0.mk (HG.out.below hBq)
      replace HB2 := Aside0.mk (blk_below HB2.out hBq)
      replace HB3 := Aside0.mk (blk_below HB3.out hBq)
      replace HB6 := Aside0.mk (blk_below HB6.out hBq)
      replace HB7 := Aside0.mk (blk_below HB7.out hBq)
      replace HB8 := Aside0.mk (blk_below HB8.out hBq)
      replace HBW0 := Aside0.mk (below_then HBW0.out HBW0.out.size hBq)
      replace HB45 := Aside0.mk (below_then HB45.out HB45.out.size hBq)
      clear hBq
      go_wp2_with fail
      obtain ⟨wd, hwd⟩ : ∃ wd, wd = w7.drew := ⟨_, rfl⟩
      have hBq : Below w7.heap.size w7 wd := by rw [hwd]; exact below_drew1 (Below.refl _ _)
      have hszd := hBq.size
      replace HW := Aside0.mk (HW.out.below hBq)
      replace HX := Aside0.mk (HX.out.below hBq)
      replace HG := Aside0.mk (HG.out.below hBq)
      replace HB2 := Aside0.mk (blk_below HB2.out hBq)
      replace HB3 := Aside0.mk (blk_below HB3.out hBq)
      replace HB6 := Aside0.mk (blk_below HB6.out hBq)
      replace HB7 := Aside0.mk (blk_below HB7.out hBq)
      replace HB8 := Aside0.mk (blk_below HB8.out hBq)
      replace HBW0 := Aside0.mk (below_then HBW0.out HBW0.out.size hBq)
      replace HB45 := Aside0.mk (below_then HB45.out HB45.out.size hBq)
      refine start_ (n := 5) (S := fun w' => Below wd.heap.size wd w') (ds := []) #[false, false, false, false, false] (by kernel_rfl) rfl rfl (by rw [← hwd]; exact Below.refl _ _) (fun hHeld => ?_)
      rw [← hwd] at hHeld ⊢
      clear hwd hBq
      refine take_ (i := 0) (N := (some 38)) (v := ?_) (a' := ?_) #[true, false, false, false, false] rfl rfl (by kernel_rfl) (fun _ _ _ h => h) (Or.inl ⟨by rfl, ?_⟩) hHeld ?_ ?_; rotate_left; (intro w' hS'; obtain ⟨x0, x1'⟩ := cells2 (blk_below HB7.out hS'); go_simp; with_reducible rfl); rotate_left; (go_simp; rfl)
      refine take_ (i := 1) (N := (some 39)) (v := ?_) (a' := ?_) #[true, true, false, false, false] rfl rfl (by kernel_rfl) (fun _ _ _ h => h) (Or.inl ⟨by rfl, ?_⟩) hHeld ?_ ?_; rotate_left; (intro w' hS'; obtain ⟨x0, x1'⟩ := cells2 (blk_below HB2.out hS'); go_simp; with_reducible rfl); rotate_left; (go_simp; rfl)
      refine one_ (i := 2) (N := (some 40)) #[true, true, true, false, false] rfl rfl (by kernel_rfl) (by decide) (fun K hK => ?_)
      refine goes_ Try.func26 (by kernel_rfl) rfl #[.agg #[.slice A1 P0.length k1, .slice A2 S0.length k2]] (by rfl) rfl rfl (by simp only [List.map_toArray, List.map_cons, List.map_nil]; rfl) ?_
      refine (toT.calls A1 k1 P0 A2 k2 S0 P S wd (HCP.out _ HBW0.out) HC1.out (HCS.out _ HBW0.out) HC2.out (by have := HL.out.1; omega) (by have := HL.out.2; omega) HP.out HS.out).mono ?_
      rintro e w8 ⟨Y1, y1, Y2, y2, rfl, hT, hBq⟩
      have hsz8 := hBq.size
      have HY := Aside0.mk hT
      clear hT
      refine ⟨_, rfl, hK.out _ _ hBq (fun hH2 => ?_)⟩
      clear hHeld
      replace HW := Aside0.mk (HW.out.below hBq)
      replace HX := Aside0.mk (HX.out.below hBq)
      replace HG := Aside0.mk (HG.out.below hBq)
      replace HB2 := Aside0.mk (blk_below HB2.out hBq)
      replace HB3 := Aside0.mk (blk_below HB3.out hBq)
      replace HB6 := Aside0.mk (blk_below HB6.out hBq)
      replace HB7 := Aside0.mk (blk_below HB7.out hBq)
      replace HB8 := Aside0.mk (blk_below HB8.out hBq)
      replace HBW0 := Aside0.mk (below_then HBW0.out HBW0.out.size hBq)
      replace HB45 := Aside0.mk (below_then HB45.out HB45.out.size hBq)
      clear hBq
      clear hK K
      refine norm_ (a' := ?_) ?_ ?_; rotate_left; (show Act.put _ (some 40) _ = _; go_simp; rfl)
      refine one_ (i := 3) (N := (some 41)) #[true, true, true, true, false] rfl rfl (by kernel_rfl) (by decide) (fun K hK => ?_)
      refine goes_ Try.func18 (by kernel_rfl) rfl #[.agg #[.slice X1 P.length x1, .slice X2 S.length x2], .agg #[.slice Y1 P.length y1, .slice Y2 S.length y2]] (by rfl) rfl rfl (by simp only [List.map_toArray, List.map_cons, List.map_nil]; rfl) ?_
      refine (HX.out.eq HY.out).mono ?_
      rintro e w9 ⟨rfl, hBq⟩
      have hsz9 := hBq.size
      refine ⟨_, rfl, hK.out _ _ (below_then hH2 hH2.size hBq) (fun _ => ?_)⟩
      clear hH2 HY
      replace HW := Aside0.mk (HW.out.below hBq)
      replace HX := Aside0.mk (HX.out.below hBq)
      replace HG := Aside0.mk (HG.out.below hBq)
      replace HB2 := Aside0.mk (blk_below HB2.out hBq)
      replace HB3 := Aside0.mk (blk_below HB3.out hBq)
      replace HB6 := Aside0.mk (blk_below HB6.out hBq)
      replace HB7 := Aside0.mk (blk_below HB7.out hBq)
      replace HB8 := Aside0.mk (blk_below HB8.out hBq)
      replace HBW0 := Aside0.mk (below_then HBW0.out HBW0.out.size hBq)
      replace HB45 := Aside0.mk (below_then HB45.out HB45.out.size hBq)
      clear hBq
      clear hK K
      refine norm_ (a' := ?_) ?_ ?_; rotate_left; (show Act.put _ (some 41) _ = _; go_simp; rfl)
      refine pure_ (i := 4) (N := (some 42)) (v := ?_) (a' := ?_) #[true, true, true, true, true] rfl rfl (by kernel_rfl) (fun _ _ _ h => h) (Or.inl ⟨by rfl, ?_⟩) ?_ ?_; rotate_left; (intro w'; go_simp; with_reducible rfl); rotate_left; (go_simp; rfl)
      refine done_ (by kernel_rfl) ?_
      obtain ⟨x0, x1'⟩ := cells2 HB7.out
      go_wp2_with fail
      clear x0 x1'
      refine (HeldT.mark HB45.out (HX.out) HSZ.out).mono ?_
      rintro e w10 ⟨rfl, hX10, hB10, hK10⟩
      have hsz10 := hK10.1
      have hneg1 : ¬ ((1 : Int) + 2 * (P.length : Int) + 4 * (S.length : Int) < 0) := by omega
      replace HB2 := Aside0.mk (blk_kept HB2.out hK10 (by omega))
      replace HB3 := Aside0.mk (blk_kept HB3.out hK10 (by omega))
      replace HB6 := Aside0.mk (blk_kept HB6.out hK10 (by omega))
      replace HB8 := Aside0.mk (blk_kept HB8.out hK10 (by omega))
      replace HG := Aside0.mk (HG.out.kept hK10 (fun k h1 h2 => by omega))
      replace HW := Aside0.mk (HW.out.kept hK10 (fun k h1 h2 => by omega))
      clear HB7 HX HB45 hX10 hK10
      have HB45 := Aside0.mk hB10
      have HBW0 := Aside0.mk (below_then HBW4.out HBW4.out.size hB10)
      clear hB10
      obtain ⟨x0, x1', x2', x3, x4⟩ := cells5 HB8.out
      obtain ⟨y0, y1, y2, y3, y4⟩ := cells5 HB6.out
      go_wp2_with fail
      clear x0 x1' x2' x3 x4 y0 y1 y2 y3 y4
      refine (HeldT.eqA f0 f1 f2 HG.out HW.out).mono ?_
      rintro e w11 ⟨rfl, hBq⟩
      have hsz11 := hBq.size
      replace HW := Aside0.mk (HW.out.below hBq)
      replace HG := Aside0.mk (HG.out.below hBq)
      replace HB2 := Aside0.mk (blk_below HB2.out hBq)
      replace HB3 := Aside0.mk (blk_below HB3.out hBq)
      replace HB6 := Aside0.mk (blk_below HB6.out hBq)
      replace HB8 := Aside0.mk (blk_below HB8.out hBq)
      replace HBW0 := Aside0.mk (below_then HBW0.out HBW0.out.size hBq)
      replace HB45 := Aside0.mk (below_then HB45.out HB45.out.size hBq)
      clear hBq hneg1
      obtain ⟨x0, x1', x2', x3, x4⟩ := cells5 HB8.out
      go_wp2_with fail
      clear x0 x1' x2' x3 x4
      refine (HeldT.markA f0 f1 f2 HB45.out (HG.out.lower (show w4.heap.size ≤ w5.heap.size by omega)) HSZ9.out).mono ?_
      rintro e w12 ⟨rfl, hG12, hB12, hK12⟩
      have hsz12 := hK12.1
      have hneg2 : ¬ ((1 : Int) + 2 * (P9.length : Int) + 4 * (S9.length : Int) < 0) := by omega
      replace HB2 := Aside0.mk (blk_kept HB2.out hK12 (by omega))
      replace HB3 := Aside0.mk (blk_kept HB3.out hK12 (by omega))
      replace HB6 := Aside0.mk (blk_kept HB6.out hK12 (by omega))
      replace HB8 := Aside0.mk (blk_kept HB8.out hK12 (by omega))
      replace HW := Aside0.mk (HW.out.kept hK12 (fun k h1 h2 => by omega))
      clear HG HB45 HBW0 hK12
      have HM := Aside0.mk hG12
      have HB45 := Aside0.mk hB12
      have HBW0 := Aside0.mk (below_then HBW4.out HBW4.out.size hB12)
      clear hB12 hG12
      obtain ⟨x0, x1', x2', x3, x4⟩ := cells5 HB8.out
      go_wp2_with fail
      clear x0 x1' x2' x3 x4
      refine (HeldT.heldA f0 f1 f2 HM.out HSZ9.out).mono ?_
      rintro e w14 ⟨rfl, hBq⟩
      have hsz14 := hBq.size
      replace HW := Aside0.mk (HW.out.below hBq)
      replace HM := Aside0.mk (HM.out.below hBq)
      replace HB2 := Aside0.mk (blk_below HB2.out hBq)
      replace HB3 := Aside0.mk (blk_below HB3.out hBq)
      replace HB6 := Aside0.mk (blk_below HB6.out hBq)
      replace HB8 := Aside0.mk (blk_below HB8.out hBq)
      replace HBW0 := Aside0.mk (below_then HBW0.out HBW0.out.size hBq)
      replace HB45 := Aside0.mk (below_then HB45.out HB45.out.size hBq)
      clear hBq
      go_wp2_with fail
      obtain ⟨wd, hwd⟩ : ∃ wd, wd = w14.drew := ⟨_, rfl⟩
      have HBD : Aside0 (Below w14.heap.size w14 wd) := ⟨by rw [hwd]; exact below_drew1 (Below.refl _ _)⟩
      have hszd := HBD.out.size
      have hszd' : wd.heap.size ≤ w14.heap.size := by rw [hwd]; exact Nat.le_refl _
      have HBW := Aside0.mk (below_then HBW0.out HBW0.out.size HBD.out)
      have Hd2 := Aside0.mk (blk_below HB2.out HBD.out)
      have Hd3 := Aside0.mk (blk_below HB3.out HBD.out)
      refine start_ (n := 7) (S := fun w' => Below wd.heap.size wd w') (ds := [6]) #[false, false, false, false, false, false, false] (by kernel_rfl) rfl rfl (by rw [← hwd]; exact Below.refl _ _) (fun hHeld => ?_)
      rw [← hwd] at hHeld ⊢
      clear hwd
      refine take_ (i := 0) (N := (some 65)) (v := ?_) (a' := ?_) #[true, false, false, false, false, false, false] rfl rfl (by kernel_rfl) (fun _ _ _ h => h) (Or.inl ⟨by rfl, ?_⟩) hHeld ?_ ?_; rotate_left; (intro w' hS'; obtain ⟨x0, x1'⟩ := cells2 (blk_below Hd2.out hS'); go_simp; with_reducible rfl); rotate_left; (go_simp; rfl)
      refine take_ (i := 2) (N := (some 67)) (v := ?_) (a' := ?_) #[true, false, true, false, false, false, false] rfl rfl (by kernel_rfl) (fun _ _ _ h => h) (Or.inl ⟨by rfl, ?_⟩) hHeld ?_ ?_; rotate_left; (intro w' hS'; obtain ⟨x0, x1', x2', x3, x4, x5⟩ := cells6 (blk_below Hd3.out hS'); go_simp; with_reducible rfl); rotate_left; (go_simp; rfl)
      refine join_ (σ := J3) 1 #[true, true, true, true, true, true, false] (fun s => [(66, s.v), (68, .agg #[.int .i64 c0, .int .i64 c1, .int .i64 c2, .string key, .string val, .string old]), (69, s.ans), (12, .pointer (some ⟨s.b, 0, none⟩))]) (fun s w' => JoinA f0 f1 f2 P9 S9 wd s.ans s.b w') (fun s w' hs => ?_) (fun hcont => ?_)
      rotate_left
      · have HDh := Aside0.mk hHeld
        refine two_ (i := 1) (j := 5) (Ni := (some 66)) (Nj := (some 12)) #[true, true, true, false, false, false, false] #[true, false, true, false, false, true, false] rfl rfl rfl rfl (by kernel_rfl) (by decide) (by decide) (fun K hK => ?_) (fun K hK => ?_)
        · refine goes_ Try.func26 (by kernel_rfl) rfl #[.agg #[.slice A1 P0.length k1, .slice A2 S0.length k2]] (by rfl) rfl rfl (by simp only [List.map_toArray, List.map_cons, List.map_nil]; rfl) ?_
          refine (toT.calls A1 k1 P0 A2 k2 S0 P S wd (HCP.out _ (below_then HBW.out HBW.out.size HDh.out)) HC1.out (HCS.out _ (below_then HBW.out HBW.out.size HDh.out)) HC2.out (by have := HL.out.1; omega) (by have := HL.out.2; omega) HP.out HS.out).mono ?_
          rintro e wq0 ⟨X1, x1, X2, x2, rfl, hT, hBc⟩
          have hs0 := hBc.size
          have Dh0 := Aside0.mk (below_then HDh.out HDh.out.size hBc)
          have Th0 := Aside0.mk hT
          clear hT
          refine ⟨_, rfl, hK.out _ _ Dh0.out (fun _ => ?_)⟩
          clear hBc
          clear hK K
          refine norm_ (a' := ?_) ?_ ?_; rotate_left; (show Act.put _ (some 66) _ = _; go_simp; rfl)
          refine two_ (i := 3) (j := 5) (Ni := (some 68)) (Nj := (some 12)) #[true, true, true, true, false, false, false] #[true, true, true, false, false, true, false] rfl rfl rfl rfl (by kernel_rfl) (by decide) (by decide) (fun K hK => ?_) (fun K hK => ?_)
          · refine goes_ Try.func27 (by kernel_rfl) rfl #[.agg #[.int .i64 c0, .int .i64 c1, .int .i64 c2, .string key, .string val, .string old]] (by rfl) rfl rfl (by simp only [List.map_toArray, List.map_cons, List.map_nil]; rfl) ?_
            refine (laws_toCmd.calls c0 c1 c2 key val old _ _ _ _ _ _ wq0 rfl).mono ?_
            rintro e wq1 ⟨rfl, hBc⟩
            have hs1 := hBc.size
            have Dh1 := Aside0.mk (below_then Dh0.out Dh0.out.size hBc)
            have Th1 := Aside0.mk (Th0.out.below hBc)
            refine ⟨_, rfl, hK.out _ _ Dh1.out (fun _ => ?_)⟩
            clear hBc
            clear hK K
            refine norm_ (a' := ?_) ?_ ?_; rotate_left; (show Act.put _ (some 68) _ = _; go_simp; rfl)
            refine two_ (i := 4) (j := 5) (Ni := (some 69)) (Nj := (some 12)) #[true, true, true, true, true, false, false] #[true, true, true, true, false, true, false] rfl rfl rfl rfl (by kernel_rfl) (by decide) (by decide) (fun K hK => ?_) (fun K hK => ?_)
            · refine goes_ Try.func28 (by kernel_rfl) rfl #[.agg #[.slice X1 P.length x1, .slice X2 S.length x2], .agg #[.int .i64 c0, .int .i64 c1, .int .i64 c2, .string key, .string val, .string old]] (by rfl) rfl rfl (by simp only [List.map_toArray, List.map_cons, List.map_nil]; rfl) ?_
              refine (impl_gives HF.out X1 x1 X2 x2 wq1 Th1.out HL2.out HK.out).mono ?_
              rintro e wq2 ⟨B1, e1, B2, e2, rfl, hA, hBc⟩
              have hs2 := hBc.size
              have Dh2 := Aside0.mk (below_then Dh1.out Dh1.out.size hBc)
              have Th2 := Aside0.mk (Th1.out.below hBc)
              have Ah2 := Aside0.mk (HeldT.bound hA)
              clear hA
              refine ⟨_, rfl, hK.out _ _ Dh2.out (fun _ => ?_)⟩
              clear hBc
              clear hK K
              refine norm_ (a' := ?_) ?_ ?_; rotate_left; (show Act.put _ (some 69) _ = _; go_simp; rfl)
              refine one_ (i := 5) (N := (some 12)) #[true, true, true, true, true, true, false] rfl rfl (by kernel_rfl) (by decide) (fun K hK => ?_)
              refine value_ (w1 := ?_) (v := ?_) (by rfl) rfl ?_ ?_; rotate_left 2; (go_simp; constructor; rfl; rfl)
              have hBc := below_alloc (Below.refl wq2.heap.size wq2) (.cells #[.int .i64 0, .int .i64 0, .string ⟨#[]⟩, .slice none 0 0, .slice none 0 0] 58)
              have Dh3 := Aside0.mk (below_then Dh2.out Dh2.out.size hBc)
              have Zh3 := Aside0.mk (blk_new wq2 (.cells #[.int .i64 0, .int .i64 0, .string ⟨#[]⟩, .slice none 0 0, .slice none 0 0] 58))
              have Th3 := Aside0.mk (Th2.out.below hBc)
              have Ah3 := Aside0.mk (Ah2.out.below hBc)
              refine hK.out _ _ Dh3.out (fun _ => ?_)
              clear hK K
              refine norm_ (a' := ?_) ?_ ?_; rotate_left; (show Act.put _ (some 12) _ = _; go_simp; rfl)
              obtain ⟨wq3, hw⟩ : ∃ x, x = wq2.alloc (.cells #[.int .i64 0, .int .i64 0, .string ⟨#[]⟩, .slice none 0 0, .slice none 0 0] 58) := ⟨_, rfl⟩
              rw [← hw] at Dh3 Zh3 Th3 Ah3 ⊢
              clear hw hBc
              have hs3 : wq2.heap.size < wq3.heap.size := blk_lt Zh3.out
              have hj : JoinA f0 f1 f2 P9 S9 wd (.agg #[.int .i64 f0, .int .i64 f1, .string f2, .slice B1 P9.length e1, .slice B2 S9.length e2]) wq2.heap.size wq3 := ⟨B1, e1, B2, e2, rfl, (Ah3.out.lower (by omega)).mono (fun k hk => ⟨by omega, by omega, by omega⟩), Zh3.out, by omega, by omega, Dh3.out⟩
              refine norm_ (a' := putAll _ _) ?_ (hcont ⟨.agg #[.slice X1 P.length x1, .slice X2 S.length x2], .agg #[.int .i64 f0, .int .i64 f1, .string f2, .slice B1 P9.length e1, .slice B2 S9.length e2], wq2.heap.size⟩ wq3 hj)
              simp only [putAll, Act.put, List.setIfInBounds_toArray, List.set_cons_zero, List.set_cons_succ]
            · refine value_ (w1 := ?_) (v := ?_) (by rfl) rfl ?_ ?_; rotate_left 2; (go_simp; constructor; rfl; rfl)
              have hBc := below_alloc (Below.refl wq1.heap.size wq1) (.cells #[.int .i64 0, .int .i64 0, .string ⟨#[]⟩, .slice none 0 0, .slice none 0 0] 58)
              have Dh2 := Aside0.mk (below_then Dh1.out Dh1.out.size hBc)
              have Zh2 := Aside0.mk (blk_new wq1 (.cells #[.int .i64 0, .int .i64 0, .string ⟨#[]⟩, .slice none 0 0, .slice none 0 0] 58))
              have Th2 := Aside0.mk (Th1.out.below hBc)
              refine hK.out _ _ Dh2.out (fun _ => ?_)
              clear hK K
              refine norm_ (a' := ?_) ?_ ?_; rotate_left; (show Act.put _ (some 12) _ = _; go_simp; rfl)
              obtain ⟨wq2, hw⟩ : ∃ x, x = wq1.alloc (.cells #[.int .i64 0, .int .i64 0, .string ⟨#[]⟩, .slice none 0 0, .slice none 0 0] 58) := ⟨_, rfl⟩
              rw [← hw] at Dh2 Zh2 Th2 ⊢
              clear hw hBc
              have hs2 : wq1.heap.size < wq2.heap.size := blk_lt Zh2.out
              refine one_ (i := 4) (N := (some 69)) #[true, true, true, true, true, true, false] rfl rfl (by kernel_rfl) (by decide) (fun K hK => ?_)
              refine goes_ Try.func28 (by kernel_rfl) rfl #[.agg #[.slice X1 P.length x1, .slice X2 S.length x2], .agg #[.int .i64 c0, .int .i64 c1, .int .i64 c2, .string key, .string val, .string old]] (by rfl) rfl rfl (by simp only [List.map_toArray, List.map_cons, List.map_nil]; rfl) ?_
              refine (impl_gives HF.out X1 x1 X2 x2 wq2 Th2.out HL2.out HK.out).mono ?_
              rintro e wq3 ⟨B1, e1, B2, e2, rfl, hA, hBc⟩
              have hs3 := hBc.size
              have Dh3 := Aside0.mk (below_then Dh2.out Dh2.out.size hBc)
              have Th3 := Aside0.mk (Th2.out.below hBc)
              have Ah3 := Aside0.mk (HeldT.bound hA)
              clear hA
              have Zh3 := Aside0.mk (blk_below Zh2.out hBc)
              refine ⟨_, rfl, hK.out _ _ Dh3.out (fun _ => ?_)⟩
              clear hBc
              clear hK K
              refine norm_ (a' := ?_) ?_ ?_; rotate_left; (show Act.put _ (some 69) _ = _; go_simp; rfl)
              have hj : JoinA f0 f1 f2 P9 S9 wd (.agg #[.int .i64 f0, .int .i64 f1, .string f2, .slice B1 P9.length e1, .slice B2 S9.length e2]) wq1.heap.size wq3 := ⟨B1, e1, B2, e2, rfl, (Ah3.out.lower (by omega)).mono (fun k hk => ⟨by omega, by omega, by omega⟩), Zh3.out, by omega, by omega, Dh3.out⟩
              refine norm_ (a' := putAll _ _) ?_ (hcont ⟨.agg #[.slice X1 P.length x1, .slice X2 S.length x2], .agg #[.int .i64 f0, .int .i64 f1, .string f2, .slice B1 P9.length e1, .slice B2 S9.length e2], wq1.heap.size⟩ wq3 hj)
              simp only [putAll, Act.put, List.setIfInBounds_toArray, List.set_cons_zero, List.set_cons_succ]
          · refine value_ (w1 := ?_) (v := ?_) (by rfl) rfl ?_ ?_; rotate_left 2; (go_simp; constructor; rfl; rfl)
            have hBc := below_alloc (Below.refl wq0.heap.size wq0) (.cells #[.int .i64 0, .int .i64 0, .string ⟨#[]⟩, .slice none 0 0, .slice none 0 0] 58)
            have Dh1 := Aside0.mk (below_then Dh0.out Dh0.out.size hBc)
            have Zh1 := Aside0.mk (blk_new wq0 (.cells #[.int .i64 0, .int .i64 0, .string ⟨#[]⟩, .slice none 0 0, .slice none 0 0] 58))
            have Th1 := Aside0.mk (Th0.out.below hBc)
            refine hK.out _ _ Dh1.out (fun _ => ?_)
            clear hK K
            refine norm_ (a' := ?_) ?_ ?_; rotate_left; (show Act.put _ (some 12) _ = _; go_simp; rfl)
            obtain ⟨wq1, hw⟩ : ∃ x, x = wq0.alloc (.cells #[.int .i64 0, .int .i64 0, .string ⟨#[]⟩, .slice none 0 0, .slice none 0 0] 58) := ⟨_, rfl⟩
            rw [← hw] at Dh1 Zh1 Th1 ⊢
            clear hw hBc
            have hs1 : wq0.heap.size < wq1.heap.size := blk_lt Zh1.out
            refine one_ (i := 3) (N := (some 68)) #[true, true, true, true, false, true, false] rfl rfl (by kernel_rfl) (by decide) (fun K hK => ?_)
            refine goes_ Try.func27 (by kernel_rfl) rfl #[.agg #[.int .i64 c0, .int .i64 c1, .int .i64 c2, .string key, .string val, .string old]] (by rfl) rfl rfl (by simp only [List.map_toArray, List.map_cons, List.map_nil]; rfl) ?_
            refine (laws_toCmd.calls c0 c1 c2 key val old _ _ _ _ _ _ wq1 rfl).mono ?_
            rintro e wq2 ⟨rfl, hBc⟩
            have hs2 := hBc.size
            have Dh2 := Aside0.mk (below_then Dh1.out Dh1.out.size hBc)
            have Th2 := Aside0.mk (Th1.out.below hBc)
            have Zh2 := Aside0.mk (blk_below Zh1.out hBc)
            refine ⟨_, rfl, hK.out _ _ Dh2.out (fun _ => ?_)⟩
            clear hBc
            clear hK K
            refine norm_ (a' := ?_) ?_ ?_; rotate_left; (show Act.put _ (some 68) _ = _; go_simp; rfl)
            refine one_ (i := 4) (N := (some 69)) #[true, true, true, true, true, true, false] rfl rfl (by kernel_rfl) (by decide) (fun K hK => ?_)
            refine goes_ Try.func28 (by kernel_rfl) rfl #[.agg #[.slice X1 P.length x1, .slice X2 S.length x2], .agg #[.int .i64 c0, .int .i64 c1, .int .i64 c2, .string key, .string val, .string old]] (by rfl) rfl rfl (by simp only [List.map_toArray, List.map_cons, List.map_nil]; rfl) ?_
            refine (impl_gives HF.out X1 x1 X2 x2 wq2 Th2.out HL2.out HK.out).mono ?_
            rintro e wq3 ⟨B1, e1, B2, e2, rfl, hA, hBc⟩
            have hs3 := hBc.size
            have Dh3 := Aside0.mk (below_then Dh2.out Dh2.out.size hBc)
            have Th3 := Aside0.mk (Th2.out.below hBc)
            have Ah3 := Aside0.mk (HeldT.bound hA)
            clear hA
            have Zh3 := Aside0.mk (blk_below Zh2.out hBc)
            refine ⟨_, rfl, hK.out _ _ Dh3.out (fun _ => ?_)⟩
            clear hBc
            clear hK K
            refine norm_ (a' := ?_) ?_ ?_; rotate_left; (show Act.put _ (some 69) _ = _; go_simp; rfl)
            have hj : JoinA f0 f1 f2 P9 S9 wd (.agg #[.int .i64 f0, .int .i64 f1, .string f2, .slice B1 P9.length e1, .slice B2 S9.length e2]) wq0.heap.size wq3 := ⟨B1, e1, B2, e2, rfl, (Ah3.out.lower (by omega)).mono (fun k hk => ⟨by omega, by omega, by omega⟩), Zh3.out, by omega, by omega, Dh3.out⟩
            refine norm_ (a' := putAll _ _) ?_ (hcont ⟨.agg #[.slice X1 P.length x1, .slice X2 S.length x2], .agg #[.int .i64 f0, .int .i64 f1, .string f2, .slice B1 P9.length e1, .slice B2 S9.length e2], wq0.heap.size⟩ wq3 hj)
            simp only [putAll, Act.put, List.setIfInBounds_toArray, List.set_cons_zero, List.set_cons_succ]
        · refine value_ (w1 := ?_) (v := ?_) (by rfl) rfl ?_ ?_; rotate_left 2; (go_simp; constructor; rfl; rfl)
          have hBc := below_alloc (Below.refl wd.heap.size wd) (.cells #[.int .i64 0, .int .i64 0, .string ⟨#[]⟩, .slice none 0 0, .slice none 0 0] 58)
          have Dh0 := Aside0.mk (below_then HDh.out HDh.out.size hBc)
          have Zh0 := Aside0.mk (blk_new wd (.cells #[.int .i64 0, .int .i64 0, .string ⟨#[]⟩, .slice none 0 0, .slice none 0 0] 58))
          refine hK.out _ _ Dh0.out (fun _ => ?_)
          clear hK K
          refine norm_ (a' := ?_) ?_ ?_; rotate_left; (show Act.put _ (some 12) _ = _; go_simp; rfl)
          obtain ⟨wq0, hw⟩ : ∃ x, x = wd.alloc (.cells #[.int .i64 0, .int .i64 0, .string ⟨#[]⟩, .slice none 0 0, .slice none 0 0] 58) := ⟨_, rfl⟩
          rw [← hw] at Dh0 Zh0 ⊢
          clear hw hBc
          have hs0 : wd.heap.size < wq0.heap.size := blk_lt Zh0.out
          refine one_ (i := 1) (N := (some 66)) #[true, true, true, false, false, true, false] rfl rfl (by kernel_rfl) (by decide) (fun K hK => ?_)
          refine goes_ Try.func26 (by kernel_rfl) rfl #[.agg #[.slice A1 P0.length k1, .slice A2 S0.length k2]] (by rfl) rfl rfl (by simp only [List.map_toArray, List.map_cons, List.map_nil]; rfl) ?_
          refine (toT.calls A1 k1 P0 A2 k2 S0 P S wq0 (HCP.out _ (below_then HBW.out HBW.out.size Dh0.out)) HC1.out (HCS.out _ (below_then HBW.out HBW.out.size Dh0.out)) HC2.out (by have := HL.out.1; omega) (by have := HL.out.2; omega) HP.out HS.out).mono ?_
          rintro e wq1 ⟨X1, x1, X2, x2, rfl, hT, hBc⟩
          have hs1 := hBc.size
          have Dh1 := Aside0.mk (below_then Dh0.out Dh0.out.size hBc)
          have Th1 := Aside0.mk hT
          clear hT
          have Zh1 := Aside0.mk (blk_below Zh0.out hBc)
          refine ⟨_, rfl, hK.out _ _ Dh1.out (fun _ => ?_)⟩
          clear hBc
          clear hK K
          refine norm_ (a' := ?_) ?_ ?_; rotate_left; (show Act.put _ (some 66) _ = _; go_simp; rfl)
          refine one_ (i := 3) (N := (some 68)) #[true, true, true, true, false, true, false] rfl rfl (by kernel_rfl) (by decide) (fun K hK => ?_)
          refine goes_ Try.func27 (by kernel_rfl) rfl #[.agg #[.int .i64 c0, .int .i64 c1, .int .i64 c2, .string key, .string val, .string old]] (by rfl) rfl rfl (by simp only [List.map_toArray, List.map_cons, List.map_nil]; rfl) ?_
          refine (laws_toCmd.calls c0 c1 c2 key val old _ _ _ _ _ _ wq1 rfl).mono ?_
          rintro e wq2 ⟨rfl, hBc⟩
          have hs2 := hBc.size
          have Dh2 := Aside0.mk (below_then Dh1.out Dh1.out.size hBc)
          have Th2 := Aside0.mk (Th1.out.below hBc)
          have Zh2 := Aside0.mk (blk_below Zh1.out hBc)
          refine ⟨_, rfl, hK.out _ _ Dh2.out (fun _ => ?_)⟩
          clear hBc
          clear hK K
          refine norm_ (a' := ?_) ?_ ?_; rotate_left; (show Act.put _ (some 68) _ = _; go_simp; rfl)
          refine one_ (i := 4) (N := (some 69)) #[true, true, true, true, true, true, false] rfl rfl (by kernel_rfl) (by decide) (fun K hK => ?_)
          refine goes_ Try.func28 (by kernel_rfl) rfl #[.agg #[.slice X1 P.length x1, .slice X2 S.length x2], .agg #[.int .i64 c0, .int .i64 c1, .int .i64 c2, .string key, .string val, .string old]] (by rfl) rfl rfl (by simp only [List.map_toArray, List.map_cons, List.map_nil]; rfl) ?_
          refine (impl_gives HF.out X1 x1 X2 x2 wq2 Th2.out HL2.out HK.out).mono ?_
          rintro e wq3 ⟨B1, e1, B2, e2, rfl, hA, hBc⟩
          have hs3 := hBc.size
          have Dh3 := Aside0.mk (below_then Dh2.out Dh2.out.size hBc)
          have Th3 := Aside0.mk (Th2.out.below hBc)
          have Ah3 := Aside0.mk (HeldT.bound hA)
          clear hA
          have Zh3 := Aside0.mk (blk_below Zh2.out hBc)
          refine ⟨_, rfl, hK.out _ _ Dh3.out (fun _ => ?_)⟩
          clear hBc
          clear hK K
          refine norm_ (a' := ?_) ?_ ?_; rotate_left; (show Act.put _ (some 69) _ = _; go_simp; rfl)
          have hj : JoinA f0 f1 f2 P9 S9 wd (.agg #[.int .i64 f0, .int .i64 f1, .string f2, .slice B1 P9.length e1, .slice B2 S9.length e2]) wd.heap.size wq3 := ⟨B1, e1, B2, e2, rfl, (Ah3.out.lower (by omega)).mono (fun k hk => ⟨by omega, by omega, by omega⟩), Zh3.out, by omega, by omega, Dh3.out⟩
          refine norm_ (a' := putAll _ _) ?_ (hcont ⟨.agg #[.slice X1 P.length x1, .slice X2 S.length x2], .agg #[.int .i64 f0, .int .i64 f1, .string f2, .slice B1 P9.length e1, .slice B2 S9.length e2], wd.heap.size⟩ wq3 hj)
          simp only [putAll, Act.put, List.setIfInBounds_toArray, List.set_cons_zero, List.set_cons_succ]
      obtain ⟨vx, ans, b⟩ := s
      obtain ⟨B1, e1, B2, e2, hse, hH, hz, hbd, hbe, hBd⟩ := hs
      simp only at hse hH hz hbd hbe
      subst hse
      refine norm_ (a' := ?_) ?_ ?_; rotate_left; (simp only [putAll, Act.put, List.setIfInBounds_toArray, List.set_cons_zero, List.set_cons_succ]; rfl)
      refine last_ (i := 6) (N := none) #[true, true, true, true, true, true, true] rfl rfl (by kernel_rfl) (by decide) (fun K hK => ?_)
      obtain ⟨z0, z1, z2, z3, z4⟩ := cells5 hz
      obtain ⟨g0, g1, g2, g3, g4⟩ := frozen5 hz
      refine skip_ (w1 := ?_) (by rfl) rfl ?_ ?_; rotate_left; (go_simp; rfl)
      refine hK.out _ _ ?_
      clear hK K
      refine done_ (by kernel_rfl) ?_
      clear z0 z1 z2 z3 z4 g0 g1 g2 g3 g4
      have hput : put5 w' b (.int .i64 f0) (.int .i64 f1) (.string f2) (.slice B1 P9.length e1) (.slice B2 S9.length e2) = ((((w'.setCell ⟨b, 0, none⟩ (.int .i64 f0)).setCell ⟨b, 1, none⟩ (.int .i64 f1)).setCell ⟨b, 2, none⟩ (.string f2)).setCell ⟨b, 3, none⟩ (.slice B1 P9.length e1)).setCell ⟨b, 4, none⟩ (.slice B2 S9.length e2) := rfl
      have h1 := put5_blk (u0 := .int .i64 f0) (u1 := .int .i64 f1) (u2 := .string f2) (u3 := .slice B1 P9.length e1) (u4 := .slice B2 S9.length e2) hz
      have h2 := hH.put5 (.int .i64 f0) (.int .i64 f1) (.string f2) (.slice B1 P9.length e1) (.slice B2 S9.length e2) hz
      have h3 := below_put5 (u0 := .int .i64 f0) (u1 := .int .i64 f1) (u2 := .string f2) (u3 := .slice B1 P9.length e1) (u4 := .slice B2 S9.length e2) hBd hbd
      have h4 : (put5 w' b (.int .i64 f0) (.int .i64 f1) (.string f2) (.slice B1 P9.length e1) (.slice B2 S9.length e2)).heap.size = w'.heap.size := by simp [put5]
      rw [← hput]
      obtain ⟨w15, hw⟩ : ∃ x, x = put5 w' b (.int .i64 f0) (.int .i64 f1) (.string f2) (.slice B1 P9.length e1) (.slice B2 S9.length e2) := ⟨_, rfl⟩
      rw [← hw] at h1 h2 h3 h4 ⊢
      clear hw hput hz hH hBd
      obtain ⟨b12, hbn⟩ : ∃ x, x = b := ⟨_, rfl⟩
      subst hbn
      have hlob12 : w14.heap.size ≤ b12 := by omega
      have hhib12 : b12 < w15.heap.size := by omega
      have HB12 := Aside0.mk h1
      have HV := Aside0.mk ((h2.lower (show w14.heap.size ≤ wd.heap.size by omega)).mono (ok' := fun k => w14.heap.size ≤ k ∧ k < w15.heap.size ∧ k ≠ b12) (fun k hk => ⟨by omega, by omega, by omega⟩))
      have hBq := below_then HBD.out hszd h3
      have hszw15 := hBq.size
      clear h1 h2 h3 h4 hbd hbe hszd hszd' HBD Hd2 Hd3 HBW
      replace HW := Aside0.mk (HW.out.below hBq)
      replace HM := Aside0.mk (HM.out.below hBq)
      replace HB6 := Aside0.mk (blk_below HB6.out hBq)
      replace HB8 := Aside0.mk (blk_below HB8.out hBq)
      replace HBW0 := Aside0.mk (below_then HBW0.out HBW0.out.size hBq)
      clear hBq
      obtain ⟨x0, x1', x2', x3, x4⟩ := cells5 HB12.out
      obtain ⟨y0, y1, y2, y3, y4⟩ := cells5 HB6.out
      go_wp2_with fail
      clear x0 x1' x2' x3 x4 y0 y1 y2 y3 y4
      refine (HeldT.eqA f0 f1 f2 HV.out HW.out).mono ?_
      rintro e w16 ⟨rfl, hBq⟩
      replace HM := Aside0.mk (HM.out.below hBq)
      replace HB8 := Aside0.mk (blk_below HB8.out hBq)
      replace HBW0 := Aside0.mk (below_then HBW0.out HBW0.out.size hBq)
      clear hBq
      obtain ⟨x0, x1', x2', x3, x4⟩ := cells5 HB8.out
      go_wp2_with fail
      clear x0 x1' x2' x3 x4
      refine (HeldT.heldA f0 f1 f2 HM.out HSZ9.out).mono ?_
      rintro e w17 ⟨rfl, hBq⟩
      have HBW1 := Aside0.mk (below_then HBW0.out HBW0.out.size hBq)
      clear hBq
      go_wp2_with fail
      go_ret
      exact ⟨rfl, HBW1.out⟩
end Go.Proofs.Ytppegigcclflbaa.PFnExactApplyCmd
