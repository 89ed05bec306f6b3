/- What laws.toPacketS and laws.toBag answer: the same packets and walls in new rows. -/
import Derived.Test.YtppegigcclflbaaHCopied
import Derived.Test.YtppegigcclflbaaPFnExactBagWallx1
namespace Go.Proofs.Ytppegigcclflbaa.PFnExactBagWall
open Go.RowKit Go.Proofs.YtppegigcclflbaaW.PrintWords Go.Proofs.YtppegigcclflbaaW.PrintLast Go.Proofs.YtppegigcclflbaaW.PrintMore

section
variable {P : Program} {ops : Array Oper} {rest : List Oper} {o : Oper} {a : Act} {Q : Exit → Act → World → Prop} {α : Type}
/-- A row's element is stored into, and the world is told. -/
theorem store_at (d : Kd α) {W : World} (base : Nat) (hN : o.dst = none) (hgd : o.guard = none) (t : TypeId) (p x : Operand) (ho : o.op = .store t p x) (e : TypeId) {g n cap o' : Nat} (i : Int) (j : Nat) (xs : List α) (u : Value) (seg : List Value) (ok : Nat → Prop)
    (haddr : a.eval p = .pointer (some ⟨g, o', none⟩)) (hoff : o' = i.toNat * d.sz + j) (hx : a.eval x = u) (hu : u.cells.toList = seg) (ht : (P.info? t).map (·.size) = some seg.length) (h1 : ∀ q ∈ seg, q.oneCell' = true)
    (HO : d.R e W base ok (.slice (some ⟨g, 0, none⟩) n cap) xs) (h0 : 0 ≤ i) (hi : i < n)
    (hj : j + seg.length ≤ d.sz)
    (h : wpList P ops Q rest a (W.setCells g (i.toNat * d.sz + j) seg)) : wpList P ops Q (o :: rest) a W := by
  subst hoff
  obtain ⟨_, inner, hown, hr⟩ := HO
  have hil : i.toNat < n := by omega
  refine wpList_plain hgd fun K hK => ?_
  have hrun : (Instr.storeAt t (.pointer (some ⟨g, i.toNat * d.sz + j, none⟩)) u).run P W = .ok () (W.setCells g (i.toNat * d.sz + j) seg) := by
    rcases hown.2 with ⟨hv, _⟩ | ⟨g', cap', cur, hv, hb, hh, hnc, hcm, hcs, _⟩
    · cases hv
    injection hv with ha _ hc
    injection ha with ha
    injection ha with hg'
    subst hg'; subst hc
    refine run_store_run t u seg hh hu ht ?_ h1
    have h2 : i.toNat * d.sz + d.sz ≤ n * d.sz := by rw [← Nat.succ_mul]; exact Nat.mul_le_mul_right _ hil
    have h3 : n * d.sz ≤ cap * d.sz := Nat.mul_le_mul_right _ (by omega)
    omega
  unfold Oper.wp execOp
  simp only [ho, haddr, hx, Sem.run_bind, Sem.run_pure, Result.andThen_ok, hrun]
  show K (a.put o.dst undef) _
  rw [hN]
  exact hK a _ h
theorem below_mono {b c : Nat} {w w' : World} (h : Below c w w') (hbc : b ≤ c) : Below b w w' := ⟨h.os, h.tape, h.output, h.size, fun k hk => h.block k (Nat.lt_of_lt_of_le hk hbc)⟩
theorem below_grown {b g : Nat} {w w' w1 : World} (h : Below b w w') (hb : b ≤ w.heap.size) (hg : b ≤ g) (hr : w'.grownBy w1 (some g)) : Below b w w1 :=
  h.trans ⟨hr.os, hr.tape, hr.output, hr.size, fun k hk => by
    rcases Nat.lt_or_ge k w'.heap.size with hlt | hge
    · exact hr.block k hlt (fun he => by injection he with he; omega)
    · have h2 := h.size
      omega⟩
/-- The walk stands still here. -/
structure Stop (p : Prop) : Prop where mk :: (out : p)
theorem stop_here {a : Act} {W : World} {ops : Array Oper} {rest : List Oper} {P : Program} {o : Oper} {Q : Exit → Act → World → Prop} (h : Stop (wpList P ops Q (o :: rest) a W)) : wpList P ops Q (o :: rest) a W := h.out
end

def cvP (p : S138) : S73 := ⟨p.f0, p.f1, p.f2, p.f3⟩

/-- The first i rows are told. -/
def Told (w0 wr : World) (f : Nat → Nat) (v : Value) (l : List S73) (i : Nat) (rows : List (List Value)) : Prop :=
  rows.length = l.length ∧ (Kd.raw 4).R 73 wr w0.heap.size (fun _ => True) v rows ∧
  ∀ (j : Nat) x r, l[j]? = some x → rows[j]? = some r → j < i → k73.M wr w0.heap.size (fun k => f k = j ∧ some k ≠ v.ownBlock) x r

theorem Told.ends {w0 wr : World} {f : Nat → Nat} {v : Value} {l : List S73} {rows : List (List Value)} (h : Told w0 wr f v l l.length rows) : Kd.S k73 73 wr w0.heap.size (fun _ => True) v l := by
  obtain ⟨hl, ⟨_, inner, ho, hr⟩, hM⟩ := h
  refine ⟨f, fun _ _ => trivial, inner, ?_, ?_, fun j p hj => ?_⟩
  · rw [List.length_zipIdx, ← hl]; exact ho
  · rw [List.length_zipIdx, ← hl]; exact hr.1
  · rw [List.getElem?_zipIdx, Nat.zero_add] at hj
    obtain ⟨x, hx, rfl⟩ := Option.map_eq_some_iff.1 hj
    have hjl : j < l.length := (List.getElem?_eq_some_iff.1 hx).1
    have hjr : rows[j]? = some rows[j] := List.getElem?_eq_getElem (by rw [hl]; exact hjl)
    have h2 := (hr.2 j _ hjr).1
    have h3 := hM j x _ hx hjr hjl
    show k73.M wr w0.heap.size _ x ((inner.drop (j * 4)).take 4)
    rw [show (inner.drop (j * 4)).take 4 = rows[j] from h2]
    exact k73.M_mono (fun k hk => ⟨⟨trivial, hk.2⟩, hk.1⟩) h3

/-- Row j is stored whole. -/
theorem Told.put {w0 wr w3 : World} {f : Nat → Nat} {g n c j : Nat} {l : List S73} {rows : List (List Value)} {x : S73} {v3 : Value}
    (hB : Below w0.heap.size w0 wr) (h : Told w0 wr f (.slice (some ⟨g, 0, none⟩) n c) l j rows) (hx : l[j]? = some x) (hB3 : Below wr.heap.size wr w3) (hR3 : Kd.R (Kd.int .u8) 5 w3 wr.heap.size (fun _ => True) v3 x.f3) :
    ∃ f' rows', Told w0 (w3.setCells g (j * 4) [.int .i64 x.f0, .int .i64 x.f1, .int .i64 x.f2, v3]) f' (.slice (some ⟨g, 0, none⟩) n c) l (j + 1) rows' ∧ w0.heap.size ≤ g ∧ w3.grownBy (w3.setCells g (j * 4) [.int .i64 x.f0, .int .i64 x.f1, .int .i64 x.f2, v3]) (some g) := by
  obtain ⟨hl, hraw, hM⟩ := h
  have hgo : (Value.slice (some ⟨g, 0, none⟩) n c).ownBlock = some g := by simp [Value.ownBlock]
  have hgb : w0.heap.size ≤ g := Kd.R_base hraw g hgo
  have hglt : g < wr.heap.size := Kd.R_lt hraw g hgo
  have hjl : j < rows.length := by rw [hl]; exact (List.getElem?_eq_some_iff.1 hx).1
  have hn : n = rows.length := (Kd.R_reads' hraw).1
  have hraw3 := Kd.R_below hraw hB3
  obtain ⟨q, hq1, hq2, hq3, _⟩ := Kd.R_elem hraw3 [] (j : Int) (by omega) (by omega)
  have hone : v3.oneCell' = true := (Kd.R_val hR3).2
  have hd4 : q.drop 4 = [] := List.drop_eq_nil_of_le (by rw [hq1]; exact Nat.le_refl _)
  have hseg := (Kd.R_seg hraw3 (j : Int) (by omega) (by omega) (c := q) (seg := [.int .i64 x.f0, .int .i64 x.f1, .int .i64 x.f2, v3]) (j := 0) (okp := fun _ => False) hq1 hq3 (by simp [Kd.raw]) (x' := [.int .i64 x.f0, .int .i64 x.f1, .int .i64 x.f2, v3])
    ⟨by simp [hd4], by simp [hd4], fun u hu => by
      simp only [List.take_zero, List.nil_append, List.length_cons, List.length_nil, Nat.zero_add, hd4, List.append_nil, List.mem_cons, List.not_mem_nil, or_false] at hu
      rcases hu with rfl | rfl | rfl | rfl
      · rfl
      · rfl
      · rfl
      · exact hone⟩ (fun _ hk => hk.elim))
  rw [Int.toNat_natCast, Nat.add_zero] at hseg
  obtain ⟨hseg, hgr⟩ := hseg
  refine ⟨fun k => if wr.heap.size ≤ k then j else f k, rows.set j [.int .i64 x.f0, .int .i64 x.f1, .int .i64 x.f2, v3], ⟨by rw [List.length_set]; exact hl, hseg, fun i y r hy hri hij1 => ?_⟩, hgb, hgr⟩
  have hfar : ∀ k, k ≠ g → (w3.setCells g (j * 4) [.int .i64 x.f0, .int .i64 x.f1, .int .i64 x.f2, v3]).heap[k]? = w3.heap[k]? := fun k hk => setCells_far _ _ k hk
  by_cases hij : i = j
  · subst hij
    have hyx : y = x := by rw [hx] at hy; injection hy with hy; exact hy.symm
    subst hyx
    rw [List.getElem?_set_self hjl] at hri
    injection hri with hri
    subst hri
    refine k73_mkM _ _ _ _ ?_
    have h4 := Kd.R_lower (Kd.R_bound hR3) hB.size
    refine Kd.R_mono (Kd.R_move h4 (fun k hk => hfar k (by have := hk.2.1; omega))) (fun k hk => ⟨by simp [hk.2.1], by rw [hgo]; intro he; injection he with he; have := hk.2.1; omega⟩)
  · rw [List.getElem?_set_ne (Ne.symm hij)] at hri
    have h3 := k73.M_bound (hM i y r hy hri (by omega))
    have h4 := Kd.M_step (w1 := w3.setCells g (j * 4) [.int .i64 x.f0, .int .i64 x.f1, .int .i64 x.f2, v3]) h3 (fun k hk hlt => by
      have hkg : k ≠ g := fun he => hk.1.2 (by rw [hgo, he])
      rw [hfar k hkg]
      exact hB3.block k hlt)
    refine k73.M_mono (fun k hk => ⟨?_, hk.1.2⟩) h4
    have := hk.2.2.1
    simp only [if_neg (show ¬ wr.heap.size ≤ k by omega)]
    exact hk.1.1

set_option maxHeartbeats 1600000 in
set_option maxRecDepth 100000 in
theorem toPacketS.calls (k : Nat) (A0 : Option Addr) (c0 : Nat) (l0 : List S138) (w : World) (hr0 : Kd.C k138 w A0 l0.length l0) (hc0 : l0.length ≤ c0) (hl : l0.length * 48 ≤ 281474976710656) (hk : ∀ p ∈ l0, laws_toPacket.f k p.f0 p.f1 p.f2 p.f3 = some (p.f0, p.f1, p.f2, p.f3)) :
    Calls Try.prog 44 #[.slice A0 l0.length c0] w fun e w' => ∃ v0_ : Value, e = .returned v0_ ∧ Kd.S k73 73 w' w.heap.size (fun _ => True) v0_ (l0.map cvP) ∧ Below w.heap.size w w' := by
  have HR := Aside0.mk hr0
  have HC := Aside0.mk hc0
  have HK := Aside0.mk hk
  clear hr0 hc0 hk
  go_enter Try.func44, Try.ntmps44
  go_wp2_with ((with_reducible refine gate_dst (N := 7) rfl ?_); refine Kd.R_make (Kd.raw 4) w.heap.size 73 rfl (N := 7) rfl 27 _ _ rfl (l0.length : Int) rfl rfl Try.underlying27 (.agg #[.int .i64 0, .int .i64 0, .int .i64 0, .slice none 0 0]) 48 info73 rfl (by decide) (by decide) [.int .i64 0, .int .i64 0, .int .i64 0, .slice none 0 0] (ok := fun _ => True) (okp := fun _ => False) ?_ (fun _ h => h.elim) trivial ?_ ?_ (Below.refl _ _) (Nat.le_refl _) ?_)
  · refine ⟨rfl, rfl, fun u hu => ?_⟩
    have hc : (Value.agg #[.int .i64 0, .int .i64 0, .int .i64 0, .slice none 0 0]).cells.toList = [Value.int .i64 0, .int .i64 0, .int .i64 0, .slice none 0 0] := by simp [Value.cells]
    replace hu := hc ▸ hu
    simp only [List.mem_cons, List.not_mem_nil, or_false] at hu
    rcases hu with rfl | rfl | rfl | rfl <;> rfl
  · omega
  · simpa using hl
  intro v wa hR hB _ gx hgx hgb
  obtain ⟨A, c, hv⟩ := Kd.R_slice hR
  rw [List.length_replicate] at hv
  subst hv
  have HRa := Aside0.mk hR
  have HBa := Aside0.mk hB
  clear hR hB
  go_wp2_with fail
  go_loopg [4] l0.length (fun k i wr => ∃ j : Nat, j + k = l0.length ∧ i = .int .i64 j ∧ Below w.heap.size w wr ∧ ∃ f rows, Told w wr f (.slice A l0.length c) (l0.map cvP) j rows)
  case atStart =>
    refine ⟨0, by omega, rfl, HBa.out, fun _ => 0, _, by simp, HRa.out, fun _ _ _ _ _ h => absurd h (Nat.not_lt_zero _)⟩
  case round =>
    obtain ⟨j, hjk, rfl, hB, f, rows, hT⟩ := hrel
    have HJK := Aside0.mk hjk
    have HB := Aside0.mk hB
    have HT := Aside0.mk hT
    by_cases hlt : j < l0.length
    · obtain ⟨g, rfl⟩ : ∃ g, A = some ⟨g, 0, none⟩ := by
        obtain ⟨g, cap, he, _⟩ := Kd.R_form hT.2.1 (by have := hT.1; simp at this; omega)
        injection he with he
        exact ⟨g, he⟩
      obtain ⟨q, hq1, _, hq3, hq4⟩ := Kd.R_elem hT.2.1 [] (j : Int) (by omega) (by omega)
      clear hT
      obtain ⟨ad, A3, c3, he, h0, h1, h2, h3, hlc, hC3⟩ := at_T138 HR.out (j : Int) (by omega) (by omega)
      cases he
      have hpk := HK.out (rd_T138 l0 j) (by unfold rd_T138; rw [List.getD_eq_getElem?_getD, Int.toNat_natCast, List.getElem?_eq_getElem hlt]; exact List.getElem_mem hlt)
      have hx : (l0.map cvP)[j]? = some (cvP (rd_T138 l0 j)) := by
        unfold rd_T138
        rw [List.getElem?_map, List.getD_eq_getElem?_getD, Int.toNat_natCast, List.getElem?_eq_getElem hlt]
        rfl
      obtain ⟨p, hp⟩ : ∃ p, p = rd_T138 l0 j := ⟨_, rfl⟩
      rw [← hp] at h0 h1 h2 h3 hlc hC3 hpk hx
      clear hp
      simp only [Int.toNat_natCast] at h0 h1 h2 h3
      replace h0 := pw_cell_below hB h0
      replace h1 := pw_cell_below hB h1
      replace h2 := pw_cell_below hB h2
      replace h3 := pw_cell_below hB h3
      have hj0 : (0 : Int) ≤ (j : Int) := by omega
      have hj1 : (j : Int) < (l0.length : Int) := by omega
      have HX := Aside0.mk hx
      have HP := Aside0.mk hpk
      have HLC := Aside0.mk hlc
      have HC3 := Aside0.mk hC3
      have HQ1 := Aside0.mk hq1
      have HQ3 := Aside0.mk hq3
      have HQ4 := Aside0.mk hq4
      clear hx hpk hlc hC3 hq1 hq3 hq4 hB hjk
      go_wp2_with fail
      refine (laws_toPacket.calls k p.f0 p.f1 p.f2 A3 c3 p.f3 _ _ _ _ wr (Kd.C_below HC3.out HB.out) HLC.out HP.out).mono ?_
      rintro e w3 ⟨v3, rfl, hR3, hB3⟩
      have HR3 := Aside0.mk hR3
      have HB3 := Aside0.mk hB3
      have hone : v3.oneCell' = true := (Kd.R_val hR3).2
      clear hR3 hB3
      go_wp2_with ((with_reducible refine gate_store (t := 73) (p := 21) rfl ?_); refine stop_here ?_)
      refine ⟨?_⟩
      refine store_at (Kd.raw 4) w.heap.size rfl rfl _ _ _ rfl 73 (j : Int) 0 rows _ [.int .i64 p.f0, .int .i64 p.f1, .int .i64 p.f2, v3] (fun _ => True) rfl ?e1 rfl ?e2 ?e3 ?e4 (Kd.R_below HT.out.2.1 HB3.out) hj0 ?e5 (Nat.le_refl 4) ?_
      case e1 => simp [Kd.raw]
      case e2 => rfl
      case e3 => kernel_rfl
      case e4 =>
        intro q hq
        simp only [List.mem_cons, List.not_mem_nil, or_false] at hq
        rcases hq with rfl | rfl | rfl | rfl
        · rfl
        · rfl
        · rfl
        · exact hone
      case e5 => omega
      obtain ⟨f', rows', hT', hgl, hgr⟩ := HT.out.put HB.out HX.out HB3.out HR3.out
      rw [show (j : Int).toNat * (Kd.raw 4).sz + 0 = j * 4 from rfl]
      obtain ⟨w4, hw4⟩ : ∃ w4, w4 = w3.setCells g (j * 4) [.int .i64 p.f0, .int .i64 p.f1, .int .i64 p.f2, v3] := ⟨_, rfl⟩
      have hB4 : Below w.heap.size w w4 := by
        rw [hw4]
        have hb := HB.out.trans (below_mono HB3.out HB.out.size)
        exact below_grown hb (Nat.le_refl _) hgl hgr
      have HT4 := Aside0.mk (show Told w w4 f' (.slice (some ⟨g, 0, none⟩) l0.length c) (l0.map cvP) (j + 1) rows' from by rw [hw4]; exact hT')
      have HB4 := Aside0.mk hB4
      change wpList _ _ _ _ _ (w3.setCells g (j * 4) [.int .i64 p.f0, .int .i64 p.f1, .int .i64 p.f2, v3])
      rw [← hw4]
      clear hw4 hT' hB4
      go_wp2_with fail
      go_roundg (gk - 1)
      case measure => have := HJK.out; omega
      case rel => exact ⟨j + 1, by have := HJK.out; omega, by go_num, HB4.out, f', rows', HT4.out⟩
    · have hj1 : ¬ (j : Int) < (l0.length : Int) := by omega
      obtain rfl : j = l0.length := by have := HJK.out; omega
      clear hT hlt hjk
      go_wp2_with fail
      go_ret
      refine ⟨_, rfl, ?_, HB.out⟩
      have h := HT.out
      have hlm : l0.length = (l0.map cvP).length := by simp
      rw [hlm] at h
      rw [hlm]
      exact h.ends

set_option maxHeartbeats 1600000 in
set_option maxRecDepth 100000 in
theorem toBag.calls (k : Nat) (a0 : Int) (A1 : Option Addr) (c1 : Nat) (l1 : List S138) (A2 : Option Addr) (c2 : Nat) (l2 : List Int) (w : World) (hr1 : Kd.C k138 w A1 l1.length l1) (hc1 : l1.length ≤ c1) (hr2 : Kd.C (Kd.int .i64) w A2 l2.length l2) (hc2 : l2.length ≤ c2)
    (hl : l1.length * 48 ≤ 281474976710656) (hk : ∀ p ∈ l1, laws_toPacket.f k p.f0 p.f1 p.f2 p.f3 = some (p.f0, p.f1, p.f2, p.f3)) (hk2 : laws_toIntS.f k l2 = some l2) :
    Calls Try.prog 9 #[.agg #[.int .i64 a0, .slice A1 l1.length c1, .slice A2 l2.length c2]] w fun e w' => ∃ v1 v2 : Value, e = .returned (.agg #[.int .i64 a0, v1, v2]) ∧ Kd.S k73 73 w' w.heap.size (fun _ => True) v1 (l1.map cvP) ∧ Kd.R (Kd.int .i64) 3 w' w.heap.size (fun _ => True) v2 l2 ∧ Below w.heap.size w w' := by
  have H1 := Aside0.mk hr1
  have H2 := Aside0.mk hr2
  have HC1 := Aside0.mk hc1
  have HC2 := Aside0.mk hc2
  have HK := Aside0.mk hk
  have HK2 := Aside0.mk hk2
  clear hr1 hr2 hc1 hc2 hk hk2
  go_enter Try.func9, Try.ntmps9
  go_wp2_with fail
  obtain ⟨wz, hwz⟩ : ∃ wz, wz = (((w.alloc (.cells #[.int .i64 a0, .slice A1 l1.length c1, .slice A2 l2.length c2] 25)).alloc (.cells #[.int .i64 0, .slice none 0 0, .slice none 0 0] 29)).alloc (.cells #[.int .i64 a0, .slice none 0 0, .slice none 0 0] 29)) := ⟨_, rfl⟩
  have hb0 : wz.heap[w.heap.size]? = some (.cells #[.int .i64 a0, .slice A1 l1.length c1, .slice A2 l2.length c2] 25 (0, 0)) := by rw [hwz]; exact blk_alloc (blk_alloc (blk_new _ _) _) _
  have hb1 : wz.heap[w.heap.size + 1]? = some (.cells #[.int .i64 0, .slice none 0 0, .slice none 0 0] 29 (0, 0)) := by
    rw [hwz]
    have := blk_new (w.alloc (.cells #[.int .i64 a0, .slice A1 l1.length c1, .slice A2 l2.length c2] 25)) (.cells #[.int .i64 0, .slice none 0 0, .slice none 0 0] 29)
    refine blk_alloc (by simpa using this) _
  have hb2 : wz.heap[w.heap.size + 1 + 1]? = some (.cells #[.int .i64 a0, .slice none 0 0, .slice none 0 0] 29 (0, 0)) := by
    rw [hwz]
    have := blk_new ((w.alloc (.cells #[.int .i64 a0, .slice A1 l1.length c1, .slice A2 l2.length c2] 25)).alloc (.cells #[.int .i64 0, .slice none 0 0, .slice none 0 0] 29)) (.cells #[.int .i64 a0, .slice none 0 0, .slice none 0 0] 29)
    simpa using this
  have hBz : Below w.heap.size w wz := by rw [hwz]; exact below_alloc (below_alloc (below_alloc (Below.refl w.heap.size w) _) _) _
  have hsz : wz.heap.size = w.heap.size + 3 := by rw [hwz]; simp
  rw [← hwz]
  clear hwz
  have H1z := Aside0.mk (Kd.C_below H1.out hBz)
  have H2z := Aside0.mk (Kd.C_below H2.out hBz)
  have HBz := Aside0.mk hBz
  have HSZ := Aside0.mk hsz
  have HbA := Aside0.mk hb0
  have HbB := Aside0.mk hb1
  have HbC := Aside0.mk hb2
  clear hBz hsz hb0 hb1 hb2
  refine (toPacketS.calls k A1 c1 l1 wz H1z.out HC1.out hl HK.out).mono ?_
  rintro e w3 ⟨v1, rfl, hS1, hB3⟩
  obtain ⟨Av, cv, hv⟩ : ∃ A c, v1 = .slice A (l1.map cvP).length c := Kd.S_slice hS1
  subst hv
  have h0 := blk_below HbA.out hB3
  have h1 := blk_below HbB.out hB3
  have h2 := blk_below HbC.out hB3
  have h02 : w3.cell? ⟨w.heap.size, 2, none⟩ = some (.slice A2 l2.length c2) := (blk_cell h0 2).trans rfl
  have h21 : w3.cell? ⟨w.heap.size + 1 + 1, 1, none⟩ = some (.slice none 0 0) := (blk_cell h2 1).trans rfl
  have f21 : w3.frozen? ⟨w.heap.size + 1 + 1, 1, none⟩ = false := blk_frozen h2 1
  have hB3w : Below w.heap.size w w3 := below_then HBz.out (by rw [HSZ.out]; omega) hB3
  have HS1 := Aside0.mk hS1
  have HB3 := Aside0.mk hB3
  have HB3w := Aside0.mk hB3w
  have Ha3 := Aside0.mk h0
  have Hb3 := Aside0.mk h1
  have Hc3 := Aside0.mk h2
  clear hS1 hB3 hB3w h0 h1 h2
  go_wp2_with fail
  obtain ⟨w4, hw4⟩ : ∃ w4, w4 = w3.setCell ⟨w.heap.size + 1 + 1, 1, none⟩ (.slice Av l1.length cv) := ⟨_, rfl⟩
  have hB4 : Below w.heap.size w w4 := by rw [hw4]; exact below_set HB3w.out (by show w.heap.size ≤ w.heap.size + 1 + 1; omega)
  have hs4 : w4.heap.size = w3.heap.size := by rw [hw4]; simp
  have k1 : w4.heap[w.heap.size + 1]? = some (.cells #[.int .i64 0, .slice none 0 0, .slice none 0 0] 29 (0, 0)) := by rw [hw4]; exact blk_far Hb3.out (by simp) _
  have k2 : w4.heap[w.heap.size + 1 + 1]? = some (.cells #[.int .i64 a0, .slice Av l1.length cv, .slice none 0 0] 29 (0, 0)) := by rw [hw4]; exact blk_put Hc3.out 1 _ (by simp)
  have hS4 : Kd.S k73 73 w4 w.heap.size (fun _ => True) (.slice Av l1.length cv) (l1.map cvP) := by
    have h := HS1.out
    rw [show (l1.map cvP).length = l1.length by simp] at h
    rw [hw4]
    exact Kd.S_set (Kd.S_lower h HBz.out.size) Hc3.out (by decide) 1 _
  rw [← hw4]
  have hsz4 : w.heap.size + 1 + 1 < w4.heap.size := by rw [hs4]; have := HB3.out.size; rw [HSZ.out] at this; omega
  have K1 := Aside0.mk k1
  have K2 := Aside0.mk k2
  have HS4 := Aside0.mk hS4
  have HB4 := Aside0.mk hB4
  clear hw4 k1 k2 hS4 hB4 hs4
  refine (laws_toIntS.calls k A2 c2 l2 l2 w4 (Kd.C_below H2.out HB4.out) HC2.out HK2.out).mono ?_
  rintro e w5 ⟨v2, rfl, hR5, hB5⟩
  obtain ⟨A5, c5, hv5⟩ := Kd.R_slice hR5
  subst hv5
  have hb5 := blk_below K2.out hB5
  have hr5 := blk_below K1.out hB5
  have h50 : w5.cell? ⟨w.heap.size + 1 + 1, 0, none⟩ = some (.int .i64 a0) := (blk_cell hb5 0).trans rfl
  have h51 : w5.cell? ⟨w.heap.size + 1 + 1, 1, none⟩ = some (.slice Av l1.length cv) := (blk_cell hb5 1).trans rfl
  have h52 : w5.cell? ⟨w.heap.size + 1 + 1, 2, none⟩ = some (.slice none 0 0) := (blk_cell hb5 2).trans rfl
  have f52 : w5.frozen? ⟨w.heap.size + 1 + 1, 2, none⟩ = false := blk_frozen hb5 2
  have r50 : w5.cell? ⟨w.heap.size + 1, 0, none⟩ = some (.int .i64 0) := (blk_cell hr5 0).trans rfl
  have r51 : w5.cell? ⟨w.heap.size + 1, 1, none⟩ = some (.slice none 0 0) := (blk_cell hr5 1).trans rfl
  have r52 : w5.cell? ⟨w.heap.size + 1, 2, none⟩ = some (.slice none 0 0) := (blk_cell hr5 2).trans rfl
  have g50 : w5.frozen? ⟨w.heap.size + 1, 0, none⟩ = false := blk_frozen hr5 0
  have g51 : w5.frozen? ⟨w.heap.size + 1, 1, none⟩ = false := blk_frozen hr5 1
  have g52 : w5.frozen? ⟨w.heap.size + 1, 2, none⟩ = false := blk_frozen hr5 2
  have HR5 := Aside0.mk hR5
  have HB5 := Aside0.mk hB5
  have Hb5 := Aside0.mk hb5
  have Hr5 := Aside0.mk hr5
  clear hR5 hB5 hb5 hr5
  go_wp2
  have hBw : Below w.heap.size w w5 := below_then HB4.out (by omega) HB5.out
  have x0 := blk_put Hb5.out 2 (.slice A5 l2.length c5) (cs' := #[.int .i64 a0, .slice Av l1.length cv, .slice A5 l2.length c5]) (by simp)
  have x1 := blk_far Hr5.out (p := ⟨w.heap.size + 1 + 1, 2, none⟩) (by simp) (.slice A5 l2.length c5)
  have x2 := blk_put x1 0 (.int .i64 a0) (cs' := #[.int .i64 a0, .slice none 0 0, .slice none 0 0]) (by simp)
  have x3 := blk_put x2 1 (.slice Av l1.length cv) (cs' := #[.int .i64 a0, .slice Av l1.length cv, .slice none 0 0]) (by simp)
  have x4 := blk_put x3 2 (.slice A5 l2.length c5) (cs' := #[.int .i64 a0, .slice Av l1.length cv, .slice A5 l2.length c5]) (by simp)
  refine bodyPost_ret (v := .agg #[.int .i64 a0, .slice Av l1.length cv, .slice A5 l2.length c5]) (results_single rfl (Vals.cell (w.heap.size + 1) 29 _ (0, 0) _ rfl x4 Try.underlying29 rfl (by kernel_rfl) Vals.nil)) rfl ?_
  refine ⟨_, _, rfl, ?_, ?_, ?_⟩
  · exact Kd.S_set (Kd.S_set (Kd.S_set (Kd.S_set (Kd.S_below HS4.out (below_mono HB5.out (Nat.le_refl _))) Hb5.out (by decide) 2 _) x1 (by decide) 0 _) x2 (by decide) 1 _) x3 (by decide) 2 _
  · exact Kd.R_set (Kd.R_set (Kd.R_set (Kd.R_set (Kd.R_lower HR5.out (by omega)) Hb5.out (by decide) 2 _) x1 (by decide) 0 _) x2 (by decide) 1 _) x3 (by decide) 2 _
  · exact below_set (below_set (below_set (below_set hBw (by show w.heap.size ≤ w.heap.size + 1 + 1; omega)) (Nat.le_succ _)) (Nat.le_succ _)) (Nat.le_succ _)
end Go.Proofs.Ytppegigcclflbaa.PFnExactBagWall
