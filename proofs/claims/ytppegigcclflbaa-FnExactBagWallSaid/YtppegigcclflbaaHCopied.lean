/- What (Bag).copied answers: a bag of new rows that hold what the bag holds. -/
import Derived.Test.YtppegigcclflbaaHClone
import Derived.Outline
import Derived.Deep.RegionWith
namespace Go.Proofs.Ytppegigcclflbaa.PFnExactBagWall
open Go.RowKit Go.Proofs.YtppegigcclflbaaW.PrintWords Go.Proofs.YtppegigcclflbaaW.PrintLast Go.Proofs.YtppegigcclflbaaW.PrintMore

theorem below_of_drew {w w1 : World} (h : Below w.drew.heap.size w.drew w1) : Below w.heap.size w w1 := ⟨h.os, h.tape, h.output, h.size, h.block⟩

/-- The rows of l, the first i of them with a new row of bytes. -/
def Rowed (w0 wr : World) (f : Nat → Nat) (v : Value) (l : List S73) (i : Nat) (rows : List (List Value)) : Prop :=
  rows.length = l.length ∧ (Kd.raw 4).R 73 wr w0.heap.size (fun _ => True) v rows ∧
  ∀ (j : Nat) x r, l[j]? = some x → rows[j]? = some r → (j < i → k73.M wr w0.heap.size (fun k => f k = j ∧ some k ≠ v.ownBlock) x r) ∧ (i ≤ j → k73.K w0 x r)

/-- A row that is read, by its cells. -/
theorem raw_of_C {α : Type} {d : Kd α} {w : World} {A : Option Addr} {l : List α} (h : d.C w A l.length l) : ∃ rows : List (List Value), rows.length = l.length ∧ (Kd.raw d.sz).C w A rows.length rows ∧ ∀ (j : Nat) x r, l[j]? = some x → rows[j]? = some r → d.K w x r := by
  obtain ⟨h1, h2, h3⟩ := h
  rcases Nat.eq_zero_or_pos l.length with h0 | h0
  · refine ⟨[], by simp [h0], ⟨rfl, by simp, fun hp => absurd hp (by simp)⟩, fun j x r hj => ?_⟩
    have : l = [] := List.eq_nil_of_length_eq_zero h0
    subst this
    simp at hj
  · obtain ⟨ad, rfl, hc⟩ := h3 h0
    have hc' : ∀ j, j < l.length → ∃ c : List Value, ∀ x, l[j]? = some x → c.length = d.sz ∧ d.K w x c ∧ ∀ i u, c[i]? = some u → w.cell? (ad.add (j * d.sz + i)) = some u := by
      intro j hj
      obtain ⟨c, h4, h5, h6⟩ := hc j _ (List.getElem?_eq_getElem hj)
      refine ⟨c, fun x hx => ?_⟩
      rw [List.getElem?_eq_getElem hj] at hx
      injection hx with hx
      subst hx
      exact ⟨h4, h5, h6⟩
    obtain ⟨F, hF⟩ : ∃ F : Nat → List Value, ∀ j, j < l.length → ∀ x, l[j]? = some x → (F j).length = d.sz ∧ d.K w x (F j) ∧ ∀ i u, (F j)[i]? = some u → w.cell? (ad.add (j * d.sz + i)) = some u := by
      classical
      refine ⟨fun j => if h : j < l.length then (hc' j h).choose else [], fun j hj => ?_⟩
      simp only [dif_pos hj]
      exact (hc' j hj).choose_spec
    refine ⟨(List.range l.length).map F, by simp, ⟨rfl, by simpa using h2, fun _ => ⟨ad, rfl, fun j p hj => ?_⟩⟩, fun j x r hx hr => ?_⟩
    · rw [List.getElem?_map] at hj
      obtain ⟨j', hj', rfl⟩ := Option.map_eq_some_iff.1 hj
      obtain ⟨hl, he⟩ := List.getElem?_eq_some_iff.1 hj'
      rw [List.getElem_range] at he
      subst he
      rw [List.length_range] at hl
      obtain ⟨h4, h5, h6⟩ := hF j hl _ (List.getElem?_eq_getElem hl)
      exact ⟨F j, h4, ⟨rfl, h4, d.K_one h5⟩, h6⟩
    · have hl : j < l.length := (List.getElem?_eq_some_iff.1 hx).1
      rw [List.getElem?_map, List.getElem?_eq_getElem (by simpa using hl), List.getElem_range] at hr
      injection hr with hr
      subst hr
      exact (hF j hl x hx).2.1

theorem Rowed.start {w0 wr : World} {v : Value} {l : List S73} {rows : List (List Value)} (hl : rows.length = l.length) (hR : (Kd.raw 4).R 73 wr w0.heap.size (fun _ => True) v rows) (hK : ∀ (j : Nat) x r, l[j]? = some x → rows[j]? = some r → k73.K w0 x r) (f : Nat → Nat) : Rowed w0 wr f v l 0 rows :=
  ⟨hl, hR, fun j x r hx hr => ⟨fun h => absurd h (Nat.not_lt_zero _), fun _ => hK j x r hx hr⟩⟩

theorem Rowed.below {w0 wr w1 : World} {f : Nat → Nat} {v : Value} {l : List S73} {i : Nat} {rows : List (List Value)} (h : Rowed w0 wr f v l i rows) (hb : Below wr.heap.size wr w1) : Rowed w0 w1 f v l i rows :=
  ⟨h.1, Kd.R_below h.2.1 hb, fun j x r hx hr => ⟨fun hj => Kd.M_below ((h.2.2 j x r hx hr).1 hj) hb, (h.2.2 j x r hx hr).2⟩⟩

/-- All rows told: a row whose inner rows lie apart. -/
theorem Rowed.ends {w0 wr : World} {f : Nat → Nat} {v : Value} {l : List S73} {rows : List (List Value)} (h : Rowed w0 wr f v l l.length rows) : Kd.S k73 73 wr w0.heap.size (fun _ => True) v l := by
  obtain ⟨hl, ⟨_, inner, ho, hr⟩, hM⟩ := h
  refine ⟨f, fun _ _ => trivial, inner, ?_, ?_, fun j p hj => ?_⟩
  · rw [List.length_zipIdx, ← hl]; exact ho
  · rw [List.length_zipIdx, ← hl]; exact hr.1
  · rw [List.getElem?_zipIdx, Nat.zero_add] at hj
    obtain ⟨x, hx, rfl⟩ := Option.map_eq_some_iff.1 hj
    have hjl : j < l.length := (List.getElem?_eq_some_iff.1 hx).1
    have hjr : rows[j]? = some rows[j] := List.getElem?_eq_getElem (by rw [hl]; exact hjl)
    have h2 := (hr.2 j _ hjr).1
    have h3 := (hM j x _ hx hjr).1 hjl
    show k73.M wr w0.heap.size _ x ((inner.drop (j * 4)).take 4)
    rw [show (inner.drop (j * 4)).take 4 = rows[j] from h2]
    exact k73.M_mono (fun k hk => ⟨⟨trivial, hk.2⟩, hk.1⟩) h3

def CopInv (w : World) (a0 : Int) (v s2 : Value) (l1 : List S73) (j : Nat) (wr : World) : Prop :=
  Below w.heap.size w wr ∧ wr.heap[w.heap.size]? = some (.cells #[.int .i64 a0, v, s2] 29 (0, 0)) ∧ wr.heap[w.heap.size + 1]? = some (.cells #[.int .i64 0, .slice none 0 0, .slice none 0 0] 29 (0, 0)) ∧ ∃ f rows, Rowed w wr f v l1 j rows

theorem CopInv.step {w wr w3 : World} {a0 : Int} {s2 : Value} {l1 : List S73} {f : Nat → Nat} {rs : List (List Value)} {g n c j : Nat} {x : S73} {A3 : Option Addr} {c3 : Nat} {v3 : Value}
    (hB : Below w.heap.size w wr) (hbB : wr.heap[w.heap.size]? = some (.cells #[.int .i64 a0, .slice (some ⟨g, 0, none⟩) n c, s2] 29 (0, 0))) (hbR : wr.heap[w.heap.size + 1]? = some (.cells #[.int .i64 0, .slice none 0 0, .slice none 0 0] 29 (0, 0)))
    (hrow : Rowed w wr f (.slice (some ⟨g, 0, none⟩) n c) l1 j rs) (hx : l1[j]? = some x) (hr : rs[j]? = some [.int .i64 x.f0, .int .i64 x.f1, .int .i64 x.f2, .slice A3 x.f3.length c3])
    (hR3 : Kd.R (Kd.int .u8) 5 w3 wr.heap.size (fun _ => True) v3 x.f3) (hB3 : Below wr.heap.size wr w3) : CopInv w a0 (.slice (some ⟨g, 0, none⟩) n c) s2 l1 (j + 1) (w3.setCell ⟨g, j * 4 + 3, none⟩ v3) := by
  obtain ⟨hl, hraw, hM⟩ := hrow
  have hgo : (Value.slice (some ⟨g, 0, none⟩) n c).ownBlock = some g := by simp [Value.ownBlock]
  have hgb : w.heap.size ≤ g := Kd.R_base hraw g hgo
  have hglt : g < wr.heap.size := Kd.R_lt hraw g hgo
  have hneB : w.heap.size ≠ g := fun he => Kd.R_ne hraw hbB (by decide) (by rw [hgo, he])
  have hneR : w.heap.size + 1 ≠ g := fun he => Kd.R_ne hraw hbR (by decide) (by rw [hgo, he])
  have hjl : j < rs.length := (List.getElem?_eq_some_iff.1 hr).1
  have hn : n = rs.length := (Kd.R_reads' hraw).1
  have hraw3 := Kd.R_below hraw hB3
  obtain ⟨q, hq1, hq2, hq3, _⟩ := Kd.R_elem hraw3 [] (j : Int) (by omega) (by omega)
  have hqe : q = [.int .i64 x.f0, .int .i64 x.f1, .int .i64 x.f2, .slice A3 x.f3.length c3] := by
    have h := hq2.1
    rw [List.getD_eq_getElem?_getD, Int.toNat_natCast, hr] at h
    exact h
  subst hqe
  have hone : v3.oneCell' = true := (Kd.R_val hR3).2
  have hseg := (Kd.R_seg hraw3 (j : Int) (by omega) (by omega) (c := [.int .i64 x.f0, .int .i64 x.f1, .int .i64 x.f2, .slice A3 x.f3.length c3]) (seg := [v3]) (j := 3) (okp := fun _ => False) rfl hq3 (by simp [Kd.raw]) (x' := [.int .i64 x.f0, .int .i64 x.f1, .int .i64 x.f2, v3])
    ⟨rfl, rfl, by simp [Value.oneCell'] at hone ⊢; exact hone⟩ (fun _ hk => hk.elim)).1
  rw [Int.toNat_natCast] at hseg
  refine ⟨?_, ?_, ?_, fun k => if wr.heap.size ≤ k then j else f k, rs.set j [.int .i64 x.f0, .int .i64 x.f1, .int .i64 x.f2, v3], by rw [List.length_set]; exact hl, hseg, fun i y r hy hri => ?_⟩
  · exact below_set (below_then hB hB.size hB3) hgb
  · exact blk_far (blk_below hbB hB3) hneB _
  · exact blk_far (blk_below hbR hB3) hneR _
  · by_cases hij : i = j
    · subst hij
      have hyx : y = x := by rw [hx] at hy; injection hy with hy; exact hy.symm
      subst hyx
      rw [List.getElem?_set_self hjl] at hri
      injection hri with hri
      subst hri
      refine ⟨fun _ => k73_mkM _ _ _ _ ?_, fun h => absurd h (by omega)⟩
      have h4 := Kd.R_lower (Kd.R_bound hR3) hB.size
      refine Kd.R_mono (Kd.R_far (p := ⟨g, i * 4 + 3, none⟩) h4 (fun k hk => by have := hk.2.1; simp; omega) v3) (fun k hk => ⟨by simp [hk.2.1], by rw [hgo]; intro he; injection he with he; have := hk.2.1; omega⟩)
    · rw [List.getElem?_set_ne (Ne.symm hij)] at hri
      obtain ⟨h1, h2⟩ := hM i y r hy hri
      refine ⟨fun hlt => ?_, fun hle => h2 (by omega)⟩
      have h3 := k73.M_bound (h1 (by omega))
      have h4 := Kd.M_step (w1 := w3.setCell ⟨g, j * 4 + 3, none⟩ v3) h3 (fun k hk hlt => by
        have hkg : k ≠ g := fun he => hk.1.2 (by rw [hgo, he])
        rw [Below.heap_setCell w3 ⟨g, j * 4 + 3, none⟩ v3 k hkg]
        exact hB3.block k hlt)
      refine k73.M_mono (fun k hk => ⟨?_, hk.1.2⟩) h4
      have := hk.2.2.1
      simp only [if_neg (show ¬ wr.heap.size ≤ k by omega)]
      exact hk.1.1

set_option maxHeartbeats 1600000 in
set_option maxRecDepth 100000 in
theorem bag_copied.calls (a0 : Int) (A1 : Option Addr) (c1 : Nat) (l1 : List S73) (A2 : Option Addr) (c2 : Nat) (l2 : List Int) (w : World) (hr1 : Kd.C k73 w A1 l1.length l1) (hr2 : Kd.C (Kd.int .i64) w A2 l2.length l2)
    (hl1 : l1.length * 48 ≤ 140737488355328) (hl2 : l2.length * 8 ≤ 140737488355328) (hl3 : ∀ p ∈ l1, p.f3.length ≤ 140737488355328) :
    Calls Try.prog 47 #[.agg #[.int .i64 a0, .slice A1 l1.length c1, .slice A2 l2.length c2]] w fun e w' => ∃ v1 v2 : Value, e = .returned (.agg #[.int .i64 a0, v1, v2]) ∧ Kd.S k73 73 w' w.heap.size (fun _ => True) v1 l1 ∧ Kd.R (Kd.int .i64) 3 w' w.heap.size (fun _ => True) v2 l2 ∧ Below w.heap.size w w' := by
  obtain ⟨rows, hrl, hraw, hrK⟩ := raw_of_C hr1
  have H1 := Aside0.mk hr1
  have H2 := Aside0.mk hr2
  have HRL := Aside0.mk hrl
  have HRW := Aside0.mk hraw
  have HRK := Aside0.mk hrK
  clear hr1 hr2 hrl hraw hrK
  go_enter Try.func47, Try.ntmps47
  go_wp2_with fail
  refine (clone_packet.calls' A1 c1 rows l1.length HRL.out _ (Kd.C_below (HRL.out ▸ HRW.out) (below_alloc (below_alloc (Below.refl _ _) _) _)) hl1).mono ?_
  rintro e wa ⟨v, rfl, hR, hB⟩
  have HRa := Aside0.mk (Kd.R_lower hR (by simp; omega) : (Kd.raw 4).R 73 wa w.heap.size (fun _ => True) v rows)
  have hbB : wa.heap[w.heap.size]? = some (.cells #[.int .i64 a0, .slice A1 l1.length c1, .slice A2 l2.length c2] 29 (0, 0)) := blk_below (blk_alloc (blk_new _ _) _) hB
  have hbR : wa.heap[w.heap.size + 1]? = some (.cells #[.int .i64 0, .slice none 0 0, .slice none 0 0] 29 (0, 0)) := blk_below (by have := blk_new (w.alloc (.cells #[.int .i64 a0, .slice A1 l1.length c1, .slice A2 l2.length c2] 29)) (.cells #[.int .i64 0, .slice none 0 0, .slice none 0 0] 29); simpa using this) hB
  have HBa := Aside0.mk (below_then (below_alloc (below_alloc (Below.refl w.heap.size w) _) _) (by simp; omega) hB)
  clear hR hB
  obtain ⟨A, c, hv⟩ := Kd.R_slice HRa.out
  subst hv
  have hcB : wa.cell? ⟨w.heap.size, 1, none⟩ = some (.slice A1 l1.length c1) := (blk_cell hbB 1).trans rfl
  have hfB : wa.frozen? ⟨w.heap.size, 1, none⟩ = false := blk_frozen hbB 1
  have HbB := Aside0.mk hbB
  have HbR := Aside0.mk hbR
  clear hbB hbR
  go_wp2_with fail
  go_loopg [11] l1.length (fun k i wr => ∃ j : Nat, j + k = l1.length ∧ i = .int .i64 j ∧ CopInv w a0 (.slice A rows.length c) (.slice A2 l2.length c2) l1 j wr)
  case atStart =>
    refine ⟨0, by omega, rfl, ?_⟩
    refine ⟨below_set HBa.out (Nat.le_refl _), blk_put HbB.out 1 _ (by simp), blk_far HbR.out (by simp) _, fun _ => 0, rows, ?_⟩
    exact Rowed.start HRL.out (Kd.R_set HRa.out HbB.out (by intro q hq; simp [Kd.raw] at hq; omega) 1 _) HRK.out _
  case round =>
    obtain ⟨j, hjk, rfl, hinv⟩ := hrel
    obtain ⟨hB, hbB, hbR, f, rs, hrow⟩ := hinv
    by_cases hlt : j < l1.length
    · have hrl2 : rs.length = l1.length := hrow.1
      obtain ⟨g, rfl⟩ : ∃ g, A = some ⟨g, 0, none⟩ := by
        obtain ⟨g, cap, he, _⟩ := Kd.R_form hrow.2.1 (by omega)
        injection he with he
        exact ⟨g, he⟩
      obtain ⟨x, hx⟩ : ∃ x, l1[j]? = some x := ⟨_, List.getElem?_eq_getElem hlt⟩
      obtain ⟨r, hr⟩ : ∃ r, rs[j]? = some r := ⟨_, List.getElem?_eq_getElem (by omega)⟩
      have hxl : x.f3.length ≤ 140737488355328 := hl3 x (List.mem_of_getElem? hx)
      obtain ⟨A3, c3, hre, hlc, hC3⟩ := k73_open ((hrow.2.2 j x r hx hr).2 (Nat.le_refl _))
      subst hre
      have hrn := HRL.out
      obtain ⟨q, hq1, hq2, hq3, hq4⟩ := Kd.R_elem hrow.2.1 [] (j : Int) (by omega) (by rw [hrn]; omega)
      have hqe : q = [.int .i64 x.f0, .int .i64 x.f1, .int .i64 x.f2, .slice A3 x.f3.length c3] := by
        have h := hq2.1
        rw [List.getD_eq_getElem?_getD, Int.toNat_natCast, hr] at h
        exact h
      subst hqe
      have hcell : wr.cell? ⟨g, j * 4 + 3, none⟩ = some (.slice A3 x.f3.length c3) := hq3 3 _ rfl
      have hfro : wr.frozen? ⟨g, j * 4 + 3, none⟩ = false := hq4 3
      have hcB1 : wr.cell? ⟨w.heap.size, 1, none⟩ = some (.slice (some ⟨g, 0, none⟩) rows.length c) := (blk_cell hbB 1).trans rfl
      have hj1 : (j : Int) < (rows.length : Int) := by rw [hrn]; omega
      have hj0 : (0 : Int) ≤ (j : Int) := by omega
      have HX := Aside0.mk hx
      have HR := Aside0.mk hr
      have HROW := Aside0.mk hrow
      have HBB := Aside0.mk hbB
      have HBR := Aside0.mk hbR
      have HB := Aside0.mk hB
      have HC3 := Aside0.mk hC3
      have HQ3 := Aside0.mk hq3
      have HJK := Aside0.mk hjk
      clear hx hr hrow hbB hbR hB hC3 hq3 hq4 hq2 hq1 hrn hjk hrl2 hlc hl3
      go_wp2_with fail
      go_region_with (go_at_call 92; refine (clone_u8.calls A3 c3 x.f3 _ (Kd.C_below HC3.out (HB.out.drew)) (by omega)).mono ?_; rintro e w3 ⟨v3, rfl, hR3, hB3⟩; obtain ⟨A4, c4, hv3⟩ := Kd.R_slice hR3; subst hv3; have hf3 : w3.frozen? ⟨g, j * 4 + 3, none⟩ = false := (hB3.frozen (p := ⟨g, j * 4 + 3, none⟩) (World.block_lt_of_cell? wr _ hcell)).trans hfro; have hce3 : w3.cell? ⟨g, j * 4 + 3, none⟩ = some (.slice A3 x.f3.length c3) := (hB3.cell (p := ⟨g, j * 4 + 3, none⟩) (World.block_lt_of_cell? wr _ hcell)).trans hcell; have hcb3 : w3.cell? ⟨w.heap.size, 1, none⟩ = some (.slice (some ⟨g, 0, none⟩) rows.length c) := (hB3.cell (p := ⟨w.heap.size, 1, none⟩) (World.block_lt_of_cell? wr _ hcB1)).trans hcB1; have HR3 := Aside0.mk hR3; have HB3 := Aside0.mk hB3; clear hR3 hB3)
      all_goals go_wp2
      all_goals
        go_roundg (gk - 1)
        case measure => have := HJK.out; omega
        case rel => exact ⟨j + 1, by have := HJK.out; omega, by go_num, CopInv.step HB.out HBB.out HBR.out HROW.out HX.out HR.out HR3.out (below_of_drew HB3.out)⟩
    · have hrn := HRL.out
      have hj1 : ¬ (j : Int) < (rows.length : Int) := by rw [hrn]; omega
      obtain rfl : j = l1.length := by omega
      have hc2 : wr.cell? ⟨w.heap.size, 2, none⟩ = some (.slice A2 l2.length c2) := (blk_cell hbB 2).trans rfl
      have HROW := Aside0.mk hrow
      have HBB := Aside0.mk hbB
      have HBR := Aside0.mk hbR
      have HB := Aside0.mk hB
      clear hrow hbB hbR hB hrn hjk hlt
      go_wp2_with fail
      refine (clone_int.calls A2 c2 l2 _ (Kd.C_below H2.out HB.out) hl2).mono ?_
      rintro e w5 ⟨v5, rfl, hR5, hB5⟩
      obtain ⟨A5, c5, hv5⟩ := Kd.R_slice hR5
      subst hv5
      have hb5 := blk_below HBB.out hB5
      have hr5 := blk_below HBR.out hB5
      have h50 : w5.cell? ⟨w.heap.size, 0, none⟩ = some (.int .i64 a0) := (blk_cell hb5 0).trans rfl
      have h51 : w5.cell? ⟨w.heap.size, 1, none⟩ = some (.slice A rows.length c) := (blk_cell hb5 1).trans rfl
      have h52 : w5.cell? ⟨w.heap.size, 2, none⟩ = some (.slice A2 l2.length c2) := (blk_cell hb5 2).trans rfl
      have f52 : w5.frozen? ⟨w.heap.size, 2, none⟩ = false := blk_frozen hb5 2
      have r50 : w5.cell? ⟨w.heap.size + 1, 0, none⟩ = some (.int .i64 0) := (blk_cell hr5 0).trans rfl
      have r51 : w5.cell? ⟨w.heap.size + 1, 1, none⟩ = some (.slice none 0 0) := (blk_cell hr5 1).trans rfl
      have r52 : w5.cell? ⟨w.heap.size + 1, 2, none⟩ = some (.slice none 0 0) := (blk_cell hr5 2).trans rfl
      have g50 : w5.frozen? ⟨w.heap.size + 1, 0, none⟩ = false := blk_frozen hr5 0
      have g51 : w5.frozen? ⟨w.heap.size + 1, 1, none⟩ = false := blk_frozen hr5 1
      have g52 : w5.frozen? ⟨w.heap.size + 1, 2, none⟩ = false := blk_frozen hr5 2
      have HR5 := Aside0.mk hR5
      have HB5 := Aside0.mk hB5
      have Hb5 := Aside0.mk hb5
      have Hr5 := Aside0.mk hr5
      clear hR5 hB5 hb5 hr5
      go_wp2
      have hBw : Below w.heap.size w w5 := below_then HB.out HB.out.size HB5.out
      have x1 := blk_far Hr5.out (p := ⟨w.heap.size, 2, none⟩) (by simp) (.slice A5 l2.length c5)
      have x2 := blk_put x1 0 (.int .i64 a0) (cs' := #[.int .i64 a0, .slice none 0 0, .slice none 0 0]) (by simp)
      have x3 := blk_put x2 1 (.slice A rows.length c) (cs' := #[.int .i64 a0, .slice A rows.length c, .slice none 0 0]) (by simp)
      have x4 := blk_put x3 2 (.slice A5 l2.length c5) (cs' := #[.int .i64 a0, .slice A rows.length c, .slice A5 l2.length c5]) (by simp)
      refine bodyPost_ret (v := .agg #[.int .i64 a0, .slice A rows.length c, .slice A5 l2.length c5]) (results_single rfl (Vals.cell (w.heap.size + 1) 29 _ (0, 0) _ rfl x4 Try.underlying29 rfl (by kernel_rfl) Vals.nil)) rfl ?_
      refine ⟨_, _, rfl, ?_, ?_, ?_⟩
      · exact Kd.S_set (Kd.S_set (Kd.S_set (Kd.S_set (Kd.S_below (Rowed.ends HROW.out) HB5.out) Hb5.out (by decide) 2 _) x1 (by decide) 0 _) x2 (by decide) 1 _) x3 (by decide) 2 _
      · exact Kd.R_set (Kd.R_set (Kd.R_set (Kd.R_set (Kd.R_lower HR5.out HB.out.size) Hb5.out (by decide) 2 _) x1 (by decide) 0 _) x2 (by decide) 1 _) x3 (by decide) 2 _
      · exact below_set (below_set (below_set (below_set hBw (Nat.le_refl _)) (Nat.le_succ _)) (Nat.le_succ _)) (Nat.le_succ _)
end Go.Proofs.Ytppegigcclflbaa.PFnExactBagWall
