/- What impl.walled answers (the walls as a set), and what slices.Sorted(maps.Keys(set)) answers at such a set. -/
import Derived.Test.YtppegigcclflbaaPFnExactBagWallx0
import Derived.Test.YtppegigcclflbaaShelf
import Derived.WalkSpells
import Derived.WalkLawsBesides
import Derived.Maps.OwnSet
import Derived.Lib.SlKeysI
namespace Go.Proofs.Ytppegigcclflbaa.PFnExactBagWall
open Go.RowKit Go.Proofs.YtppegigcclflbaaW.PrintWords Go.Proofs.YtppegigcclflbaaW.PrintLast Go.Proofs.YtppegigcclflbaaW.PrintMore
open Go.Maps (has IsMap)
open Go.Sort Go.Shelf

/-- Block b is a set of whole numbers: S. -/
def IsSet (W : World) (b n : Nat) (S : Int → Bool) : Prop := ∃ D : DataW Unit, W.ownsMap Try.prog 3 (plainElem Try.prog 4) b n D ∧ ∀ x : Int, has D (.int .i64 x) = S x

theorem IsSet.lt {W : World} {b n : Nat} {S : Int → Bool} (h : IsSet W b n S) : b < W.heap.size := by
  obtain ⟨D, h, _⟩ := h
  exact h.lt
theorem IsSet.kept {W W1 : World} {b n : Nat} {S : Int → Bool} {row : Option Nat} (h : IsSet W b n S) (hg : W.grownBy W1 row) (hne : some b ≠ row) : IsSet W1 b n S := by
  obtain ⟨D, h, hS⟩ := h
  exact ⟨D, h.kept hg hne, hS⟩
theorem IsSet.below {W W1 : World} {b n : Nat} {S : Int → Bool} (h : IsSet W b n S) (hb : Below W.heap.size W W1) : IsSet W1 b n S := h.kept (grown_of_below hb none) (by simp)

theorem wf_small {x : Int} (h : 1 ≤ x ∧ x ≤ 7) : (Lit.int .i64 x).wf = true := by
  obtain ⟨h1, h2⟩ := h
  have e1 : IntKind.i64.min = -9223372036854775808 := rfl
  have e2 : IntKind.i64.max = 9223372036854775807 := rfl
  simp [Lit.wf, e1, e2]
  omega

theorem int_key_ne {x y : Int} (h : x ≠ y) : (Lit.int .i64 x) ≠ .int .i64 y := fun e => h (by injection e)

set_option maxHeartbeats 800000 in
set_option maxRecDepth 100000 in
theorem walled.calls (A0 : Option Addr) (c0 : Nat) (l0 : List Int) (w : World) (hr0 : Kd.C (Kd.int .i64) w A0 l0.length l0) (hc : l0.length ≤ 7) (hx : ∀ x ∈ l0, 1 ≤ x ∧ x ≤ 7) :
    Calls Try.prog 49 #[.slice A0 l0.length c0] w fun e w' => ∃ b, e = .returned (.map (some b)) ∧ IsSet w' b l0.length (fun x => decide (x ∈ l0)) ∧ w.heap.size ≤ b ∧ Below w.heap.size w w' := by
  have HR := Aside0.mk hr0
  have HX := Aside0.mk hx
  clear hr0 hx
  have hmm := @run_makeMap Try.prog
  go_enter Try.func49, Try.ntmps49
  go_wp2_with fail
  have hm0 := (World.ownsMap_made (H := Unit) w Try.prog 3 (plainElem Try.prog 4))
  go_loopg [9] l0.length (fun k i wr => ∃ j : Nat, j + k = l0.length ∧ i = .int .i64 j ∧ Below w.heap.size w wr ∧ IsSet wr w.heap.size j (fun x => decide (x ∈ l0.take j)))
  case atStart =>
    exact ⟨0, by omega, rfl, below_alloc (Below.refl _ _) _, _, hm0, fun x => by simp [has]⟩
  case round =>
    clear hm0 hmm
    obtain ⟨j, hjk, rfl, hB, D, hown, hS⟩ := hrel
    by_cases hlt : j < l0.length
    · obtain ⟨ad, he, hcell⟩ := HR.out.2.2 (by omega)
      subst he
      obtain ⟨c, hc1, hc2, hc3⟩ := hcell j l0[j] (List.getElem?_eq_getElem hlt)
      have hc2' : c = [.int .i64 l0[j]] := hc2
      subst hc2'
      have hcw : wr.cell? (ad.add j) = some (.int .i64 l0[j]) := by
        have := hc3 0 _ rfl
        simp [Kd.int, Kd.scalar] at this
        exact pw_cell_below hB this
      obtain ⟨x, hxe⟩ : ∃ x, l0[j] = x := ⟨_, rfl⟩
      have hx7 : 1 ≤ x ∧ x ≤ 7 := hxe ▸ HX.out _ (List.getElem_mem hlt)
      have hkey : keyOf Try.prog 3 (.int .i64 x) = some (.int .i64 x) := Maps.keyOf_int_mk Try.underlying3 (wf_small hx7)
      rw [hxe] at hcw
      have HXE := Aside0.mk hxe
      have HJK := Aside0.mk hjk
      have HB := Aside0.mk hB
      have HS := Aside0.mk hS
      clear hxe hjk hB hS hcell hc1 hc3 hc2
      have hj1 : (j : Int) < (l0.length : Int) := by omega
      have hj0 : (0 : Int) ≤ (j : Int) := by omega
      go_wp2_with (at_mapUpdate; refine wpList_mapUpdate_own _ rfl _ _ _ 89 rfl 3 4 (Maps.int_keyed Try.underlying3) Try.underlying89 (plainElem Try.prog 4) w.heap.size j D rfl hown (by unfold maxLen; omega) _ _ (.int .i64 x) rfl rfl hkey _ [] (plainElem_bool Try.underlying4 true) ?_; intro w1 hown1 hgrow1; have HO1 := Aside0.mk hown1; have HG1 := Aside0.mk hgrow1; clear hown1 hgrow1)
      go_roundg (gk - 1)
      case measure => have := HJK.out; omega
      case rel =>
        refine ⟨j + 1, by have := HJK.out; omega, by go_num, ?_, _, HO1.out, fun y => ?_⟩
        · exact HB.out.grown HG1.out HB.out.size (fun k hk => by injection hk with hk; omega)
        · have hD : IsMap D := hown.isMap
          rw [List.take_succ_eq_append_getElem hlt, HXE.out]
          by_cases hyx : y = x
          · subst hyx
            rw [Go.Maps.has_put_same hD ((Maps.int_keyed Try.underlying3).key hkey)]
            simp
          · rw [Go.Maps.has_put_other (int_key_ne hyx), HS.out]
            simp [hyx]
    · obtain rfl : j = l0.length := by omega
      have HB := Aside0.mk hB
      have HS := Aside0.mk hS
      have HO := Aside0.mk hown
      clear hB hS hown hjk
      go_wp2
      go_ret
      exact ⟨_, rfl, ⟨D, HO.out, fun x => by rw [HS.out, List.take_length]⟩, Nat.le_refl _, HB.out⟩
theorem R_of_ints {w : World} {base e : Nat} {v : Value} {r : List Int} (h : w.ownsRow base e 1 v r.length (r.map (Value.int .i64))) : Kd.R (Kd.int .i64) e w base (fun _ => True) v r := by
  refine ⟨fun _ _ => trivial, _, h, by simp [Kd.int, Kd.scalar], fun j p hj => ?_⟩
  show ((r.map (Value.int .i64)).drop (j * 1)).take 1 = [.int .i64 p]
  rw [Nat.mul_one, ← List.map_drop, ← List.map_take]
  have hjl := (List.getElem?_eq_some_iff.1 hj).1
  have hp := (List.getElem?_eq_some_iff.1 hj).2
  rw [List.drop_eq_getElem_cons hjl, List.take_succ_cons, List.take_zero, hp]
  rfl

theorem mem_intKeys {H : Type} {P : Program} {k : TypeId} {R : Value → Option (DataW H × List MemPlace)} {w : World} {b n : Nat} {D : DataW H} (hown : w.ownsMap P k R b n D) (hk : P.underlying k = some (.int .i64)) :
    (intKeys D).Nodup ∧ ∀ x, x ∈ intKeys D ↔ has D (.int .i64 x) = true := by
  obtain ⟨es, hD, hpw, _⟩ := hown.entries (Maps.int_keyed hk)
  obtain ⟨es', hD', hko⟩ := hown.keysOf
  obtain rfl : es = es' := by rw [hD] at hD'; simpa using hD'
  subst hD
  have hki : ∀ p ∈ es, ∃ x, p.1 = .int .i64 x := fun p hp => by obtain ⟨v, hv⟩ := hko p hp; obtain ⟨x, _, hx, _⟩ := Maps.keyOf_i64 hk hv; exact ⟨x, hx⟩
  constructor
  · show (es.map fun p => Go.intOf p.1).Nodup
    refine List.pairwise_map.2 (hpw.imp_of_mem fun {p q} hp' hq' hne e => hne ?_)
    obtain ⟨a, ha⟩ := hki p hp'
    obtain ⟨b, hb⟩ := hki q hq'
    rw [ha, hb] at e ⊢
    exact congrArg _ e
  · intro x
    rw [Maps.has_eq, List.any_eq_true]
    show x ∈ es.map (fun p => Go.intOf p.1) ↔ _
    rw [List.mem_map]
    constructor
    · rintro ⟨p, hp', rfl⟩
      obtain ⟨a, ha⟩ := hki p hp'
      exact ⟨p, hp', by rw [ha]; simp [Lit.sameKey, Go.intOf]⟩
    · rintro ⟨p, hp', hs⟩
      obtain ⟨a, ha⟩ := hki p hp'
      rw [ha] at hs
      exact ⟨p, hp', by rw [ha]; simpa [Lit.sameKey, Go.intOf] using hs⟩

/-- A sorted list without repeats of what a permutation of it holds. -/
theorem sorted_of_perm {ss ks : List Int} (hp : ss.Perm ks) (hn : ks.Nodup) : (ss.mergeSort (fun x y => decide (x ≤ y))).Pairwise (· < ·) ∧ (∀ x, x ∈ ss.mergeSort (fun x y => decide (x ≤ y)) ↔ x ∈ ks) := by
  have hm : (ss.mergeSort (fun x y => decide (x ≤ y))).Perm ks := (List.mergeSort_perm ss _).trans hp
  have hnd : (ss.mergeSort (fun x y => decide (x ≤ y))).Nodup := (hm.nodup_iff).2 hn
  have hs : (ss.mergeSort (fun x y => decide (x ≤ y))).Pairwise (fun a b => decide (a ≤ b) = true) :=
    List.pairwise_mergeSort (fun a b c h1 h2 => by simp only [decide_eq_true_eq] at *; omega) (fun a b => by simp only [Bool.or_eq_true, decide_eq_true_eq]; omega) ss
  refine ⟨?_, fun x => hm.mem_iff⟩
  have := List.pairwise_and_iff.2 ⟨hs, hnd⟩
  exact this.imp (fun {a b} h => by have h1 := of_decide_eq_true h.1; have := h.2; omega)

theorem sortsInts (m : Nat) : AnyZI.SortsIn Try.prog Try.sorted50_ren Fence.wide m :=
  ⟨fun blk off cap ss W hH hblk hsz => callsIn_wide.2 (AnyM.slices_Sort_int Try.sort101 blk off cap ss W hH hblk hsz),
   fun p cap W => callsIn_wide.2 (AnyM.slices_Sort_int_none Try.sort101 p cap W)⟩

theorem keys51.calls (mb : Option Nat) (W : World) : Calls Try.prog 51 #[.map mb] W fun e w' => e = .returned (.func (.func 102) #[] #[.pointer (some ⟨W.heap.size, 0, none⟩)]) ∧ w' = W.alloc (.cells #[.map mb] 89) :=
  (callsIn_wide (n := 5)).1 (AnyZI.keys_in Try.keys51 Fence.wide 5 trivial rfl mb W)

set_option maxHeartbeats 1000000 in
theorem sorted50.calls (b n : Nat) (S : Int → Bool) (w : World) (h : IsSet w b n S) (hn : n ≤ 1000) :
    Calls Try.prog 50 #[.func (.func 102) #[] #[.pointer (some ⟨w.heap.size, 0, none⟩)]] (w.alloc (.cells #[.map (some b)] 89)) fun e w' => ∃ (v : Value) (r : List Int), e = .returned v ∧ Kd.R (Kd.int .i64) 3 w' w.heap.size (fun _ => True) v r ∧ r.Pairwise (· < ·) ∧ (∀ x, x ∈ r ↔ S x = true) ∧ Below w.heap.size w w' := by
  obtain ⟨D, hown, hS⟩ := h
  have hbl := hown.lt
  have hsz := hown.size_le
  have hseq : SeqGives Fence.wide 2 Try.prog 102 #[.pointer (some ⟨w.heap.size, 0, none⟩)] encZ (fun ss => ss.Perm (intKeys D)) (Maps.size D) (w.alloc (.cells #[.map (some b)] 89)) :=
    AnyZI.keys_gives (ρ := Try.keys51_ren) { Try.keys51 with } Fence.wide _ trivial rfl (by omega) w.heap.size b n D _ (by simp) (by simp) (by
      obtain ⟨es, clock, hb, Ft, hs, hD⟩ := hown
      exact ⟨es, clock, (Below.heap_alloc _ _ b hbl).trans hb, Ft, hs, hD⟩)
  have cS := AnyZI.sorted_in Try.sorted50 Fence.wide 5 trivial trivial trivial trivial rfl (by omega) (sortsInts _) (enters_of Try.func101 (by kernel_rfl) rfl) 102 #[.pointer (some ⟨w.heap.size, 0, none⟩)] trivial (enters_of Try.func102 (by kernel_rfl) rfl) _ _ (by unfold maxLen; omega) (by omega) _ hseq
  change CallsIn _ _ Try.prog 50 _ _ _ at cS
  refine ((callsIn_wide (n := 5)).1 cS).mono ?_
  rintro e w' ⟨v, ss, rfl, hP, hrow, hnil, hb⟩
  obtain ⟨k1, k2⟩ := mem_intKeys hown Try.underlying3
  obtain ⟨s1, s2⟩ := sorted_of_perm hP k1
  refine ⟨v, _, rfl, R_of_ints ?_, s1, fun x => by rw [s2, k2, hS], ?_⟩
  · have := ownsRow_base_a hrow (base' := w.heap.size) (by simp)
    rw [List.length_mergeSort]
    exact this
  · exact ((Below.refl _ w).alloc (Nat.le_refl _) _).trans (hb.mono (by simp))
end Go.Proofs.Ytppegigcclflbaa.PFnExactBagWall
