/- slices.Sorted(maps.Keys(m)) at the key store's two maps. -/
import Derived.Test.YtppegigcclflbaaTKeys
namespace Go.Proofs.Ytppegigcclflbaa.PFnExactApplyCmd
open Go.RowKit Go.Proofs.YtppegigcclflbaaW.PrintWords Go.Proofs.YtppegigcclflbaaW.PrintLast Go.Proofs.YtppegigcclflbaaW.PrintMore
open Go.Proofs.Ytppegigcclflbaa.PStr
open Go.Maps (has IsMap)
open Go.Sort Go.Shelf

theorem sortsStrs (m : Nat) : AnyZ.SortsIn Try.prog Try.sorted111_ren Fence.wide m :=
  ⟨fun blk off cap ss W hH hblk hsz => callsIn_wide.2 (AnyM.slices_Sort_string Try.sort134 blk off cap ss W hH hblk hsz),
   fun p cap W => callsIn_wide.2 (AnyM.slices_Sort_string_none Try.sort134 p cap W)⟩
theorem sortsInts (m : Nat) : AnyZI.SortsIn Try.prog Try.sorted50_ren Fence.wide m :=
  ⟨fun blk off cap ss W hH hblk hsz => callsIn_wide.2 (AnyM.slices_Sort_int Try.sort101 blk off cap ss W hH hblk hsz),
   fun p cap W => callsIn_wide.2 (AnyM.slices_Sort_int_none Try.sort101 p cap W)⟩
theorem keys112.calls (mb : Option Nat) (W : World) : Calls Try.prog 112 #[.map mb] W fun e w' => e = .returned (.func (.func 135) #[] #[.pointer (some ⟨W.heap.size, 0, none⟩)]) ∧ w' = W.alloc (.cells #[.map mb] 152) :=
  (callsIn_wide (n := 5)).1 (AnyZ.keys_in Try.keys112 Fence.wide 5 trivial rfl mb W)
theorem keys113.calls (mb : Option Nat) (W : World) : Calls Try.prog 113 #[.map mb] W fun e w' => e = .returned (.func (.func 136) #[] #[.pointer (some ⟨W.heap.size, 0, none⟩)]) ∧ w' = W.alloc (.cells #[.map mb] 153) :=
  (callsIn_wide (n := 5)).1 (AnyZI.keys_in Try.keys113 Fence.wide 5 trivial rfl mb W)
theorem encStr_key (p : S157) : encStr p.f0.toList = .string p.f0 := by
  rw [tl]
theorem R_of_strs {w : World} {base e : Nat} {v : Value} {ks : List ByteArray} (h : w.ownsRow base e 1 v ks.length (ks.map Value.string)) : Kd.R Kd.string e w base (fun _ => True) v ks := by
  refine ⟨fun _ _ => trivial, _, h, by simp [Kd.string, Kd.scalar], fun j p hj => ?_⟩
  show ((ks.map Value.string).drop (j * 1)).take 1 = [.string p]
  rw [Nat.mul_one, ← List.map_drop, ← List.map_take]
  have hjl := (List.getElem?_eq_some_iff.1 hj).1
  have hp := (List.getElem?_eq_some_iff.1 hj).2
  rw [List.drop_eq_getElem_cons hjl, List.take_succ_cons, List.take_zero, hp]
  rfl
theorem R_of_ints {w : World} {base e : Nat} {v : Value} {r : List Int} (h : w.ownsRow base e 1 v r.length (r.map (Value.int .i64))) : Kd.R (Kd.int .i64) e w base (fun _ => True) v r := by
  refine ⟨fun _ _ => trivial, _, h, by simp [Kd.int, Kd.scalar], fun j p hj => ?_⟩
  show ((r.map (Value.int .i64)).drop (j * 1)).take 1 = [.int .i64 p]
  rw [Nat.mul_one, ← List.map_drop, ← List.map_take]
  have hjl := (List.getElem?_eq_some_iff.1 hj).1
  have hp := (List.getElem?_eq_some_iff.1 hj).2
  rw [List.drop_eq_getElem_cons hjl, List.take_succ_cons, List.take_zero, hp]
  rfl

set_option maxHeartbeats 1000000 in
theorem sorted111.calls (b n : Nat) (P : List S157) (w : World) (h : IsP w b n P) (hP : SortedP P) (hn : P.length ≤ 1000000) :
    Calls Try.prog 111 #[.func (.func 135) #[] #[.pointer (some ⟨w.heap.size, 0, none⟩)]] (w.alloc (.cells #[.map (some b)] 152)) fun e w' => ∃ v : Value, e = .returned v ∧ Kd.R Kd.string 9 w' w.heap.size (fun _ => True) v (P.map (fun p => p.f0)) ∧ Below w.heap.size w w' := by
  obtain ⟨D, hown, hD⟩ := h
  have hbl := hown.lt
  have hsz := size_of hown (fun k => (hD k).1) hP
  have hseq : SeqGives Fence.wide 2 Try.prog 135 #[.pointer (some ⟨w.heap.size, 0, none⟩)] encStr (fun ss => ss.Perm (strKeys D)) (Maps.size D) (w.alloc (.cells #[.map (some b)] 152)) :=
    AnyZ.keys_gives (ρ := Try.keys112_ren) { Try.keys112 with } Fence.wide _ trivial rfl (by omega) w.heap.size b n D _ (by simp) (by simp) (by
      obtain ⟨es, clock, hb, Ft, hs, hD⟩ := hown
      exact ⟨es, clock, (Below.heap_alloc _ _ b hbl).trans hb, Ft, hs, hD⟩)
  have cS := AnyZ.sorted_in Try.sorted111 Fence.wide 5 trivial trivial trivial trivial rfl (by omega) (sortsStrs _) (enters_of Try.func134 (by kernel_rfl) rfl) 135 #[.pointer (some ⟨w.heap.size, 0, none⟩)] trivial (enters_of Try.func135 (by kernel_rfl) rfl) _ _ (by unfold maxLen; omega) (by omega) _ hseq
  change CallsIn _ _ Try.prog 111 _ _ _ at cS
  refine ((callsIn_wide (n := 5)).1 cS).mono ?_
  rintro e w' ⟨v, ss, rfl, hPm, hrow, hnil, hb⟩
  have hk := sortedP_keys hown (fun k => (hD k).1) hP hPm
  have hl : ss.length = P.length := by rw [← List.length_mergeSort ss (le := fun x y => decide (x ≤ y)), hk, List.length_map]
  refine ⟨v, rfl, R_of_strs ?_, ?_⟩
  · have := ownsRow_base_a hrow (base' := w.heap.size) (by simp)
    rw [hk, hl, List.map_map] at this
    rw [List.length_map, List.map_map]
    exact (show (P.map (encStr ∘ fun p => p.f0.toList)) = P.map (Value.string ∘ fun p => p.f0) from List.map_congr_left (fun p _ => encStr_key p)) ▸ this
  · exact ((Below.refl _ w).alloc (Nat.le_refl _) _).trans (hb.mono (by simp))

theorem size_ofS {W : World} {b n : Nat} {S : List S146} {D : DataW Unit} (hown : W.ownsMap Try.prog 3 sessElem b n D) (hD : ∀ c : Int, has D (.int .i64 c) = (lookS S c).isSome) (h : SortedS S) : (intKeys D).length = S.length := by
  obtain ⟨h1, h2⟩ := mem_intKeys hown Try.underlying3
  have hP : (S.map fun s => s.f0).Pairwise (· < ·) := List.pairwise_map.2 h.1
  have hp : (intKeys D).Perm (S.map fun s => s.f0) := (List.perm_ext_iff_of_nodup h1 (hP.imp (fun {a b} h => Int.ne_of_lt h))).2 (fun x => by rw [h2, hD, mem_lookS, List.mem_map])
  rw [hp.length_eq, List.length_map]
set_option maxHeartbeats 1000000 in
theorem sorted50.calls (b n : Nat) (S : List S146) (w : World) (h : IsS w b n S) (hS : SortedS S) (hn : n ≤ 1000000000) :
    Calls Try.prog 50 #[.func (.func 136) #[] #[.pointer (some ⟨w.heap.size, 0, none⟩)]] (w.alloc (.cells #[.map (some b)] 153)) fun e w' => ∃ v : Value, e = .returned v ∧ Kd.R (Kd.int .i64) 3 w' w.heap.size (fun _ => True) v (S.map (fun s => s.f0)) ∧ Below w.heap.size w w' := by
  obtain ⟨D, hown, hD⟩ := h
  have hbl := hown.lt
  have hsz := hown.size_le
  have hseq : SeqGives Fence.wide 2 Try.prog 136 #[.pointer (some ⟨w.heap.size, 0, none⟩)] encZ (fun ss => ss.Perm (intKeys D)) (Maps.size D) (w.alloc (.cells #[.map (some b)] 153)) :=
    AnyZI.keys_gives (ρ := Try.keys113_ren) { Try.keys113 with } Fence.wide _ trivial rfl (by omega) w.heap.size b n D _ (by simp) (by simp) (by
      obtain ⟨es, clock, hb, Ft, hs, hD⟩ := hown
      exact ⟨es, clock, (Below.heap_alloc _ _ b hbl).trans hb, Ft, hs, hD⟩)
  have cS := AnyZI.sorted_in Try.sorted50 Fence.wide 5 trivial trivial trivial trivial rfl (by omega) (sortsInts _) (enters_of Try.func101 (by kernel_rfl) rfl) 136 #[.pointer (some ⟨w.heap.size, 0, none⟩)] trivial (enters_of Try.func136 (by kernel_rfl) rfl) _ _ (by unfold maxLen; omega) (by omega) _ hseq
  change CallsIn _ _ Try.prog 50 _ _ _ at cS
  refine ((callsIn_wide (n := 5)).1 cS).mono ?_
  rintro e w' ⟨v, ss, rfl, hPm, hrow, hnil, hb⟩
  have hk := sortedS_keys hown (fun k => (hD k).1) hS hPm
  have hl : ss.length = S.length := by rw [← List.length_mergeSort ss (le := fun x y => decide (x ≤ y)), hk, List.length_map]
  refine ⟨v, rfl, R_of_ints ?_, ?_⟩
  · have := ownsRow_base_a hrow (base' := w.heap.size) (by simp)
    rw [hk, hl] at this
    rw [List.length_map]
    exact this
  · exact ((Below.refl _ w).alloc (Nat.le_refl _) _).trans (hb.mono (by simp))
end Go.Proofs.Ytppegigcclflbaa.PFnExactApplyCmd
