/- What the marking functions write and what the holding functions count: plain lists, no program. -/
import Derived.Test.YtppegigcclflbaaHPureA
namespace Go.Proofs.Ytppegigcclflbaa.PFnExactBagWall
open Go.RowKit Go.Proofs.YtppegigcclflbaaW.PrintWords Go.Proofs.YtppegigcclflbaaW.PrintLast Go.Proofs.YtppegigcclflbaaW.PrintMore

def markB : Int → List Int → List Int
  | _, [] => []
  | n, _ :: r => (n % 256) :: markB (n + 1) r
def markI : Int → List Int → List Int
  | _, [] => []
  | n, _ :: r => n :: markI (n + 1) r
def markP : Int → List S73 → List S73
  | _, [] => []
  | n, p :: ps => ⟨n, n + 1, n + 1 + 1, markB (n + 1 + 1 + 1) p.f3⟩ :: markP (n + 1 + 1 + 1 + p.f3.length) ps
def tot : List S73 → Nat
  | [] => 0
  | p :: ps => 3 + p.f3.length + tot ps
theorem markB_len : ∀ (n : Int) (l : List Int), (markB n l).length = l.length
  | _, [] => rfl
  | n, _ :: r => by unfold markB; rw [List.length_cons, List.length_cons, markB_len]
theorem markI_len : ∀ (n : Int) (l : List Int), (markI n l).length = l.length
  | _, [] => rfl
  | n, _ :: r => by unfold markI; rw [List.length_cons, List.length_cons, markI_len]
theorem markP_len : ∀ (n : Int) (l : List S73), (markP n l).length = l.length
  | _, [] => rfl
  | n, _ :: r => by unfold markP; rw [List.length_cons, List.length_cons, markP_len]

theorem set_mid {α : Type} (done rest : List α) (x y : α) : (done ++ x :: rest).set done.length y = (done ++ [y]) ++ rest := by
  rw [List.set_append_right _ _ (Nat.le_refl _)]
  simp
theorem get_mid (done rest : List Int) (x : Int) : rd (done ++ x :: rest) (done.length : Int) = x := by
  rw [rd_at (by simp)]
  simp
theorem get73_mid (done rest : List S73) (x : S73) : rd_T73 (done ++ x :: rest) (done.length : Int) = x := by
  rw [rd73_at (by simp)]
  simp

theorem markByteS_l0 : ∀ (rest done : List Int) (k : Nat) (n : Int), rest.length < k → 0 ≤ n → n + rest.length < 4611686018427387904 → done.length + rest.length < 4611686018427387904 →
    laws_markByteS.l0 k (done ++ rest) n (done.length : Int) = some (n + rest.length, done ++ markB n rest)
  | [], done, k + 1, n, _, _, _, _ => by
    unfold laws_markByteS.l0
    rw [if_neg (by simp)]
    simp [markB]
  | x :: r, done, k + 1, n, h1, h2, h3, h4 => by
    rw [List.length_cons] at h1 h3 h4
    unfold laws_markByteS.l0
    rw [if_pos (by simp; omega), if_pos (by omega), Int.toNat_natCast, set_mid, wrap64_in (n + 1) (by omega), w1 (by omega)]
    have ih := markByteS_l0 r (done ++ [n % 256]) k (n + 1) (by omega) (by omega) (by omega) (by simp; omega)
    rw [List.length_append, List.length_singleton] at ih
    rw [ih]
    simp [markB]
    omega
theorem markByteS_f {k : Nat} {l : List Int} {n : Int} (h1 : l.length < k) (h2 : 0 ≤ n) (h3 : n + l.length < 4611686018427387904) : laws_markByteS.f k l n = some (n + l.length, markB n l) :=
  markByteS_l0 l [] k n h1 h2 h3 (by simp; omega)
theorem markIntS_l0 : ∀ (rest done : List Int) (k : Nat) (n : Int), rest.length < k → 0 ≤ n → n + rest.length < 4611686018427387904 → done.length + rest.length < 4611686018427387904 →
    laws_markIntS.l0 k (done ++ rest) n (done.length : Int) = some (n + rest.length, done ++ markI n rest)
  | [], done, k + 1, n, _, _, _, _ => by
    unfold laws_markIntS.l0
    rw [if_neg (by simp)]
    simp [markI]
  | x :: r, done, k + 1, n, h1, h2, h3, h4 => by
    rw [List.length_cons] at h1 h3 h4
    unfold laws_markIntS.l0
    rw [if_pos (by simp; omega), if_pos (by omega), Int.toNat_natCast, set_mid, wrap64_in (n + 1) (by omega), w1 (by omega)]
    have ih := markIntS_l0 r (done ++ [n]) k (n + 1) (by omega) (by omega) (by omega) (by simp; omega)
    rw [List.length_append, List.length_singleton] at ih
    rw [ih]
    simp [markI]
    omega
theorem markIntS_f {k : Nat} {l : List Int} {n : Int} (h1 : l.length < k) (h2 : 0 ≤ n) (h3 : n + l.length < 4611686018427387904) : laws_markIntS.f k l n = some (n + l.length, markI n l) :=
  markIntS_l0 l [] k n h1 h2 h3 (by simp; omega)

theorem heldByteS_l0 : ∀ (rest done : List Int) (k : Nat) (n : Int), rest.length < k → 0 ≤ n → n + rest.length < 4611686018427387904 → done.length + rest.length < 4611686018427387904 →
    laws_heldByteS.l0 k (done ++ markB n rest) n (done.length : Int) = some (n + rest.length)
  | [], done, k + 1, n, _, _, _, _ => by
    unfold laws_heldByteS.l0
    rw [if_neg (by simp [markB])]
    simp
  | x :: r, done, k + 1, n, h1, h2, h3, h4 => by
    rw [List.length_cons] at h1 h3 h4
    unfold laws_heldByteS.l0 markB
    rw [if_pos (by simp [markB_len]; omega), if_pos (by omega), get_mid, if_pos rfl, wrap64_in (n + 1) (by omega), w1 (by omega)]
    have ih := heldByteS_l0 r (done ++ [n % 256]) k (n + 1) (by omega) (by omega) (by omega) (by simp; omega)
    rw [List.length_append, List.length_singleton, List.append_assoc] at ih
    rw [show done ++ n % 256 :: markB (n + 1) r = done ++ ([n % 256] ++ markB (n + 1) r) from rfl, ih]
    simp
    omega
theorem heldByteS_f {k : Nat} {l : List Int} {n : Int} (h1 : l.length < k) (h2 : 0 ≤ n) (h3 : n + l.length < 4611686018427387904) : laws_heldByteS.f k (markB n l) n = some (n + l.length) :=
  heldByteS_l0 l [] k n h1 h2 h3 (by simp; omega)
theorem heldIntS_l0 : ∀ (rest done : List Int) (k : Nat) (n : Int), rest.length < k → 0 ≤ n → n + rest.length < 4611686018427387904 → done.length + rest.length < 4611686018427387904 →
    laws_heldIntS.l0 k (done ++ markI n rest) n (done.length : Int) = some (n + rest.length)
  | [], done, k + 1, n, _, _, _, _ => by
    unfold laws_heldIntS.l0
    rw [if_neg (by simp [markI])]
    simp
  | x :: r, done, k + 1, n, h1, h2, h3, h4 => by
    rw [List.length_cons] at h1 h3 h4
    unfold laws_heldIntS.l0 markI
    rw [if_pos (by simp [markI_len]; omega), if_pos (by omega), get_mid, if_pos rfl, wrap64_in (n + 1) (by omega), w1 (by omega)]
    have ih := heldIntS_l0 r (done ++ [n]) k (n + 1) (by omega) (by omega) (by omega) (by simp; omega)
    rw [List.length_append, List.length_singleton, List.append_assoc] at ih
    rw [show done ++ n :: markI (n + 1) r = done ++ ([n] ++ markI (n + 1) r) from rfl, ih]
    simp
    omega
theorem heldIntS_f {k : Nat} {l : List Int} {n : Int} (h1 : l.length < k) (h2 : 0 ≤ n) (h3 : n + l.length < 4611686018427387904) : laws_heldIntS.f k (markI n l) n = some (n + l.length) :=
  heldIntS_l0 l [] k n h1 h2 h3 (by simp; omega)

theorem tot_mem {p : S73} : ∀ {l : List S73}, p ∈ l → p.f3.length ≤ tot l
  | q :: qs, h => by
    unfold tot
    rcases List.mem_cons.1 h with rfl | h
    · omega
    · have := tot_mem h
      omega
theorem len_tot : ∀ (l : List S73), l.length ≤ tot l
  | [] => Nat.le_refl _
  | q :: qs => by
    have := len_tot qs
    unfold tot
    rw [List.length_cons]
    omega
theorem heldPacketS_l0 : ∀ (rest done : List S73) (k : Nat) (n : Int), tot rest < k → 0 ≤ n → n + tot rest < 4611686018427387904 → done.length + rest.length < 4611686018427387904 →
    laws_heldPacketS.l0 k (done ++ markP n rest) n (done.length : Int) = some (n + tot rest)
  | [], done, k + 1, n, _, _, _, _ => by
    unfold laws_heldPacketS.l0
    rw [if_neg (by simp [markP])]
    simp [tot]
  | p :: r, done, k + 1, n, h1, h2, h3, h4 => by
    rw [List.length_cons] at h4
    have hl := len_tot r
    unfold tot at h1 h3
    unfold laws_heldPacketS.l0 markP
    rw [if_pos (by simp [markP_len]; omega), if_pos (by omega), get73_mid, wrap64_in (n + 1) (by omega), wrap64_in (n + 1 + 1) (by omega), wrap64_in (n + 1 + 1 + 1) (by omega), if_pos rfl, if_pos rfl, if_pos rfl, heldByteS_f (by omega) (by omega) (by omega), Option.bind_some, if_neg (by omega), w1 (by omega)]
    have ih := heldPacketS_l0 r (done ++ [⟨n, n + 1, n + 1 + 1, markB (n + 1 + 1 + 1) p.f3⟩]) k (n + 1 + 1 + 1 + p.f3.length) (by omega) (by omega) (by omega) (by simp; omega)
    rw [List.length_append, List.length_singleton, List.append_assoc] at ih
    rw [show done ++ (⟨n, n + 1, n + 1 + 1, markB (n + 1 + 1 + 1) p.f3⟩ : S73) :: markP (n + 1 + 1 + 1 + p.f3.length) r = done ++ ([⟨n, n + 1, n + 1 + 1, markB (n + 1 + 1 + 1) p.f3⟩] ++ markP (n + 1 + 1 + 1 + p.f3.length) r) from rfl, ih, show tot (p :: r) = 3 + p.f3.length + tot r from rfl]
    congr 1
    omega
theorem heldBag_f {k : Nat} {a0 n : Int} {l1 : List S73} {l2 : List Int} (h1 : tot l1 < k) (h0 : l2.length < k) (h2 : 0 ≤ n) (h3 : n + tot l1 + l2.length < 4611686018427387904) : laws_heldBag.f k a0 (markP n l1) (markI (n + tot l1) l2) n = some (n + tot l1 + l2.length) := by
  unfold laws_heldBag.f laws_heldPacketS.f
  have hl := len_tot l1
  have he := heldPacketS_l0 l1 [] k n h1 h2 (by omega) (by simp; omega)
  simp only [List.nil_append, List.length_nil, Int.cast_ofNat_Int] at he
  rw [he, Option.bind_some, if_neg (by omega), heldIntS_f h0 (by omega) (by omega), Option.bind_some, if_neg (by omega)]
end Go.Proofs.Ytppegigcclflbaa.PFnExactBagWall
