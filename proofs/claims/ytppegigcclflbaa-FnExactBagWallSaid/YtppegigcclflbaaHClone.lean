/- What slices.Clone answers at this program's three instances: a new row that holds what the slice holds. -/
import Derived.Test.YtppegigcclflbaaPFnExactBagWallx0
import Derived.WalkSpells
import Derived.WalkLawsBesides
namespace Go.Proofs.Ytppegigcclflbaa.PFnExactBagWall
open Go.RowKit Go.Proofs.YtppegigcclflbaaW.PrintWords Go.Proofs.YtppegigcclflbaaW.PrintLast Go.Proofs.YtppegigcclflbaaW.PrintMore

theorem R_empty {α : Type} (d : Kd α) (e : Nat) (W : World) (base : Nat) (hb : base ≤ W.heap.size) :
    d.R e (W.alloc (.cells #[] e)) base (fun _ => True) (.slice (some ⟨W.heap.size, 0, none⟩) 0 0) [] := by
  refine ⟨fun _ _ => trivial, [], ?_, by simp, fun j p h => by simp at h⟩
  have h := World.ownsRow_lit (base := base) (e := e) (size := d.sz) W #[] 0 hb (by simp [maxLen]) (by simp)
  simpa using h

set_option maxHeartbeats 800000 in
set_option maxRecDepth 100000 in
theorem clone_int.calls (A0 : Option Addr) (c0 : Nat) (l0 : List (Int)) (w : World) (hr0 : Kd.C (Kd.int .i64) w A0 l0.length l0) (hl : l0.length * 8 ≤ 140737488355328) :
    Calls Try.prog 99 #[.slice A0 l0.length c0] w fun e w' => ∃ v0_ : Value, e = .returned v0_ ∧ Kd.R (Kd.int .i64) 3 w' w.heap.size (fun _ => True) v0_ l0 ∧ Below w.heap.size w w' := by
  have hn : ∀ w : World, (binOp .eql 23 (.slice A0 l0.length c0) (.slice none 0 0)).run Try.prog w = .ok (.bool A0.isNone) w := fun w => Lib.run_eql_slice_nil w 23 3 A0 l0.length c0 0 0 Try.underlying23
  cases A0 with
  | none =>
    have he : l0 = [] := by
      rcases Nat.eq_zero_or_pos l0.length with h | h
      · exact List.eq_nil_of_length_eq_zero h
      · obtain ⟨_, h, _⟩ := hr0.2.2 h; cases h
    subst he
    simp only [List.length_nil, Option.isNone_none] at hn ⊢
    go_enter Try.func99, Try.ntmps99
    go_wp2
    go_ret
    exact ⟨_, rfl, Kd.R_nil _ _ _ _ _, Below.refl _ _⟩
  | some ad =>
    go_enter Try.func99, Try.ntmps99
    go_wp2_with (at_builtin; refine Kd.R_append_rows (Kd.int .i64) (Rr := (Kd.int .i64).K w) (w0 := w) w.heap.size rfl _ _ 23 3 (.int .i64 0) 8 rfl Try.underlying23 info3 rfl (by decide) (by decide) (.slice (some ⟨w.heap.size, 0, none⟩) 0 0) [] l0 (some ad) l0.length c0 (fun _ => True) (fun _ => False) rfl rfl (R_empty _ _ _ _ (Nat.le_refl _)) ?c1 ?c2 (fun k hk => hk.elim) (fun _ _ => trivial) ?c3 ?c4 ?c5 ?c6)
    case c1 => exact ReadsRow.imp_ hr0 (below_alloc (Below.refl _ _) _) (fun _ _ h => h)
    case c2 => exact fun x cs h => h
    case c3 => exact below_alloc (Below.refl _ _) _
    case c4 => simp
    case c5 => simpa using hl
    case c6 =>
      intro v1 w1 h1 h2 h3 h4
      obtain ⟨A, c, hv⟩ := Kd.R_slice h1
      subst hv
      go_wp2
      go_ret
      exact ⟨_, rfl, h1, h2⟩

theorem clone_int.calls' (A0 : Option Addr) (c0 : Nat) (l0 : List (Int)) (n : Nat) (hn : l0.length = n) (w : World) (hr0 : Kd.C (Kd.int .i64) w A0 n l0) (hl : n * 8 ≤ 140737488355328) :
    Calls Try.prog 99 #[.slice A0 n c0] w fun e w' => ∃ v0_ : Value, e = .returned v0_ ∧ Kd.R (Kd.int .i64) 3 w' w.heap.size (fun _ => True) v0_ l0 ∧ Below w.heap.size w w' := by
  subst hn; exact clone_int.calls A0 c0 l0 w hr0 hl

set_option maxHeartbeats 800000 in
set_option maxRecDepth 100000 in
theorem clone_u8.calls (A0 : Option Addr) (c0 : Nat) (l0 : List (Int)) (w : World) (hr0 : Kd.C (Kd.int .u8) w A0 l0.length l0) (hl : l0.length * 1 ≤ 140737488355328) :
    Calls Try.prog 92 #[.slice A0 l0.length c0] w fun e w' => ∃ v0_ : Value, e = .returned v0_ ∧ Kd.R (Kd.int .u8) 5 w' w.heap.size (fun _ => True) v0_ l0 ∧ Below w.heap.size w w' := by
  have hn : ∀ w : World, (binOp .eql 66 (.slice A0 l0.length c0) (.slice none 0 0)).run Try.prog w = .ok (.bool A0.isNone) w := fun w => Lib.run_eql_slice_nil w 66 5 A0 l0.length c0 0 0 Try.underlying66
  cases A0 with
  | none =>
    have he : l0 = [] := by
      rcases Nat.eq_zero_or_pos l0.length with h | h
      · exact List.eq_nil_of_length_eq_zero h
      · obtain ⟨_, h, _⟩ := hr0.2.2 h; cases h
    subst he
    simp only [List.length_nil, Option.isNone_none] at hn ⊢
    go_enter Try.func92, Try.ntmps92
    go_wp2
    go_ret
    exact ⟨_, rfl, Kd.R_nil _ _ _ _ _, Below.refl _ _⟩
  | some ad =>
    go_enter Try.func92, Try.ntmps92
    go_wp2_with (at_builtin; refine Kd.R_append_rows (Kd.int .u8) (Rr := (Kd.int .u8).K w) (w0 := w) w.heap.size rfl _ _ 66 5 (.int .u8 0) 1 rfl Try.underlying66 info5 rfl (by decide) (by decide) (.slice (some ⟨w.heap.size, 0, none⟩) 0 0) [] l0 (some ad) l0.length c0 (fun _ => True) (fun _ => False) rfl rfl (R_empty _ _ _ _ (Nat.le_refl _)) ?c1 ?c2 (fun k hk => hk.elim) (fun _ _ => trivial) ?c3 ?c4 ?c5 ?c6)
    case c1 => exact ReadsRow.imp_ hr0 (below_alloc (Below.refl _ _) _) (fun _ _ h => h)
    case c2 => exact fun x cs h => h
    case c3 => exact below_alloc (Below.refl _ _) _
    case c4 => simp
    case c5 => simpa using hl
    case c6 =>
      intro v1 w1 h1 h2 h3 h4
      obtain ⟨A, c, hv⟩ := Kd.R_slice h1
      subst hv
      go_wp2
      go_ret
      exact ⟨_, rfl, h1, h2⟩

theorem clone_u8.calls' (A0 : Option Addr) (c0 : Nat) (l0 : List (Int)) (n : Nat) (hn : l0.length = n) (w : World) (hr0 : Kd.C (Kd.int .u8) w A0 n l0) (hl : n * 1 ≤ 140737488355328) :
    Calls Try.prog 92 #[.slice A0 n c0] w fun e w' => ∃ v0_ : Value, e = .returned v0_ ∧ Kd.R (Kd.int .u8) 5 w' w.heap.size (fun _ => True) v0_ l0 ∧ Below w.heap.size w w' := by
  subst hn; exact clone_u8.calls A0 c0 l0 w hr0 hl

set_option maxHeartbeats 800000 in
set_option maxRecDepth 100000 in
theorem clone_packet.calls (A0 : Option Addr) (c0 : Nat) (l0 : List (List Value)) (w : World) (hr0 : Kd.C (Kd.raw 4) w A0 l0.length l0) (hl : l0.length * 48 ≤ 140737488355328) :
    Calls Try.prog 98 #[.slice A0 l0.length c0] w fun e w' => ∃ v0_ : Value, e = .returned v0_ ∧ Kd.R (Kd.raw 4) 73 w' w.heap.size (fun _ => True) v0_ l0 ∧ Below w.heap.size w w' := by
  have hn : ∀ w : World, (binOp .eql 27 (.slice A0 l0.length c0) (.slice none 0 0)).run Try.prog w = .ok (.bool A0.isNone) w := fun w => Lib.run_eql_slice_nil w 27 73 A0 l0.length c0 0 0 Try.underlying27
  cases A0 with
  | none =>
    have he : l0 = [] := by
      rcases Nat.eq_zero_or_pos l0.length with h | h
      · exact List.eq_nil_of_length_eq_zero h
      · obtain ⟨_, h, _⟩ := hr0.2.2 h; cases h
    subst he
    simp only [List.length_nil, Option.isNone_none] at hn ⊢
    go_enter Try.func98, Try.ntmps98
    go_wp2
    go_ret
    exact ⟨_, rfl, Kd.R_nil _ _ _ _ _, Below.refl _ _⟩
  | some ad =>
    go_enter Try.func98, Try.ntmps98
    go_wp2_with (at_builtin; refine Kd.R_append_rows (Kd.raw 4) (Rr := (Kd.raw 4).K w) (w0 := w) w.heap.size rfl _ _ 27 73 (.agg #[.int .i64 0, .int .i64 0, .int .i64 0, .slice none 0 0]) 48 rfl Try.underlying27 info73 rfl (by decide) (by decide) (.slice (some ⟨w.heap.size, 0, none⟩) 0 0) [] l0 (some ad) l0.length c0 (fun _ => True) (fun _ => False) rfl rfl (R_empty _ _ _ _ (Nat.le_refl _)) ?c1 ?c2 (fun k hk => hk.elim) (fun _ _ => trivial) ?c3 ?c4 ?c5 ?c6)
    case c1 => exact ReadsRow.imp_ hr0 (below_alloc (Below.refl _ _) _) (fun _ _ h => h)
    case c2 => exact fun x cs h => h
    case c3 => exact below_alloc (Below.refl _ _) _
    case c4 => simp
    case c5 => simpa using hl
    case c6 =>
      intro v1 w1 h1 h2 h3 h4
      obtain ⟨A, c, hv⟩ := Kd.R_slice h1
      subst hv
      go_wp2
      go_ret
      exact ⟨_, rfl, h1, h2⟩

theorem clone_packet.calls' (A0 : Option Addr) (c0 : Nat) (l0 : List (List Value)) (n : Nat) (hn : l0.length = n) (w : World) (hr0 : Kd.C (Kd.raw 4) w A0 n l0) (hl : n * 48 ≤ 140737488355328) :
    Calls Try.prog 98 #[.slice A0 n c0] w fun e w' => ∃ v0_ : Value, e = .returned v0_ ∧ Kd.R (Kd.raw 4) 73 w' w.heap.size (fun _ => True) v0_ l0 ∧ Below w.heap.size w w' := by
  subst hn; exact clone_packet.calls A0 c0 l0 w hr0 hl

end Go.Proofs.Ytppegigcclflbaa.PFnExactBagWall
