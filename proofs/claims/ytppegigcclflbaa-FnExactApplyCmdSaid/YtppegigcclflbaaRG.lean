/- A region that draws its order, walked step by step: the print's steps, what has come up left unwritten. -/
import Derived.Test.YtppegigcclflbaaWLast
namespace Go.Proofs.Ytppegigcclflbaa.RG
open Go.RowKit Go.Proofs.YtppegigcclflbaaW.PrintLast
section
variable {P : Program} {ops : Array Oper} {Q : Exit → Act → World → Prop} {md : Region.Mode} {S : World → Prop} {ds : List Nat} {fuel : Nat} {l : Array Bool} {a a' : Act} {w : World} {oi : Oper}
/-- An operation that yields in every world. -/
theorem rp (i : Nat) (n : Tmp) {v : Value} (hi : ops[i]? = some oi) (hN : oi.dst = some n) (hc : anyB md ops l (l.setIfInBounds i true) i = true) (hQ : ∀ c a w, Q (.panic c) (a.put oi.dst v) w → Q (.panic c) a w)
    (hw : Region.wanted oi (yielded ops a.tmps) = true) (hr : ∀ w, (execOp a.eval oi).run P w = .ok (.value v) w) (ha : a.put (some n) v = a')
    (h : wpAnyLast P md ops Q S ds fuel (l.setIfInBounds i true) a' w) : wpAnyLast P md ops Q S ds (fuel + 1) l a w := pure_ _ hi hN hc hQ (.inl ⟨hw, hr⟩) ha h
/-- One whose guard is off. -/
theorem ro (i : Nat) (n : Tmp) (hi : ops[i]? = some oi) (hN : oi.dst = some n) (hc : anyB md ops l (l.setIfInBounds i true) i = true) (hQ : ∀ c a w, Q (.panic c) (a.put oi.dst undef) w → Q (.panic c) a w)
    (hw : Region.wanted oi (yielded ops a.tmps) = false) (ha : a.put (some n) undef = a')
    (h : wpAnyLast P md ops Q S ds fuel (l.setIfInBounds i true) a' w) : wpAnyLast P md ops Q S ds (fuel + 1) l a w := pure_ _ hi hN hc hQ (.inr ⟨hw, rfl⟩) ha h
/-- One that reads what S holds. -/
theorem rt (i : Nat) (n : Tmp) {v : Value} (hi : ops[i]? = some oi) (hN : oi.dst = some n) (hc : takeB md ops ds l (l.setIfInBounds i true) i = true) (hQ : ∀ c a w, Q (.panic c) (a.put oi.dst v) w → Q (.panic c) a w)
    (hw : Region.wanted oi (yielded ops a.tmps) = true) (hr : ∀ w, S w → (execOp a.eval oi).run P w = .ok (.value v) w) (hS : S w) (ha : a.put (some n) v = a')
    (h : wpAnyLast P md ops Q S ds fuel (l.setIfInBounds i true) a' w) : wpAnyLast P md ops Q S ds (fuel + 1) l a w := take_ _ hi hN hc hQ (.inl ⟨hw, hr⟩) hS ha h
/-- The one that alone may come up. -/
theorem r1 (i : Nat) (N : Option Tmp) (hi : ops[i]? = some oi) (hN : oi.dst = N) (hc : readyB md ops l (l.setIfInBounds i true) i = true) (hd : i ∉ ds)
    (h : ∀ K : Act → World → Prop, Shut (∀ a' w', S w' → (S w' → wpAnyLast P md ops Q S ds fuel (l.setIfInBounds i true) a' w') → K a' w') → if Region.wanted oi (yielded ops a.tmps) = true then Oper.wp P oi a w K Q else K (a.put N undef) w) :
    wpAnyLast P md ops Q S ds (fuel + 1) l a w := one_ _ hi hN hc hd h
/-- The same, one of ds. -/
theorem rl (i : Nat) (N : Option Tmp) (hi : ops[i]? = some oi) (hN : oi.dst = N) (hc : readyB md ops l (l.setIfInBounds i true) i = true) (hd : i ∈ ds)
    (h : ∀ K : Act → World → Prop, Shut (∀ a' w', wpAnyLast P md ops Q S ds fuel (l.setIfInBounds i true) a' w' → K a' w') → if Region.wanted oi (yielded ops a.tmps) = true then Oper.wp P oi a w K Q else K (a.put N undef) w) :
    wpAnyLast P md ops Q S ds (fuel + 1) l a w := last_ _ hi hN hc hd h
/-- One of two that may come up now. -/
theorem r2 (i j : Nat) (Ni Nj : Option Tmp) {oj : Oper} (hi : ops[i]? = some oi) (hj : ops[j]? = some oj) (hNi : oi.dst = Ni) (hNj : oj.dst = Nj)
    (hc : (Region.ready md ops l == [i, j] && l.setIfInBounds i true == l.setIfInBounds i true && l.setIfInBounds j true == l.setIfInBounds j true) = true) (hdi : i ∉ ds) (hdj : j ∉ ds)
    (h1 : ∀ K : Act → World → Prop, Shut (∀ a' w', S w' → (S w' → wpAnyLast P md ops Q S ds fuel (l.setIfInBounds i true) a' w') → K a' w') → if Region.wanted oi (yielded ops a.tmps) = true then Oper.wp P oi a w K Q else K (a.put Ni undef) w)
    (h2 : ∀ K : Act → World → Prop, Shut (∀ a' w', S w' → (S w' → wpAnyLast P md ops Q S ds fuel (l.setIfInBounds j true) a' w') → K a' w') → if Region.wanted oj (yielded ops a.tmps) = true then Oper.wp P oj a w K Q else K (a.put Nj undef) w) :
    wpAnyLast P md ops Q S ds (fuel + 1) l a w := two_ _ _ hi hj hNi hNj hc hdi hdj h1 h2
/-- The beginning. -/
theorem rs (n : Nat) (S : World → Prop) (ds : List Nat) {id : Nat} (hm : P.follows .mixedOrders = true) (hn : ops.size = n) (hS : S w.drew)
    (h : S w.drew → wpAnyLast P .any ops Q S ds n (Array.replicate n false) a w.drew) : (Code.region id ops true).wp P Q a w := start_ _ hm hn rfl hS h
end
end Go.Proofs.Ytppegigcclflbaa.RG
