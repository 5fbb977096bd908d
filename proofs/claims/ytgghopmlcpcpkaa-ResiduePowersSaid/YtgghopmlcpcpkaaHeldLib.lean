/- A step of the proof: what a function of the program computes, or a plain law of numbers. -/
import Derived.Test.YtgghopmlcpcpkaaLawLib
import Derived.Deep.RegionHeld3
namespace Go.Proofs.Ytgghopmlcpcpkaa
open Go.RowKit PlainK
set_option linter.unusedVariables false
set_option linter.unusedSimpArgs false
section
variable {P : Program} {ops : Array Oper} {Q : Exit → Act → World → Prop} {md : Region.Mode} {S : World → Prop}
/-- an operation that its guard passes over is passed over, whatever else may come up -/
theorem skipH {i : Nat} {d : Option Tmp} {fuel : Nat} {listed : Array Bool} {a : Act} {w : World} (hi : ∃ oi, ops[i]? = some oi ∧ oi.dst = d ∧ Region.wanted oi (yielded ops a.tmps) = false)
    (hs : Region.noSelect ops = true) (hf : Region.free md ops listed i = true) (hr : (Region.ready md ops listed).contains i = true)
    (hQ : ∀ c a w, Q (.panic c) (a.put d undef) w → Q (.panic c) a w) (hS : S w)
    (h : wpAnyH P md ops Q S fuel (listed.setIfInBounds i true) (a.put d undef) w) : wpAnyH P md ops Q S (fuel + 1) listed a w := by
  obtain ⟨oi, h1, rfl, h2⟩ := hi
  exact wpAnyH_take h1 hs hf hr hQ (Or.inr ⟨h2, rfl⟩) hS h
/-- an operation that yields in every world that meets S -/
theorem takeH {i : Nat} {d : Option Tmp} {v : Value} {fuel : Nat} {listed : Array Bool} {a : Act} {w : World} (oi : Oper) (h1 : ops[i]? = some oi) (h2 : oi.dst = d) (h3 : Region.wanted oi (yielded ops a.tmps) = true)
    (hs : Region.noSelect ops = true) (hf : Region.free md ops listed i = true) (hr : (Region.ready md ops listed).contains i = true)
    (hQ : ∀ c a w, Q (.panic c) (a.put d v) w → Q (.panic c) a w) (hS : S w) (h4 : ∀ w, S w → (execOp a.eval oi).run P w = .ok (.value v) w)
    (h : wpAnyH P md ops Q S fuel (listed.setIfInBounds i true) (a.put d v) w) : wpAnyH P md ops Q S (fuel + 1) listed a w := by
  subst h2
  exact wpAnyH_take h1 hs hf hr hQ (Or.inl ⟨h3, h4⟩) hS h
/-- one call alone may come up -/
theorem callH {i : Nat} {fuel : Nat} {listed : Array Bool} {a : Act} {w : World} (oi : Oper) (h1 : ops[i]? = some oi) (h3 : Region.wanted oi (yielded ops a.tmps) = true)
    (hr : Region.ready md ops listed = [i])
    (h : ∀ K' : Act → World → Prop, Shut (∀ a w, S w → (S w → wpAnyH P md ops Q S fuel (listed.setIfInBounds i true) a w) → K' a w) → Oper.wp P oi a w K' Q) : wpAnyH P md ops Q S (fuel + 1) listed a w :=
  wpAnyH_ready hr (by simp) (AllReadyH.cons h1 (fun K' hK => by rw [if_pos h3]; exact h K' hK) AllReadyH.nil)
end
end Go.Proofs.Ytgghopmlcpcpkaa
