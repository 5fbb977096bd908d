/- A step of the proof: what a function of the program computes, or a plain law of numbers. -/
import Derived.Test.YtgghopmlcpcpkaaHeldT
namespace Go.Proofs.Ytgghopmlcpcpkaa
open Go.RowKit PlainK
set_option linter.unusedVariables false
set_option linter.unusedSimpArgs false
section
variable {P : Program} {ops : Array Oper} {Q : Exit → Act → World → Prop} {md : Region.Mode} {S : World → Prop} {n : Nat}
theorem callT2 {i : Nat} {j : Nat} {f : Nat} {listed : Array Bool} {a : Act} {w : World} (oi : Oper) (oj : Oper) (ei : ops[i]? = some oi) (wi : Region.wanted oi (yielded ops a.tmps) = true) (ej : ops[j]? = some oj) (wj : Region.wanted oj (yielded ops a.tmps) = true) (hr : Region.ready md ops listed = [i, j])
    (hi : (∀ K' : Act → World → Prop, Shut (∀ a w, ((listed.setIfInBounds i true).getD n false = true ∨ S w) → wpT P md ops Q S n f (listed.setIfInBounds i true) a w → K' a w) → Oper.wp P oi a w K' Q)) (hj : (∀ K' : Act → World → Prop, Shut (∀ a w, ((listed.setIfInBounds j true).getD n false = true ∨ S w) → wpT P md ops Q S n f (listed.setIfInBounds j true) a w → K' a w) → Oper.wp P oj a w K' Q)) : wpT P md ops Q S n (f + 1) listed a w := by
  refine ⟨fun h0 => (by rw [hr] at h0; cases h0), fun z hz => ?_⟩
  rw [hr] at hz
  simp only [List.mem_cons, List.not_mem_nil, or_false] at hz
  rcases hz with rfl | rfl
  · exact wpOp_step ei (fun K' hK => by rw [if_pos wi]; exact hi K' (fun a w hS hW => hK a w ⟨hS, hW⟩))
  · exact wpOp_step ej (fun K' hK => by rw [if_pos wj]; exact hj K' (fun a w hS hW => hK a w ⟨hS, hW⟩))
theorem callT3 {i : Nat} {j : Nat} {k : Nat} {f : Nat} {listed : Array Bool} {a : Act} {w : World} (oi : Oper) (oj : Oper) (ok : Oper) (ei : ops[i]? = some oi) (wi : Region.wanted oi (yielded ops a.tmps) = true) (ej : ops[j]? = some oj) (wj : Region.wanted oj (yielded ops a.tmps) = true) (ek : ops[k]? = some ok) (wk : Region.wanted ok (yielded ops a.tmps) = true) (hr : Region.ready md ops listed = [i, j, k])
    (hi : (∀ K' : Act → World → Prop, Shut (∀ a w, ((listed.setIfInBounds i true).getD n false = true ∨ S w) → wpT P md ops Q S n f (listed.setIfInBounds i true) a w → K' a w) → Oper.wp P oi a w K' Q)) (hj : (∀ K' : Act → World → Prop, Shut (∀ a w, ((listed.setIfInBounds j true).getD n false = true ∨ S w) → wpT P md ops Q S n f (listed.setIfInBounds j true) a w → K' a w) → Oper.wp P oj a w K' Q)) (hk : (∀ K' : Act → World → Prop, Shut (∀ a w, ((listed.setIfInBounds k true).getD n false = true ∨ S w) → wpT P md ops Q S n f (listed.setIfInBounds k true) a w → K' a w) → Oper.wp P ok a w K' Q)) : wpT P md ops Q S n (f + 1) listed a w := by
  refine ⟨fun h0 => (by rw [hr] at h0; cases h0), fun z hz => ?_⟩
  rw [hr] at hz
  simp only [List.mem_cons, List.not_mem_nil, or_false] at hz
  rcases hz with rfl | rfl | rfl
  · exact wpOp_step ei (fun K' hK => by rw [if_pos wi]; exact hi K' (fun a w hS hW => hK a w ⟨hS, hW⟩))
  · exact wpOp_step ej (fun K' hK => by rw [if_pos wj]; exact hj K' (fun a w hS hW => hK a w ⟨hS, hW⟩))
  · exact wpOp_step ek (fun K' hK => by rw [if_pos wk]; exact hk K' (fun a w hS hW => hK a w ⟨hS, hW⟩))
end
end Go.Proofs.Ytgghopmlcpcpkaa
