/- A step of the proof: what a function of the program computes, or a plain law of numbers. -/
import Derived.Test.YtgghopmlcpcpkaaHeldLib
namespace Go.Proofs.Ytgghopmlcpcpkaa
open Go.RowKit PlainK
set_option linter.unusedVariables false
set_option linter.unusedSimpArgs false
section
variable {P : Program} {ops : Array Oper} {Q : Exit → Act → World → Prop} {md : Region.Mode} {S : World → Prop} {n : Nat}
/-- whatever order is picked, with S behind each operation as long as number n has not come up -/
def wpT (P : Program) (md : Region.Mode) (ops : Array Oper) (Q : Exit → Act → World → Prop) (S : World → Prop) (n : Nat) : Nat → Array Bool → Act → World → Prop
  | 0, listed, a, w => Region.ready md ops listed = [] ∧ Q .normal a w
  | f + 1, listed, a, w => (Region.ready md ops listed = [] → Q .normal a w) ∧ ∀ i ∈ Region.ready md ops listed, wpOp P ops Q i (fun a' w' => ((listed.setIfInBounds i true).getD n false = true ∨ S w') ∧ wpT P md ops Q S n f (listed.setIfInBounds i true) a' w') a w
theorem wpT_any : ∀ (f : Nat) (listed : Array Bool) (a : Act) (w : World), wpT P md ops Q S n f listed a w → wpAny P md ops Q f listed a w
  | 0, _, _, _, h => h
  | f + 1, _, _, _, h => ⟨h.1, fun i hi => wpOp_mono (fun a' w' k => wpT_any f _ a' w' k.2) (h.2 i hi)⟩
/-- number n waits for number i -/
def waits (md : Region.Mode) (ops : Array Oper) (n i : Nat) : Bool := match ops[n]? with
  | some o => o.after.any (fun e => Region.binds md e && e.on == i)
  | none => false
theorem waits_spec {i : Nat} (h : waits md ops n i = true) {o : Oper} (ho : ops[n]? = some o) : ∃ e ∈ o.after, Region.binds md e = true ∧ e.on = i := by
  unfold waits at h
  rw [ho] at h
  obtain ⟨e, he, hb⟩ := Array.any_eq_true'.1 h
  simp only [Bool.and_eq_true, beq_iff_eq] at hb
  exact ⟨e, he, hb.1, hb.2⟩
theorem getD_kept {listed : Array Bool} {j n : Nat} (h : j ≠ n) : (listed.setIfInBounds j true).getD n false = listed.getD n false := by
  simp only [Array.getD_eq_getD_getElem?]
  rw [Array.getElem?_setIfInBounds_ne h]
theorem getD_on {listed : Array Bool} {j n : Nat} (h : listed.getD n false = true) : (listed.setIfInBounds j true).getD n false = true := by
  by_cases e : j = n
  · subst e
    simp only [Array.getD_eq_getD_getElem?] at *
    have hl : j < listed.size := by
      apply Classical.byContradiction; intro hh
      rw [Array.getElem?_eq_none (by omega)] at h; cases h
    rw [Array.getElem?_setIfInBounds_self_of_lt hl]; rfl
  · rw [getD_kept e]; exact h
/-- U: what the operation wants of a world: S, where number n waits for it; nothing, else -/
theorem wpT_first {U : World → Prop} {i : Nat} {oi : Oper} {v : Value} (hi : ops[i]? = some oi) (hs : Region.noSelect ops = true) (hni : i ≠ n)
    (hw : (waits md ops n i = true ∧ ∀ w, S w → U w) ∨ ∀ w, U w)
    (hQ : ∀ c a w, Q (.panic c) (a.put oi.dst v) w → Q (.panic c) a w) :
    ∀ (f : Nat) (listed : Array Bool) (a : Act) (w : World),
      (∀ j oj, ops[j]? = some oj → j ≠ i → listed.getD j true = false → (∀ e ∈ oj.after, Region.binds md e = true → e.on ≠ i) → oi.apart ops oj = true) →
      i ∈ Region.ready md ops listed → YieldsIf P ops U oi v a → (listed.getD n false = true ∨ S w) → (waits md ops n i = true → listed.getD n false = false) → wpT P md ops Q S n f (listed.setIfInBounds i true) (a.put oi.dst v) w → wpT P md ops Q S n (f + 1) listed a w := by
  have hU : ∀ (listed : Array Bool) (w : World), (listed.getD n false = true ∨ S w) → (waits md ops n i = true → listed.getD n false = false) → U w := fun listed w h1 h2 => by
    rcases hw with ⟨hw, hSU⟩ | hU
    · refine hSU w (h1.resolve_left ?_)
      rw [h2 hw]; simp
    · exact hU w
  have hT : ∀ {listed : Array Bool} {w : World}, (listed.getD n false = true ∨ S w) → ((listed.setIfInBounds i true).getD n false = true ∨ S w) := fun h => h.imp getD_on id
  intro f
  induction f with
  | zero =>
    intro listed a w _ hr hy hS hl H
    refine ⟨fun h => (by rw [h] at hr; cases hr), fun j hj => ?_⟩
    by_cases e : j = i
    · subst e; exact hy.wpOp hi (hU _ _ hS hl) ⟨hT hS, H⟩
    · have := ready_mono hj e
      rw [H.1] at this; cases this
  | succ f ih =>
    intro listed a w hfree hr hy hS hl H
    refine ⟨fun h => (by rw [h] at hr; cases hr), fun j hj => ?_⟩
    by_cases e : j = i
    · subst e; exact hy.wpOp hi (hU _ _ hS hl) ⟨hT hS, H⟩
    · obtain ⟨hjun, oj, hoj, hall⟩ := mem_ready.1 hj
      have hiun := (mem_ready.1 hr).1
      have hnot : ∀ x ∈ oj.after, Region.binds md x = true → x.on ≠ i := fun x hx hb hxi => by
        have h1 := hall x hx hb
        rw [hxi] at h1
        rcases Nat.lt_or_ge i listed.size with q | q
        · simp [q] at hiun h1; rw [hiun] at h1; cases h1
        · simp [Array.getElem?_eq_none q] at h1
      have sel := Region.noSelect_spec hs
      have h2 := wpOp_putIf hoj (hfree j oj hoj e hjun hnot) (fun cs b => sel i oi cs b hi) (fun cs b => sel j oj cs b hoj) hQ hy (H.2 j (ready_mono hj e))
      refine wpOp_mono (fun a' w' h3 => ?_) h2
      obtain ⟨y, t, z⟩ := h3
      have t' : (listed.setIfInBounds j true).getD n false = true ∨ S w' := by
        rcases t with t | t
        · left; rw [Array.setIfInBounds_comm _ _ (Ne.symm e)] at t; rwa [getD_kept hni] at t
        · exact Or.inr t
      refine ⟨t', ih (listed.setIfInBounds j true) a' w' (fun k ok hk hki hun hno => hfree k ok hk hki ?_ hno) (ready_mono hr (Ne.symm e)) y t' ?_ ?_⟩
      · by_cases hjk : j = k
        · subst hjk; exact hjun
        · rw [getD_set_ne true hjk] at hun; exact hun
      · intro hw'
        have hjn : j ≠ n := fun hjn => by
          subst hjn
          obtain ⟨x, hx, hb, hxi⟩ := waits_spec hw' hoj
          exact hnot x hx hb hxi
        rw [getD_kept hjn]; exact hl hw'
      · rw [Array.setIfInBounds_comm _ _ e]; exact z
theorem skipT {i : Nat} {d : Option Tmp} {f : Nat} {listed : Array Bool} {a : Act} {w : World} (hi : ∃ oi, ops[i]? = some oi ∧ oi.dst = d ∧ Region.wanted oi (yielded ops a.tmps) = false)
    (hs : Region.noSelect ops = true) (hni : i ≠ n) (hf : Region.free md ops listed i = true) (hr : (Region.ready md ops listed).contains i = true)
    (hQ : ∀ c a w, Q (.panic c) (a.put d undef) w → Q (.panic c) a w) (hS : S w) (hl : listed.getD n false = false)
    (h : wpT P md ops Q S n f (listed.setIfInBounds i true) (a.put d undef) w) : wpT P md ops Q S n (f + 1) listed a w := by
  obtain ⟨oi, h1, rfl, h2⟩ := hi
  exact wpT_first (U := fun _ => True) h1 hs hni (Or.inr (fun _ => trivial)) hQ f listed a w (Region.free_spec h1 hf) (by simpa using hr) (Or.inr ⟨h2, rfl⟩) (Or.inr hS) (fun _ => hl) h
theorem takeT {i : Nat} {d : Option Tmp} {v : Value} {f : Nat} {listed : Array Bool} {a : Act} {w : World} (oi : Oper) (h1 : ops[i]? = some oi) (h2 : oi.dst = d) (h3 : Region.wanted oi (yielded ops a.tmps) = true)
    (hs : Region.noSelect ops = true) (hni : i ≠ n) (hn : waits md ops n i = true) (hf : Region.free md ops listed i = true) (hr : (Region.ready md ops listed).contains i = true)
    (hQ : ∀ c a w, Q (.panic c) (a.put d v) w → Q (.panic c) a w) (hS : S w) (hl : listed.getD n false = false) (h4 : ∀ w, S w → (execOp a.eval oi).run P w = .ok (.value v) w)
    (h : wpT P md ops Q S n f (listed.setIfInBounds i true) (a.put d v) w) : wpT P md ops Q S n (f + 1) listed a w := by
  subst h2
  exact wpT_first (U := S) h1 hs hni (Or.inl ⟨hn, fun _ h => h⟩) hQ f listed a w (Region.free_spec h1 hf) (by simpa using hr) (Or.inl ⟨h3, h4⟩) (Or.inr hS) (fun _ => hl) h
/-- the same of an operation that looks at no world -/
theorem takeW {i : Nat} {d : Option Tmp} {v : Value} {f : Nat} {listed : Array Bool} {a : Act} {w : World} (oi : Oper) (h1 : ops[i]? = some oi) (h2 : oi.dst = d) (h3 : Region.wanted oi (yielded ops a.tmps) = true)
    (hs : Region.noSelect ops = true) (hni : i ≠ n) (hf : Region.free md ops listed i = true) (hr : (Region.ready md ops listed).contains i = true)
    (hQ : ∀ c a w, Q (.panic c) (a.put d v) w → Q (.panic c) a w) (hS : S w) (hl : listed.getD n false = false) (h4 : ∀ w, (execOp a.eval oi).run P w = .ok (.value v) w)
    (h : wpT P md ops Q S n f (listed.setIfInBounds i true) (a.put d v) w) : wpT P md ops Q S n (f + 1) listed a w := by
  subst h2
  exact wpT_first (U := fun _ => True) h1 hs hni (Or.inr (fun _ => trivial)) hQ f listed a w (Region.free_spec h1 hf) (by simpa using hr) (Or.inl ⟨h3, fun w _ => h4 w⟩) (Or.inr hS) (fun _ => hl) h
/-- one operation alone may come up, and it changes the world -/
theorem callT {i : Nat} {f : Nat} {listed : Array Bool} {a : Act} {w : World} (oi : Oper) (h1 : ops[i]? = some oi) (h3 : Region.wanted oi (yielded ops a.tmps) = true)
    (hr : Region.ready md ops listed = [i])
    (h : ∀ K' : Act → World → Prop, Shut (∀ a w, ((listed.setIfInBounds i true).getD n false = true ∨ S w) → wpT P md ops Q S n f (listed.setIfInBounds i true) a w → K' a w) → Oper.wp P oi a w K' Q) : wpT P md ops Q S n (f + 1) listed a w := by
  refine ⟨fun h0 => (by rw [hr] at h0; cases h0), fun j hj => ?_⟩
  rw [hr] at hj
  obtain rfl : j = i := by simpa using hj
  exact wpOp_step h1 (fun K' hK => by rw [if_pos h3]; exact h K' (fun a w hS hW => hK a w ⟨hS, hW⟩))
theorem doneT {listed : Array Bool} {a : Act} {w : World} (hr : Region.ready md ops listed = []) (h : Q .normal a w) : ∀ f, wpT P md ops Q S n f listed a w
  | 0 => ⟨hr, h⟩
  | _ + 1 => ⟨fun _ => h, by rw [hr]; simp⟩
theorem startT {id : Nat} {a : Act} {w : World} (n : Nat) (hm : P.follows .mixedOrders = true) (hS : S w.drew)
    (h : S w.drew → wpT P .any ops Q S n ops.size (Array.replicate ops.size false) a w.drew) : (Code.region id ops true).wp P Q a w :=
  wp_region_any hm (wpT_any _ _ _ _ (h hS))
end
end Go.Proofs.Ytgghopmlcpcpkaa
