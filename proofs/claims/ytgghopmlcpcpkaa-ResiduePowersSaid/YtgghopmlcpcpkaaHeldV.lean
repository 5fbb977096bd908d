/- A step of the proof: what a function of the program computes, or a plain law of numbers. -/
import Derived.Test.YtgghopmlcpcpkaaHeldU
namespace Go.Proofs.Ytgghopmlcpcpkaa
open Go.RowKit PlainK
set_option linter.unusedVariables false
set_option linter.unusedSimpArgs false
theorem put_comm {a : Act} {d e : Nat} {v u : Value} (h : d ≠ e) : (a.put (some d) v).put (some e) u = (a.put (some e) u).put (some d) v := by
  simp only [Act.put]
  rw [Array.setIfInBounds_comm _ _ h]
theorem put_put {a : Act} {d : Nat} {v u : Value} : (a.put (some d) v).put (some d) u = a.put (some d) u := by
  simp only [Act.put]
  rw [Array.setIfInBounds_setIfInBounds]
def ptr (b : Nat) : Value := .pointer (some ⟨b, 0, none⟩)
/-- a box that was made behind w0 -/
structure Own (w0 : World) (w : World) (b : Nat) (Z : Obj) : Prop where
  here : w.heap[b]? = some Z
  new : w0.heap.size ≤ b
section
variable {P : Program} {ops : Array Oper} {Q : Exit → Act → World → Prop} {md : Region.Mode} {S : World → Prop} {n : Nat} {w0 : World}
/-- an alloc's operation -/
structure Mk (P : Program) (ops : Array Oper) (Q : Exit → Act → World → Prop) (i d : Nat) (Z : Obj) : Prop where
  op : ∃ o, ops[i]? = some o ∧ (∀ t, Region.wanted o (yielded ops t) = true) ∧ ∀ (a : Act) (w : World) (K : Act → World → Prop), K (a.put (some d) (ptr w.heap.size)) (w.alloc Z) → Oper.wp P o a w K Q
theorem Own.keep {w w' : World} {b : Nat} {Z : Obj} (h : Own w0 w b Z) (k : Below w.heap.size w w') : Own w0 w' b Z := ⟨below_get k h.here, h.new⟩
theorem Own.alloc {w : World} {b : Nat} {Z Z' : Obj} (h : Own w0 w b Z) : Own w0 (w.alloc Z') b Z := h.keep (bal (Below.refl _ _) _)
theorem Own.mk' {w : World} {Z : Obj} (k : Below w0.heap.size w0 w) : Own w0 (w.alloc Z) w.heap.size Z := ⟨heap_alloc_new _ _, k.size⟩
theorem Own.lt {w : World} {b : Nat} {Z : Obj} (h : Own w0 w b Z) : b < w.heap.size := lt_of_heap h.here
theorem wpT_alloc {f i d : Nat} {Z : Obj} {L : Array Bool} {a : Act} {w : World} (m : Mk P ops Q i d Z) (hJ : Below w0.heap.size w0 w) (hS : ∀ w, Below w0.heap.size w0 w → S w)
    (h : wpT P md ops Q S n f (L.setIfInBounds i true) (a.put (some d) (ptr w.heap.size)) (w.alloc Z)) :
    wpOp P ops Q i (fun a' w' => ((L.setIfInBounds i true).getD n false = true ∨ S w') ∧ wpT P md ops Q S n f (L.setIfInBounds i true) a' w') a w := by
  obtain ⟨o, h1, h2, h3⟩ := m.op
  refine wpOp_step h1 (fun K' hK => ?_)
  rw [if_pos (h2 _)]
  exact h3 a w K' (hK _ _ ⟨Or.inr (hS _ (bal hJ _)), h⟩)
/-- 1 box(es) beside a chain of calls: all states (which boxes are there) at one place of the chain -/
structure NK1 (P : Program) (md : Region.Mode) (ops : Array Oper) (Q : Exit → Act → World → Prop) (S : World → Prop) (n : Nat) (w0 : World) (i1 d1 : Nat) (Z1 : Obj) (x1 : Value) (f : Nat) (L : Array Bool) (B : Act) : Prop where
  st : ∀ w b1, Below w0.heap.size w0 w → Own w0 w b1 Z1 → wpT P md ops Q S n (f) (L.setIfInBounds i1 true) (B.put (some d1) (ptr b1)) w
  sf : ∀ w, Below w0.heap.size w0 w → wpT P md ops Q S n (f + 1) L (B.put (some d1) x1) w
structure CaK1 (P : Program) (ops : Array Oper) (Q : Exit → Act → World → Prop) (w0 : World) (d1 i d : Nat) (F : Value → Prop) (B : Act) : Prop where
  op : ∃ o, ops[i]? = some o ∧ (∀ t, Region.wanted o (yielded ops t) = true) ∧ ∀ (y1 : Value) (w : World), Below w0.heap.size w0 w → ∀ K : Act → World → Prop, Shut (∀ v w', F v → Below w.heap.size w w' → K ((B.put (some d1) y1).put (some d) v) w') → Oper.wp P o (B.put (some d1) y1) w K Q
theorem wpT_call1 {f i d d1 : Nat} {F : Value → Prop} {y1 : Value} {L : Array Bool} {B : Act} {w : World} (m : CaK1 P ops Q w0 d1 i d F B) (hJ : Below w0.heap.size w0 w) (hS : ∀ w, Below w0.heap.size w0 w → S w)
    (h1 : d ≠ d1)
    (h : ∀ v w', F v → Below w.heap.size w w' → wpT P md ops Q S n f (L.setIfInBounds i true) ((B.put (some d) v).put (some d1) y1) w') :
    wpOp P ops Q i (fun a' w' => ((L.setIfInBounds i true).getD n false = true ∨ S w') ∧ wpT P md ops Q S n f (L.setIfInBounds i true) a' w') (B.put (some d1) y1) w := by
  obtain ⟨o, e1, e2, e3⟩ := m.op
  refine wpOp_step e1 (fun K' hK => ?_)
  rw [if_pos (e2 _)]
  refine e3 y1 w hJ K' (fun v w' hv hb => hK _ _ ⟨Or.inr (hS _ (bcl hJ hb)), ?_⟩)
  rw [put_comm (Ne.symm h1)]
  exact h v w' hv hb
theorem NK1.last {i1 d1 : Nat} {Z1 : Obj} {x1 : Value} {f : Nat} {L : Array Bool} {B : Act} (m1 : Mk P ops Q i1 d1 Z1)  (hS : ∀ w, Below w0.heap.size w0 w → S w)
    (rsf : Region.ready md ops L = [i1])
    (st : ∀ w b1, Below w0.heap.size w0 w → Own w0 w b1 Z1 → wpT P md ops Q S n (f) (L.setIfInBounds i1 true) (B.put (some d1) (ptr b1)) w) :
    NK1 P md ops Q S n w0 i1 d1 Z1 x1 f L B := by
  have sf : ∀ w, Below w0.heap.size w0 w → wpT P md ops Q S n (f + 1) L (B.put (some d1) x1) w := fun w  hJ  => by
    refine ⟨fun h0 => (by rw [rsf] at h0; cases h0), fun z hz => ?_⟩
    rw [rsf] at hz
    simp only [List.mem_cons, List.not_mem_nil, or_false] at hz
    rcases hz with rfl
    · refine wpT_alloc m1 hJ hS ?_
      rw [put_put]
      exact st _ _ (bal hJ _) (Own.mk' hJ)
  exact ⟨st, sf⟩
theorem NK1.step {i1 d1 : Nat} {Z1 : Obj} {x1 : Value} {f i d : Nat} {F : Value → Prop} {L : Array Bool} {B : Act} (m1 : Mk P ops Q i1 d1 Z1)  (hS : ∀ w, Below w0.heap.size w0 w → S w)
    (h1 : d ≠ d1) (e1 : i ≠ i1)
    (rst : Region.ready md ops (L.setIfInBounds i1 true) = [i]) (rsf : Region.ready md ops L = [i, i1])
    (c : CaK1 P ops Q w0 d1 i d F B) (N : ∀ v, F v → NK1 P md ops Q S n w0 i1 d1 Z1 x1 f (L.setIfInBounds i true) (B.put (some d) v)) :
    NK1 P md ops Q S n w0 i1 d1 Z1 x1 (f + 1) L B := by
  have st : ∀ w b1, Below w0.heap.size w0 w → Own w0 w b1 Z1 → wpT P md ops Q S n (f + 1) (L.setIfInBounds i1 true) (B.put (some d1) (ptr b1)) w := fun w b1 hJ o1 => by
    refine ⟨fun h0 => (by rw [rst] at h0; cases h0), fun z hz => ?_⟩
    rw [rst] at hz
    simp only [List.mem_cons, List.not_mem_nil, or_false] at hz
    rcases hz with rfl
    · refine wpT_call1 c hJ hS h1 (fun v w' hv hb => ?_)
      rw [Array.setIfInBounds_comm _ _ (Ne.symm e1)]
      exact (N v hv).st _ _ (bcl hJ hb) (o1.keep hb)
  have sf : ∀ w, Below w0.heap.size w0 w → wpT P md ops Q S n (f + 1 + 1) L (B.put (some d1) x1) w := fun w  hJ  => by
    refine ⟨fun h0 => (by rw [rsf] at h0; cases h0), fun z hz => ?_⟩
    rw [rsf] at hz
    simp only [List.mem_cons, List.not_mem_nil, or_false] at hz
    rcases hz with rfl | rfl
    · refine wpT_call1 c hJ hS h1 (fun v w' hv hb => ?_)
      exact (N v hv).sf _ (bcl hJ hb) 
    · refine wpT_alloc m1 hJ hS ?_
      rw [put_put]
      exact st _ _ (bal hJ _) (Own.mk' hJ)
  exact ⟨st, sf⟩
theorem NK1.start {x1 : Value} {f : Nat} {L : Array Bool} {B : Act} {w : World} (i1 d1 : Nat) (Z1 : Obj) (hJ : Below w0.heap.size w0 w) (e : (B.put (some d1) x1) = B) (m1 : Mk P ops Q i1 d1 Z1)
    (N : Mk P ops Q i1 d1 Z1 → NK1 P md ops Q S n w0 i1 d1 Z1 x1 f L B) : wpT P md ops Q S n (f + 1) L B w := by
  have := (N m1).sf w hJ
  rwa [e] at this
/-- 2 box(es) beside a chain of calls: all states (which boxes are there) at one place of the chain -/
structure NK2 (P : Program) (md : Region.Mode) (ops : Array Oper) (Q : Exit → Act → World → Prop) (S : World → Prop) (n : Nat) (w0 : World) (i1 i2 d1 d2 : Nat) (Z1 Z2 : Obj) (x1 x2 : Value) (f : Nat) (L : Array Bool) (B : Act) : Prop where
  stt : ∀ w b1 b2, Below w0.heap.size w0 w → Own w0 w b1 Z1 → Own w0 w b2 Z2 → b1 ≠ b2 → wpT P md ops Q S n (f) ((L.setIfInBounds i1 true).setIfInBounds i2 true) ((B.put (some d1) (ptr b1)).put (some d2) (ptr b2)) w
  stf : ∀ w b1, Below w0.heap.size w0 w → Own w0 w b1 Z1 → wpT P md ops Q S n (f + 1) (L.setIfInBounds i1 true) ((B.put (some d1) (ptr b1)).put (some d2) x2) w
  sft : ∀ w b2, Below w0.heap.size w0 w → Own w0 w b2 Z2 → wpT P md ops Q S n (f + 1) (L.setIfInBounds i2 true) ((B.put (some d1) x1).put (some d2) (ptr b2)) w
  sff : ∀ w, Below w0.heap.size w0 w → wpT P md ops Q S n (f + 2) L ((B.put (some d1) x1).put (some d2) x2) w
structure CaK2 (P : Program) (ops : Array Oper) (Q : Exit → Act → World → Prop) (w0 : World) (d1 d2 i d : Nat) (F : Value → Prop) (B : Act) : Prop where
  op : ∃ o, ops[i]? = some o ∧ (∀ t, Region.wanted o (yielded ops t) = true) ∧ ∀ (y1 y2 : Value) (w : World), Below w0.heap.size w0 w → ∀ K : Act → World → Prop, Shut (∀ v w', F v → Below w.heap.size w w' → K (((B.put (some d1) y1).put (some d2) y2).put (some d) v) w') → Oper.wp P o ((B.put (some d1) y1).put (some d2) y2) w K Q
theorem wpT_call2 {f i d d1 d2 : Nat} {F : Value → Prop} {y1 y2 : Value} {L : Array Bool} {B : Act} {w : World} (m : CaK2 P ops Q w0 d1 d2 i d F B) (hJ : Below w0.heap.size w0 w) (hS : ∀ w, Below w0.heap.size w0 w → S w)
    (h1 : d ≠ d1) (h2 : d ≠ d2)
    (h : ∀ v w', F v → Below w.heap.size w w' → wpT P md ops Q S n f (L.setIfInBounds i true) (((B.put (some d) v).put (some d1) y1).put (some d2) y2) w') :
    wpOp P ops Q i (fun a' w' => ((L.setIfInBounds i true).getD n false = true ∨ S w') ∧ wpT P md ops Q S n f (L.setIfInBounds i true) a' w') ((B.put (some d1) y1).put (some d2) y2) w := by
  obtain ⟨o, e1, e2, e3⟩ := m.op
  refine wpOp_step e1 (fun K' hK => ?_)
  rw [if_pos (e2 _)]
  refine e3 y1 y2 w hJ K' (fun v w' hv hb => hK _ _ ⟨Or.inr (hS _ (bcl hJ hb)), ?_⟩)
  rw [put_comm (Ne.symm h2), put_comm (Ne.symm h1)]
  exact h v w' hv hb
theorem NK2.last {i1 i2 d1 d2 : Nat} {Z1 Z2 : Obj} {x1 x2 : Value} {f : Nat} {L : Array Bool} {B : Act} (m1 : Mk P ops Q i1 d1 Z1) (m2 : Mk P ops Q i2 d2 Z2) (hd12 : d1 ≠ d2) (hi12 : i1 ≠ i2) (hS : ∀ w, Below w0.heap.size w0 w → S w)
    (rstf : Region.ready md ops (L.setIfInBounds i1 true) = [i2]) (rsft : Region.ready md ops (L.setIfInBounds i2 true) = [i1]) (rsff : Region.ready md ops L = [i1, i2])
    (stt : ∀ w b1 b2, Below w0.heap.size w0 w → Own w0 w b1 Z1 → Own w0 w b2 Z2 → b1 ≠ b2 → wpT P md ops Q S n (f) ((L.setIfInBounds i1 true).setIfInBounds i2 true) ((B.put (some d1) (ptr b1)).put (some d2) (ptr b2)) w) :
    NK2 P md ops Q S n w0 i1 i2 d1 d2 Z1 Z2 x1 x2 f L B := by
  have stf : ∀ w b1, Below w0.heap.size w0 w → Own w0 w b1 Z1 → wpT P md ops Q S n (f + 1) (L.setIfInBounds i1 true) ((B.put (some d1) (ptr b1)).put (some d2) x2) w := fun w b1 hJ o1 => by
    refine ⟨fun h0 => (by rw [rstf] at h0; cases h0), fun z hz => ?_⟩
    rw [rstf] at hz
    simp only [List.mem_cons, List.not_mem_nil, or_false] at hz
    rcases hz with rfl
    · refine wpT_alloc m2 hJ hS ?_
      rw [put_put]
      exact stt _ _ _ (bal hJ _) o1.alloc (Own.mk' hJ) (Nat.ne_of_lt o1.lt)
  have sft : ∀ w b2, Below w0.heap.size w0 w → Own w0 w b2 Z2 → wpT P md ops Q S n (f + 1) (L.setIfInBounds i2 true) ((B.put (some d1) x1).put (some d2) (ptr b2)) w := fun w b2 hJ o2 => by
    refine ⟨fun h0 => (by rw [rsft] at h0; cases h0), fun z hz => ?_⟩
    rw [rsft] at hz
    simp only [List.mem_cons, List.not_mem_nil, or_false] at hz
    rcases hz with rfl
    · refine wpT_alloc m1 hJ hS ?_
      rw [put_comm (Ne.symm hd12), put_put, Array.setIfInBounds_comm _ _ (Ne.symm hi12)]
      exact stt _ _ _ (bal hJ _) (Own.mk' hJ) o2.alloc (Nat.ne_of_gt o2.lt)
  have sff : ∀ w, Below w0.heap.size w0 w → wpT P md ops Q S n (f + 2) L ((B.put (some d1) x1).put (some d2) x2) w := fun w  hJ  => by
    refine ⟨fun h0 => (by rw [rsff] at h0; cases h0), fun z hz => ?_⟩
    rw [rsff] at hz
    simp only [List.mem_cons, List.not_mem_nil, or_false] at hz
    rcases hz with rfl | rfl
    · refine wpT_alloc m1 hJ hS ?_
      rw [put_comm (Ne.symm hd12), put_put]
      exact stf _ _ (bal hJ _) (Own.mk' hJ)
    · refine wpT_alloc m2 hJ hS ?_
      rw [put_put]
      exact sft _ _ (bal hJ _) (Own.mk' hJ)
  exact ⟨stt, stf, sft, sff⟩
theorem NK2.step {i1 i2 d1 d2 : Nat} {Z1 Z2 : Obj} {x1 x2 : Value} {f i d : Nat} {F : Value → Prop} {L : Array Bool} {B : Act} (m1 : Mk P ops Q i1 d1 Z1) (m2 : Mk P ops Q i2 d2 Z2) (hd12 : d1 ≠ d2) (hi12 : i1 ≠ i2) (hS : ∀ w, Below w0.heap.size w0 w → S w)
    (h1 : d ≠ d1) (e1 : i ≠ i1) (h2 : d ≠ d2) (e2 : i ≠ i2)
    (rstt : Region.ready md ops ((L.setIfInBounds i1 true).setIfInBounds i2 true) = [i]) (rstf : Region.ready md ops (L.setIfInBounds i1 true) = [i, i2]) (rsft : Region.ready md ops (L.setIfInBounds i2 true) = [i, i1]) (rsff : Region.ready md ops L = [i, i1, i2])
    (c : CaK2 P ops Q w0 d1 d2 i d F B) (N : ∀ v, F v → NK2 P md ops Q S n w0 i1 i2 d1 d2 Z1 Z2 x1 x2 f (L.setIfInBounds i true) (B.put (some d) v)) :
    NK2 P md ops Q S n w0 i1 i2 d1 d2 Z1 Z2 x1 x2 (f + 1) L B := by
  have stt : ∀ w b1 b2, Below w0.heap.size w0 w → Own w0 w b1 Z1 → Own w0 w b2 Z2 → b1 ≠ b2 → wpT P md ops Q S n (f + 1) ((L.setIfInBounds i1 true).setIfInBounds i2 true) ((B.put (some d1) (ptr b1)).put (some d2) (ptr b2)) w := fun w b1 b2 hJ o1 o2 n12 => by
    refine ⟨fun h0 => (by rw [rstt] at h0; cases h0), fun z hz => ?_⟩
    rw [rstt] at hz
    simp only [List.mem_cons, List.not_mem_nil, or_false] at hz
    rcases hz with rfl
    · refine wpT_call2 c hJ hS h1 h2 (fun v w' hv hb => ?_)
      rw [Array.setIfInBounds_comm _ _ (Ne.symm e2), Array.setIfInBounds_comm _ _ (Ne.symm e1)]
      exact (N v hv).stt _ _ _ (bcl hJ hb) (o1.keep hb) (o2.keep hb) n12
  have stf : ∀ w b1, Below w0.heap.size w0 w → Own w0 w b1 Z1 → wpT P md ops Q S n (f + 1 + 1) (L.setIfInBounds i1 true) ((B.put (some d1) (ptr b1)).put (some d2) x2) w := fun w b1 hJ o1 => by
    refine ⟨fun h0 => (by rw [rstf] at h0; cases h0), fun z hz => ?_⟩
    rw [rstf] at hz
    simp only [List.mem_cons, List.not_mem_nil, or_false] at hz
    rcases hz with rfl | rfl
    · refine wpT_call2 c hJ hS h1 h2 (fun v w' hv hb => ?_)
      rw [Array.setIfInBounds_comm _ _ (Ne.symm e1)]
      exact (N v hv).stf _ _ (bcl hJ hb) (o1.keep hb)
    · refine wpT_alloc m2 hJ hS ?_
      rw [put_put]
      exact stt _ _ _ (bal hJ _) o1.alloc (Own.mk' hJ) (Nat.ne_of_lt o1.lt)
  have sft : ∀ w b2, Below w0.heap.size w0 w → Own w0 w b2 Z2 → wpT P md ops Q S n (f + 1 + 1) (L.setIfInBounds i2 true) ((B.put (some d1) x1).put (some d2) (ptr b2)) w := fun w b2 hJ o2 => by
    refine ⟨fun h0 => (by rw [rsft] at h0; cases h0), fun z hz => ?_⟩
    rw [rsft] at hz
    simp only [List.mem_cons, List.not_mem_nil, or_false] at hz
    rcases hz with rfl | rfl
    · refine wpT_call2 c hJ hS h1 h2 (fun v w' hv hb => ?_)
      rw [Array.setIfInBounds_comm _ _ (Ne.symm e2)]
      exact (N v hv).sft _ _ (bcl hJ hb) (o2.keep hb)
    · refine wpT_alloc m1 hJ hS ?_
      rw [put_comm (Ne.symm hd12), put_put, Array.setIfInBounds_comm _ _ (Ne.symm hi12)]
      exact stt _ _ _ (bal hJ _) (Own.mk' hJ) o2.alloc (Nat.ne_of_gt o2.lt)
  have sff : ∀ w, Below w0.heap.size w0 w → wpT P md ops Q S n (f + 1 + 2) L ((B.put (some d1) x1).put (some d2) x2) w := fun w  hJ  => by
    refine ⟨fun h0 => (by rw [rsff] at h0; cases h0), fun z hz => ?_⟩
    rw [rsff] at hz
    simp only [List.mem_cons, List.not_mem_nil, or_false] at hz
    rcases hz with rfl | rfl | rfl
    · refine wpT_call2 c hJ hS h1 h2 (fun v w' hv hb => ?_)
      exact (N v hv).sff _ (bcl hJ hb) 
    · refine wpT_alloc m1 hJ hS ?_
      rw [put_comm (Ne.symm hd12), put_put]
      exact stf _ _ (bal hJ _) (Own.mk' hJ)
    · refine wpT_alloc m2 hJ hS ?_
      rw [put_put]
      exact sft _ _ (bal hJ _) (Own.mk' hJ)
  exact ⟨stt, stf, sft, sff⟩
theorem NK2.start {x1 x2 : Value} {f : Nat} {L : Array Bool} {B : Act} {w : World} (i1 i2 d1 d2 : Nat) (Z1 Z2 : Obj) (hJ : Below w0.heap.size w0 w) (e : ((B.put (some d1) x1).put (some d2) x2) = B) (m1 : Mk P ops Q i1 d1 Z1) (m2 : Mk P ops Q i2 d2 Z2)
    (N : Mk P ops Q i1 d1 Z1 → Mk P ops Q i2 d2 Z2 → NK2 P md ops Q S n w0 i1 i2 d1 d2 Z1 Z2 x1 x2 f L B) : wpT P md ops Q S n (f + 2) L B w := by
  have := (N m1 m2).sff w hJ
  rwa [e] at this
/-- 3 box(es) beside a chain of calls: all states (which boxes are there) at one place of the chain -/
structure NK3 (P : Program) (md : Region.Mode) (ops : Array Oper) (Q : Exit → Act → World → Prop) (S : World → Prop) (n : Nat) (w0 : World) (i1 i2 i3 d1 d2 d3 : Nat) (Z1 Z2 Z3 : Obj) (x1 x2 x3 : Value) (f : Nat) (L : Array Bool) (B : Act) : Prop where
  sttt : ∀ w b1 b2 b3, Below w0.heap.size w0 w → Own w0 w b1 Z1 → Own w0 w b2 Z2 → Own w0 w b3 Z3 → b1 ≠ b2 → b1 ≠ b3 → b2 ≠ b3 → wpT P md ops Q S n (f) (((L.setIfInBounds i1 true).setIfInBounds i2 true).setIfInBounds i3 true) (((B.put (some d1) (ptr b1)).put (some d2) (ptr b2)).put (some d3) (ptr b3)) w
  sttf : ∀ w b1 b2, Below w0.heap.size w0 w → Own w0 w b1 Z1 → Own w0 w b2 Z2 → b1 ≠ b2 → wpT P md ops Q S n (f + 1) ((L.setIfInBounds i1 true).setIfInBounds i2 true) (((B.put (some d1) (ptr b1)).put (some d2) (ptr b2)).put (some d3) x3) w
  stft : ∀ w b1 b3, Below w0.heap.size w0 w → Own w0 w b1 Z1 → Own w0 w b3 Z3 → b1 ≠ b3 → wpT P md ops Q S n (f + 1) ((L.setIfInBounds i1 true).setIfInBounds i3 true) (((B.put (some d1) (ptr b1)).put (some d2) x2).put (some d3) (ptr b3)) w
  sftt : ∀ w b2 b3, Below w0.heap.size w0 w → Own w0 w b2 Z2 → Own w0 w b3 Z3 → b2 ≠ b3 → wpT P md ops Q S n (f + 1) ((L.setIfInBounds i2 true).setIfInBounds i3 true) (((B.put (some d1) x1).put (some d2) (ptr b2)).put (some d3) (ptr b3)) w
  stff : ∀ w b1, Below w0.heap.size w0 w → Own w0 w b1 Z1 → wpT P md ops Q S n (f + 2) (L.setIfInBounds i1 true) (((B.put (some d1) (ptr b1)).put (some d2) x2).put (some d3) x3) w
  sftf : ∀ w b2, Below w0.heap.size w0 w → Own w0 w b2 Z2 → wpT P md ops Q S n (f + 2) (L.setIfInBounds i2 true) (((B.put (some d1) x1).put (some d2) (ptr b2)).put (some d3) x3) w
  sfft : ∀ w b3, Below w0.heap.size w0 w → Own w0 w b3 Z3 → wpT P md ops Q S n (f + 2) (L.setIfInBounds i3 true) (((B.put (some d1) x1).put (some d2) x2).put (some d3) (ptr b3)) w
  sfff : ∀ w, Below w0.heap.size w0 w → wpT P md ops Q S n (f + 3) L (((B.put (some d1) x1).put (some d2) x2).put (some d3) x3) w
structure CaK3 (P : Program) (ops : Array Oper) (Q : Exit → Act → World → Prop) (w0 : World) (d1 d2 d3 i d : Nat) (F : Value → Prop) (B : Act) : Prop where
  op : ∃ o, ops[i]? = some o ∧ (∀ t, Region.wanted o (yielded ops t) = true) ∧ ∀ (y1 y2 y3 : Value) (w : World), Below w0.heap.size w0 w → ∀ K : Act → World → Prop, Shut (∀ v w', F v → Below w.heap.size w w' → K ((((B.put (some d1) y1).put (some d2) y2).put (some d3) y3).put (some d) v) w') → Oper.wp P o (((B.put (some d1) y1).put (some d2) y2).put (some d3) y3) w K Q
theorem wpT_call3 {f i d d1 d2 d3 : Nat} {F : Value → Prop} {y1 y2 y3 : Value} {L : Array Bool} {B : Act} {w : World} (m : CaK3 P ops Q w0 d1 d2 d3 i d F B) (hJ : Below w0.heap.size w0 w) (hS : ∀ w, Below w0.heap.size w0 w → S w)
    (h1 : d ≠ d1) (h2 : d ≠ d2) (h3 : d ≠ d3)
    (h : ∀ v w', F v → Below w.heap.size w w' → wpT P md ops Q S n f (L.setIfInBounds i true) ((((B.put (some d) v).put (some d1) y1).put (some d2) y2).put (some d3) y3) w') :
    wpOp P ops Q i (fun a' w' => ((L.setIfInBounds i true).getD n false = true ∨ S w') ∧ wpT P md ops Q S n f (L.setIfInBounds i true) a' w') (((B.put (some d1) y1).put (some d2) y2).put (some d3) y3) w := by
  obtain ⟨o, e1, e2, e3⟩ := m.op
  refine wpOp_step e1 (fun K' hK => ?_)
  rw [if_pos (e2 _)]
  refine e3 y1 y2 y3 w hJ K' (fun v w' hv hb => hK _ _ ⟨Or.inr (hS _ (bcl hJ hb)), ?_⟩)
  rw [put_comm (Ne.symm h3), put_comm (Ne.symm h2), put_comm (Ne.symm h1)]
  exact h v w' hv hb
theorem NK3.last {i1 i2 i3 d1 d2 d3 : Nat} {Z1 Z2 Z3 : Obj} {x1 x2 x3 : Value} {f : Nat} {L : Array Bool} {B : Act} (m1 : Mk P ops Q i1 d1 Z1) (m2 : Mk P ops Q i2 d2 Z2) (m3 : Mk P ops Q i3 d3 Z3) (hd12 : d1 ≠ d2) (hi12 : i1 ≠ i2) (hd13 : d1 ≠ d3) (hi13 : i1 ≠ i3) (hd23 : d2 ≠ d3) (hi23 : i2 ≠ i3) (hS : ∀ w, Below w0.heap.size w0 w → S w)
    (rsttf : Region.ready md ops ((L.setIfInBounds i1 true).setIfInBounds i2 true) = [i3]) (rstft : Region.ready md ops ((L.setIfInBounds i1 true).setIfInBounds i3 true) = [i2]) (rsftt : Region.ready md ops ((L.setIfInBounds i2 true).setIfInBounds i3 true) = [i1]) (rstff : Region.ready md ops (L.setIfInBounds i1 true) = [i2, i3]) (rsftf : Region.ready md ops (L.setIfInBounds i2 true) = [i1, i3]) (rsfft : Region.ready md ops (L.setIfInBounds i3 true) = [i1, i2]) (rsfff : Region.ready md ops L = [i1, i2, i3])
    (sttt : ∀ w b1 b2 b3, Below w0.heap.size w0 w → Own w0 w b1 Z1 → Own w0 w b2 Z2 → Own w0 w b3 Z3 → b1 ≠ b2 → b1 ≠ b3 → b2 ≠ b3 → wpT P md ops Q S n (f) (((L.setIfInBounds i1 true).setIfInBounds i2 true).setIfInBounds i3 true) (((B.put (some d1) (ptr b1)).put (some d2) (ptr b2)).put (some d3) (ptr b3)) w) :
    NK3 P md ops Q S n w0 i1 i2 i3 d1 d2 d3 Z1 Z2 Z3 x1 x2 x3 f L B := by
  have sttf : ∀ w b1 b2, Below w0.heap.size w0 w → Own w0 w b1 Z1 → Own w0 w b2 Z2 → b1 ≠ b2 → wpT P md ops Q S n (f + 1) ((L.setIfInBounds i1 true).setIfInBounds i2 true) (((B.put (some d1) (ptr b1)).put (some d2) (ptr b2)).put (some d3) x3) w := fun w b1 b2 hJ o1 o2 n12 => by
    refine ⟨fun h0 => (by rw [rsttf] at h0; cases h0), fun z hz => ?_⟩
    rw [rsttf] at hz
    simp only [List.mem_cons, List.not_mem_nil, or_false] at hz
    rcases hz with rfl
    · refine wpT_alloc m3 hJ hS ?_
      rw [put_put]
      exact sttt _ _ _ _ (bal hJ _) o1.alloc o2.alloc (Own.mk' hJ) n12 (Nat.ne_of_lt o1.lt) (Nat.ne_of_lt o2.lt)
  have stft : ∀ w b1 b3, Below w0.heap.size w0 w → Own w0 w b1 Z1 → Own w0 w b3 Z3 → b1 ≠ b3 → wpT P md ops Q S n (f + 1) ((L.setIfInBounds i1 true).setIfInBounds i3 true) (((B.put (some d1) (ptr b1)).put (some d2) x2).put (some d3) (ptr b3)) w := fun w b1 b3 hJ o1 o3 n13 => by
    refine ⟨fun h0 => (by rw [rstft] at h0; cases h0), fun z hz => ?_⟩
    rw [rstft] at hz
    simp only [List.mem_cons, List.not_mem_nil, or_false] at hz
    rcases hz with rfl
    · refine wpT_alloc m2 hJ hS ?_
      rw [put_comm (Ne.symm hd23), put_put, Array.setIfInBounds_comm _ _ (Ne.symm hi23)]
      exact sttt _ _ _ _ (bal hJ _) o1.alloc (Own.mk' hJ) o3.alloc (Nat.ne_of_lt o1.lt) n13 (Nat.ne_of_gt o3.lt)
  have sftt : ∀ w b2 b3, Below w0.heap.size w0 w → Own w0 w b2 Z2 → Own w0 w b3 Z3 → b2 ≠ b3 → wpT P md ops Q S n (f + 1) ((L.setIfInBounds i2 true).setIfInBounds i3 true) (((B.put (some d1) x1).put (some d2) (ptr b2)).put (some d3) (ptr b3)) w := fun w b2 b3 hJ o2 o3 n23 => by
    refine ⟨fun h0 => (by rw [rsftt] at h0; cases h0), fun z hz => ?_⟩
    rw [rsftt] at hz
    simp only [List.mem_cons, List.not_mem_nil, or_false] at hz
    rcases hz with rfl
    · refine wpT_alloc m1 hJ hS ?_
      rw [put_comm (Ne.symm hd13), put_comm (Ne.symm hd12), put_put, Array.setIfInBounds_comm _ _ (Ne.symm hi13), Array.setIfInBounds_comm _ _ (Ne.symm hi12)]
      exact sttt _ _ _ _ (bal hJ _) (Own.mk' hJ) o2.alloc o3.alloc (Nat.ne_of_gt o2.lt) (Nat.ne_of_gt o3.lt) n23
  have stff : ∀ w b1, Below w0.heap.size w0 w → Own w0 w b1 Z1 → wpT P md ops Q S n (f + 2) (L.setIfInBounds i1 true) (((B.put (some d1) (ptr b1)).put (some d2) x2).put (some d3) x3) w := fun w b1 hJ o1 => by
    refine ⟨fun h0 => (by rw [rstff] at h0; cases h0), fun z hz => ?_⟩
    rw [rstff] at hz
    simp only [List.mem_cons, List.not_mem_nil, or_false] at hz
    rcases hz with rfl | rfl
    · refine wpT_alloc m2 hJ hS ?_
      rw [put_comm (Ne.symm hd23), put_put]
      exact sttf _ _ _ (bal hJ _) o1.alloc (Own.mk' hJ) (Nat.ne_of_lt o1.lt)
    · refine wpT_alloc m3 hJ hS ?_
      rw [put_put]
      exact stft _ _ _ (bal hJ _) o1.alloc (Own.mk' hJ) (Nat.ne_of_lt o1.lt)
  have sftf : ∀ w b2, Below w0.heap.size w0 w → Own w0 w b2 Z2 → wpT P md ops Q S n (f + 2) (L.setIfInBounds i2 true) (((B.put (some d1) x1).put (some d2) (ptr b2)).put (some d3) x3) w := fun w b2 hJ o2 => by
    refine ⟨fun h0 => (by rw [rsftf] at h0; cases h0), fun z hz => ?_⟩
    rw [rsftf] at hz
    simp only [List.mem_cons, List.not_mem_nil, or_false] at hz
    rcases hz with rfl | rfl
    · refine wpT_alloc m1 hJ hS ?_
      rw [put_comm (Ne.symm hd13), put_comm (Ne.symm hd12), put_put, Array.setIfInBounds_comm _ _ (Ne.symm hi12)]
      exact sttf _ _ _ (bal hJ _) (Own.mk' hJ) o2.alloc (Nat.ne_of_gt o2.lt)
    · refine wpT_alloc m3 hJ hS ?_
      rw [put_put]
      exact sftt _ _ _ (bal hJ _) o2.alloc (Own.mk' hJ) (Nat.ne_of_lt o2.lt)
  have sfft : ∀ w b3, Below w0.heap.size w0 w → Own w0 w b3 Z3 → wpT P md ops Q S n (f + 2) (L.setIfInBounds i3 true) (((B.put (some d1) x1).put (some d2) x2).put (some d3) (ptr b3)) w := fun w b3 hJ o3 => by
    refine ⟨fun h0 => (by rw [rsfft] at h0; cases h0), fun z hz => ?_⟩
    rw [rsfft] at hz
    simp only [List.mem_cons, List.not_mem_nil, or_false] at hz
    rcases hz with rfl | rfl
    · refine wpT_alloc m1 hJ hS ?_
      rw [put_comm (Ne.symm hd13), put_comm (Ne.symm hd12), put_put, Array.setIfInBounds_comm _ _ (Ne.symm hi13)]
      exact stft _ _ _ (bal hJ _) (Own.mk' hJ) o3.alloc (Nat.ne_of_gt o3.lt)
    · refine wpT_alloc m2 hJ hS ?_
      rw [put_comm (Ne.symm hd23), put_put, Array.setIfInBounds_comm _ _ (Ne.symm hi23)]
      exact sftt _ _ _ (bal hJ _) (Own.mk' hJ) o3.alloc (Nat.ne_of_gt o3.lt)
  have sfff : ∀ w, Below w0.heap.size w0 w → wpT P md ops Q S n (f + 3) L (((B.put (some d1) x1).put (some d2) x2).put (some d3) x3) w := fun w  hJ  => by
    refine ⟨fun h0 => (by rw [rsfff] at h0; cases h0), fun z hz => ?_⟩
    rw [rsfff] at hz
    simp only [List.mem_cons, List.not_mem_nil, or_false] at hz
    rcases hz with rfl | rfl | rfl
    · refine wpT_alloc m1 hJ hS ?_
      rw [put_comm (Ne.symm hd13), put_comm (Ne.symm hd12), put_put]
      exact stff _ _ (bal hJ _) (Own.mk' hJ)
    · refine wpT_alloc m2 hJ hS ?_
      rw [put_comm (Ne.symm hd23), put_put]
      exact sftf _ _ (bal hJ _) (Own.mk' hJ)
    · refine wpT_alloc m3 hJ hS ?_
      rw [put_put]
      exact sfft _ _ (bal hJ _) (Own.mk' hJ)
  exact ⟨sttt, sttf, stft, sftt, stff, sftf, sfft, sfff⟩
theorem NK3.step {i1 i2 i3 d1 d2 d3 : Nat} {Z1 Z2 Z3 : Obj} {x1 x2 x3 : Value} {f i d : Nat} {F : Value → Prop} {L : Array Bool} {B : Act} (m1 : Mk P ops Q i1 d1 Z1) (m2 : Mk P ops Q i2 d2 Z2) (m3 : Mk P ops Q i3 d3 Z3) (hd12 : d1 ≠ d2) (hi12 : i1 ≠ i2) (hd13 : d1 ≠ d3) (hi13 : i1 ≠ i3) (hd23 : d2 ≠ d3) (hi23 : i2 ≠ i3) (hS : ∀ w, Below w0.heap.size w0 w → S w)
    (h1 : d ≠ d1) (e1 : i ≠ i1) (h2 : d ≠ d2) (e2 : i ≠ i2) (h3 : d ≠ d3) (e3 : i ≠ i3)
    (rsttt : Region.ready md ops (((L.setIfInBounds i1 true).setIfInBounds i2 true).setIfInBounds i3 true) = [i]) (rsttf : Region.ready md ops ((L.setIfInBounds i1 true).setIfInBounds i2 true) = [i, i3]) (rstft : Region.ready md ops ((L.setIfInBounds i1 true).setIfInBounds i3 true) = [i, i2]) (rsftt : Region.ready md ops ((L.setIfInBounds i2 true).setIfInBounds i3 true) = [i, i1]) (rstff : Region.ready md ops (L.setIfInBounds i1 true) = [i, i2, i3]) (rsftf : Region.ready md ops (L.setIfInBounds i2 true) = [i, i1, i3]) (rsfft : Region.ready md ops (L.setIfInBounds i3 true) = [i, i1, i2]) (rsfff : Region.ready md ops L = [i, i1, i2, i3])
    (c : CaK3 P ops Q w0 d1 d2 d3 i d F B) (N : ∀ v, F v → NK3 P md ops Q S n w0 i1 i2 i3 d1 d2 d3 Z1 Z2 Z3 x1 x2 x3 f (L.setIfInBounds i true) (B.put (some d) v)) :
    NK3 P md ops Q S n w0 i1 i2 i3 d1 d2 d3 Z1 Z2 Z3 x1 x2 x3 (f + 1) L B := by
  have sttt : ∀ w b1 b2 b3, Below w0.heap.size w0 w → Own w0 w b1 Z1 → Own w0 w b2 Z2 → Own w0 w b3 Z3 → b1 ≠ b2 → b1 ≠ b3 → b2 ≠ b3 → wpT P md ops Q S n (f + 1) (((L.setIfInBounds i1 true).setIfInBounds i2 true).setIfInBounds i3 true) (((B.put (some d1) (ptr b1)).put (some d2) (ptr b2)).put (some d3) (ptr b3)) w := fun w b1 b2 b3 hJ o1 o2 o3 n12 n13 n23 => by
    refine ⟨fun h0 => (by rw [rsttt] at h0; cases h0), fun z hz => ?_⟩
    rw [rsttt] at hz
    simp only [List.mem_cons, List.not_mem_nil, or_false] at hz
    rcases hz with rfl
    · refine wpT_call3 c hJ hS h1 h2 h3 (fun v w' hv hb => ?_)
      rw [Array.setIfInBounds_comm _ _ (Ne.symm e3), Array.setIfInBounds_comm _ _ (Ne.symm e2), Array.setIfInBounds_comm _ _ (Ne.symm e1)]
      exact (N v hv).sttt _ _ _ _ (bcl hJ hb) (o1.keep hb) (o2.keep hb) (o3.keep hb) n12 n13 n23
  have sttf : ∀ w b1 b2, Below w0.heap.size w0 w → Own w0 w b1 Z1 → Own w0 w b2 Z2 → b1 ≠ b2 → wpT P md ops Q S n (f + 1 + 1) ((L.setIfInBounds i1 true).setIfInBounds i2 true) (((B.put (some d1) (ptr b1)).put (some d2) (ptr b2)).put (some d3) x3) w := fun w b1 b2 hJ o1 o2 n12 => by
    refine ⟨fun h0 => (by rw [rsttf] at h0; cases h0), fun z hz => ?_⟩
    rw [rsttf] at hz
    simp only [List.mem_cons, List.not_mem_nil, or_false] at hz
    rcases hz with rfl | rfl
    · refine wpT_call3 c hJ hS h1 h2 h3 (fun v w' hv hb => ?_)
      rw [Array.setIfInBounds_comm _ _ (Ne.symm e2), Array.setIfInBounds_comm _ _ (Ne.symm e1)]
      exact (N v hv).sttf _ _ _ (bcl hJ hb) (o1.keep hb) (o2.keep hb) n12
    · refine wpT_alloc m3 hJ hS ?_
      rw [put_put]
      exact sttt _ _ _ _ (bal hJ _) o1.alloc o2.alloc (Own.mk' hJ) n12 (Nat.ne_of_lt o1.lt) (Nat.ne_of_lt o2.lt)
  have stft : ∀ w b1 b3, Below w0.heap.size w0 w → Own w0 w b1 Z1 → Own w0 w b3 Z3 → b1 ≠ b3 → wpT P md ops Q S n (f + 1 + 1) ((L.setIfInBounds i1 true).setIfInBounds i3 true) (((B.put (some d1) (ptr b1)).put (some d2) x2).put (some d3) (ptr b3)) w := fun w b1 b3 hJ o1 o3 n13 => by
    refine ⟨fun h0 => (by rw [rstft] at h0; cases h0), fun z hz => ?_⟩
    rw [rstft] at hz
    simp only [List.mem_cons, List.not_mem_nil, or_false] at hz
    rcases hz with rfl | rfl
    · refine wpT_call3 c hJ hS h1 h2 h3 (fun v w' hv hb => ?_)
      rw [Array.setIfInBounds_comm _ _ (Ne.symm e3), Array.setIfInBounds_comm _ _ (Ne.symm e1)]
      exact (N v hv).stft _ _ _ (bcl hJ hb) (o1.keep hb) (o3.keep hb) n13
    · refine wpT_alloc m2 hJ hS ?_
      rw [put_comm (Ne.symm hd23), put_put, Array.setIfInBounds_comm _ _ (Ne.symm hi23)]
      exact sttt _ _ _ _ (bal hJ _) o1.alloc (Own.mk' hJ) o3.alloc (Nat.ne_of_lt o1.lt) n13 (Nat.ne_of_gt o3.lt)
  have sftt : ∀ w b2 b3, Below w0.heap.size w0 w → Own w0 w b2 Z2 → Own w0 w b3 Z3 → b2 ≠ b3 → wpT P md ops Q S n (f + 1 + 1) ((L.setIfInBounds i2 true).setIfInBounds i3 true) (((B.put (some d1) x1).put (some d2) (ptr b2)).put (some d3) (ptr b3)) w := fun w b2 b3 hJ o2 o3 n23 => by
    refine ⟨fun h0 => (by rw [rsftt] at h0; cases h0), fun z hz => ?_⟩
    rw [rsftt] at hz
    simp only [List.mem_cons, List.not_mem_nil, or_false] at hz
    rcases hz with rfl | rfl
    · refine wpT_call3 c hJ hS h1 h2 h3 (fun v w' hv hb => ?_)
      rw [Array.setIfInBounds_comm _ _ (Ne.symm e3), Array.setIfInBounds_comm _ _ (Ne.symm e2)]
      exact (N v hv).sftt _ _ _ (bcl hJ hb) (o2.keep hb) (o3.keep hb) n23
    · refine wpT_alloc m1 hJ hS ?_
      rw [put_comm (Ne.symm hd13), put_comm (Ne.symm hd12), put_put, Array.setIfInBounds_comm _ _ (Ne.symm hi13), Array.setIfInBounds_comm _ _ (Ne.symm hi12)]
      exact sttt _ _ _ _ (bal hJ _) (Own.mk' hJ) o2.alloc o3.alloc (Nat.ne_of_gt o2.lt) (Nat.ne_of_gt o3.lt) n23
  have stff : ∀ w b1, Below w0.heap.size w0 w → Own w0 w b1 Z1 → wpT P md ops Q S n (f + 1 + 2) (L.setIfInBounds i1 true) (((B.put (some d1) (ptr b1)).put (some d2) x2).put (some d3) x3) w := fun w b1 hJ o1 => by
    refine ⟨fun h0 => (by rw [rstff] at h0; cases h0), fun z hz => ?_⟩
    rw [rstff] at hz
    simp only [List.mem_cons, List.not_mem_nil, or_false] at hz
    rcases hz with rfl | rfl | rfl
    · refine wpT_call3 c hJ hS h1 h2 h3 (fun v w' hv hb => ?_)
      rw [Array.setIfInBounds_comm _ _ (Ne.symm e1)]
      exact (N v hv).stff _ _ (bcl hJ hb) (o1.keep hb)
    · refine wpT_alloc m2 hJ hS ?_
      rw [put_comm (Ne.symm hd23), put_put]
      exact sttf _ _ _ (bal hJ _) o1.alloc (Own.mk' hJ) (Nat.ne_of_lt o1.lt)
    · refine wpT_alloc m3 hJ hS ?_
      rw [put_put]
      exact stft _ _ _ (bal hJ _) o1.alloc (Own.mk' hJ) (Nat.ne_of_lt o1.lt)
  have sftf : ∀ w b2, Below w0.heap.size w0 w → Own w0 w b2 Z2 → wpT P md ops Q S n (f + 1 + 2) (L.setIfInBounds i2 true) (((B.put (some d1) x1).put (some d2) (ptr b2)).put (some d3) x3) w := fun w b2 hJ o2 => by
    refine ⟨fun h0 => (by rw [rsftf] at h0; cases h0), fun z hz => ?_⟩
    rw [rsftf] at hz
    simp only [List.mem_cons, List.not_mem_nil, or_false] at hz
    rcases hz with rfl | rfl | rfl
    · refine wpT_call3 c hJ hS h1 h2 h3 (fun v w' hv hb => ?_)
      rw [Array.setIfInBounds_comm _ _ (Ne.symm e2)]
      exact (N v hv).sftf _ _ (bcl hJ hb) (o2.keep hb)
    · refine wpT_alloc m1 hJ hS ?_
      rw [put_comm (Ne.symm hd13), put_comm (Ne.symm hd12), put_put, Array.setIfInBounds_comm _ _ (Ne.symm hi12)]
      exact sttf _ _ _ (bal hJ _) (Own.mk' hJ) o2.alloc (Nat.ne_of_gt o2.lt)
    · refine wpT_alloc m3 hJ hS ?_
      rw [put_put]
      exact sftt _ _ _ (bal hJ _) o2.alloc (Own.mk' hJ) (Nat.ne_of_lt o2.lt)
  have sfft : ∀ w b3, Below w0.heap.size w0 w → Own w0 w b3 Z3 → wpT P md ops Q S n (f + 1 + 2) (L.setIfInBounds i3 true) (((B.put (some d1) x1).put (some d2) x2).put (some d3) (ptr b3)) w := fun w b3 hJ o3 => by
    refine ⟨fun h0 => (by rw [rsfft] at h0; cases h0), fun z hz => ?_⟩
    rw [rsfft] at hz
    simp only [List.mem_cons, List.not_mem_nil, or_false] at hz
    rcases hz with rfl | rfl | rfl
    · refine wpT_call3 c hJ hS h1 h2 h3 (fun v w' hv hb => ?_)
      rw [Array.setIfInBounds_comm _ _ (Ne.symm e3)]
      exact (N v hv).sfft _ _ (bcl hJ hb) (o3.keep hb)
    · refine wpT_alloc m1 hJ hS ?_
      rw [put_comm (Ne.symm hd13), put_comm (Ne.symm hd12), put_put, Array.setIfInBounds_comm _ _ (Ne.symm hi13)]
      exact stft _ _ _ (bal hJ _) (Own.mk' hJ) o3.alloc (Nat.ne_of_gt o3.lt)
    · refine wpT_alloc m2 hJ hS ?_
      rw [put_comm (Ne.symm hd23), put_put, Array.setIfInBounds_comm _ _ (Ne.symm hi23)]
      exact sftt _ _ _ (bal hJ _) (Own.mk' hJ) o3.alloc (Nat.ne_of_gt o3.lt)
  have sfff : ∀ w, Below w0.heap.size w0 w → wpT P md ops Q S n (f + 1 + 3) L (((B.put (some d1) x1).put (some d2) x2).put (some d3) x3) w := fun w  hJ  => by
    refine ⟨fun h0 => (by rw [rsfff] at h0; cases h0), fun z hz => ?_⟩
    rw [rsfff] at hz
    simp only [List.mem_cons, List.not_mem_nil, or_false] at hz
    rcases hz with rfl | rfl | rfl | rfl
    · refine wpT_call3 c hJ hS h1 h2 h3 (fun v w' hv hb => ?_)
      exact (N v hv).sfff _ (bcl hJ hb) 
    · refine wpT_alloc m1 hJ hS ?_
      rw [put_comm (Ne.symm hd13), put_comm (Ne.symm hd12), put_put]
      exact stff _ _ (bal hJ _) (Own.mk' hJ)
    · refine wpT_alloc m2 hJ hS ?_
      rw [put_comm (Ne.symm hd23), put_put]
      exact sftf _ _ (bal hJ _) (Own.mk' hJ)
    · refine wpT_alloc m3 hJ hS ?_
      rw [put_put]
      exact sfft _ _ (bal hJ _) (Own.mk' hJ)
  exact ⟨sttt, sttf, stft, sftt, stff, sftf, sfft, sfff⟩
theorem NK3.start {x1 x2 x3 : Value} {f : Nat} {L : Array Bool} {B : Act} {w : World} (i1 i2 i3 d1 d2 d3 : Nat) (Z1 Z2 Z3 : Obj) (hJ : Below w0.heap.size w0 w) (e : (((B.put (some d1) x1).put (some d2) x2).put (some d3) x3) = B) (m1 : Mk P ops Q i1 d1 Z1) (m2 : Mk P ops Q i2 d2 Z2) (m3 : Mk P ops Q i3 d3 Z3)
    (N : Mk P ops Q i1 d1 Z1 → Mk P ops Q i2 d2 Z2 → Mk P ops Q i3 d3 Z3 → NK3 P md ops Q S n w0 i1 i2 i3 d1 d2 d3 Z1 Z2 Z3 x1 x2 x3 f L B) : wpT P md ops Q S n (f + 3) L B w := by
  have := (N m1 m2 m3).sfff w hJ
  rwa [e] at this
end
end Go.Proofs.Ytgghopmlcpcpkaa
