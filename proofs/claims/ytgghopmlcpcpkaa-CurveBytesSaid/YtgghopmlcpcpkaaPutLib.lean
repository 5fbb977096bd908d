/- A step of the proof: what a function of the program computes, or a plain law of numbers. -/
import Derived.Test.YtgghopmlcpcpkaaBase
namespace Go.Proofs.Ytgghopmlcpcpkaa
open Go.RowKit PlainK
set_option linter.unusedVariables false
set_option linter.unusedSimpArgs false
theorem heap_new2 (w : World) (o o' : Obj) : ((w.alloc o).alloc o').heap[w.heap.size + 1]? = some o' := by
  have h := heap_alloc_new (w.alloc o) o'
  rw [World.size_alloc] at h
  exact h
theorem put9 {W : World} {g : Nat} {x0 x1 x2 x3 x4 x5 x6 x7 x8 : Value} {t : TypeId} (y0 y1 y2 y3 y4 y5 y6 y7 y8 : Value) (hg : W.heap[g]? = some (.cells #[x0, x1, x2, x3, x4, x5, x6, x7, x8] t (0, 0))) :
    Put W (((((((((W.setCell ⟨g, 0, none⟩ y0).setCell ⟨g, 1, none⟩ y1).setCell ⟨g, 2, none⟩ y2).setCell ⟨g, 3, none⟩ y3).setCell ⟨g, 4, none⟩ y4).setCell ⟨g, 5, none⟩ y5).setCell ⟨g, 6, none⟩ y6).setCell ⟨g, 7, none⟩ y7).setCell ⟨g, 8, none⟩ y8) g (.cells #[y0, y1, y2, y3, y4, y5, y6, y7, y8] t (0, 0)) := by
  have p0 : Put W (W.setCell ⟨g, 0, none⟩ y0) g (.cells #[y0, x1, x2, x3, x4, x5, x6, x7, x8] t (0, 0)) := put1 (i := 0) y0 hg
  have p1 : Put W ((W.setCell ⟨g, 0, none⟩ y0).setCell ⟨g, 1, none⟩ y1) g (.cells #[y0, y1, x2, x3, x4, x5, x6, x7, x8] t (0, 0)) := p0.trans (put1 (i := 1) y1 p0.here)
  have p2 : Put W (((W.setCell ⟨g, 0, none⟩ y0).setCell ⟨g, 1, none⟩ y1).setCell ⟨g, 2, none⟩ y2) g (.cells #[y0, y1, y2, x3, x4, x5, x6, x7, x8] t (0, 0)) := p1.trans (put1 (i := 2) y2 p1.here)
  have p3 : Put W ((((W.setCell ⟨g, 0, none⟩ y0).setCell ⟨g, 1, none⟩ y1).setCell ⟨g, 2, none⟩ y2).setCell ⟨g, 3, none⟩ y3) g (.cells #[y0, y1, y2, y3, x4, x5, x6, x7, x8] t (0, 0)) := p2.trans (put1 (i := 3) y3 p2.here)
  have p4 : Put W (((((W.setCell ⟨g, 0, none⟩ y0).setCell ⟨g, 1, none⟩ y1).setCell ⟨g, 2, none⟩ y2).setCell ⟨g, 3, none⟩ y3).setCell ⟨g, 4, none⟩ y4) g (.cells #[y0, y1, y2, y3, y4, x5, x6, x7, x8] t (0, 0)) := p3.trans (put1 (i := 4) y4 p3.here)
  have p5 : Put W ((((((W.setCell ⟨g, 0, none⟩ y0).setCell ⟨g, 1, none⟩ y1).setCell ⟨g, 2, none⟩ y2).setCell ⟨g, 3, none⟩ y3).setCell ⟨g, 4, none⟩ y4).setCell ⟨g, 5, none⟩ y5) g (.cells #[y0, y1, y2, y3, y4, y5, x6, x7, x8] t (0, 0)) := p4.trans (put1 (i := 5) y5 p4.here)
  have p6 : Put W (((((((W.setCell ⟨g, 0, none⟩ y0).setCell ⟨g, 1, none⟩ y1).setCell ⟨g, 2, none⟩ y2).setCell ⟨g, 3, none⟩ y3).setCell ⟨g, 4, none⟩ y4).setCell ⟨g, 5, none⟩ y5).setCell ⟨g, 6, none⟩ y6) g (.cells #[y0, y1, y2, y3, y4, y5, y6, x7, x8] t (0, 0)) := p5.trans (put1 (i := 6) y6 p5.here)
  have p7 : Put W ((((((((W.setCell ⟨g, 0, none⟩ y0).setCell ⟨g, 1, none⟩ y1).setCell ⟨g, 2, none⟩ y2).setCell ⟨g, 3, none⟩ y3).setCell ⟨g, 4, none⟩ y4).setCell ⟨g, 5, none⟩ y5).setCell ⟨g, 6, none⟩ y6).setCell ⟨g, 7, none⟩ y7) g (.cells #[y0, y1, y2, y3, y4, y5, y6, y7, x8] t (0, 0)) := p6.trans (put1 (i := 7) y7 p6.here)
  have p8 : Put W (((((((((W.setCell ⟨g, 0, none⟩ y0).setCell ⟨g, 1, none⟩ y1).setCell ⟨g, 2, none⟩ y2).setCell ⟨g, 3, none⟩ y3).setCell ⟨g, 4, none⟩ y4).setCell ⟨g, 5, none⟩ y5).setCell ⟨g, 6, none⟩ y6).setCell ⟨g, 7, none⟩ y7).setCell ⟨g, 8, none⟩ y8) g (.cells #[y0, y1, y2, y3, y4, y5, y6, y7, y8] t (0, 0)) := p7.trans (put1 (i := 8) y8 p7.here)
  exact p8
theorem put12 {W : World} {g : Nat} {x0 x1 x2 x3 x4 x5 x6 x7 x8 x9 x10 x11 : Value} {t : TypeId} (y0 y1 y2 y3 y4 y5 y6 y7 y8 y9 y10 y11 : Value) (hg : W.heap[g]? = some (.cells #[x0, x1, x2, x3, x4, x5, x6, x7, x8, x9, x10, x11] t (0, 0))) :
    Put W ((((((((((((W.setCell ⟨g, 0, none⟩ y0).setCell ⟨g, 1, none⟩ y1).setCell ⟨g, 2, none⟩ y2).setCell ⟨g, 3, none⟩ y3).setCell ⟨g, 4, none⟩ y4).setCell ⟨g, 5, none⟩ y5).setCell ⟨g, 6, none⟩ y6).setCell ⟨g, 7, none⟩ y7).setCell ⟨g, 8, none⟩ y8).setCell ⟨g, 9, none⟩ y9).setCell ⟨g, 10, none⟩ y10).setCell ⟨g, 11, none⟩ y11) g (.cells #[y0, y1, y2, y3, y4, y5, y6, y7, y8, y9, y10, y11] t (0, 0)) := by
  have p0 : Put W (W.setCell ⟨g, 0, none⟩ y0) g (.cells #[y0, x1, x2, x3, x4, x5, x6, x7, x8, x9, x10, x11] t (0, 0)) := put1 (i := 0) y0 hg
  have p1 : Put W ((W.setCell ⟨g, 0, none⟩ y0).setCell ⟨g, 1, none⟩ y1) g (.cells #[y0, y1, x2, x3, x4, x5, x6, x7, x8, x9, x10, x11] t (0, 0)) := p0.trans (put1 (i := 1) y1 p0.here)
  have p2 : Put W (((W.setCell ⟨g, 0, none⟩ y0).setCell ⟨g, 1, none⟩ y1).setCell ⟨g, 2, none⟩ y2) g (.cells #[y0, y1, y2, x3, x4, x5, x6, x7, x8, x9, x10, x11] t (0, 0)) := p1.trans (put1 (i := 2) y2 p1.here)
  have p3 : Put W ((((W.setCell ⟨g, 0, none⟩ y0).setCell ⟨g, 1, none⟩ y1).setCell ⟨g, 2, none⟩ y2).setCell ⟨g, 3, none⟩ y3) g (.cells #[y0, y1, y2, y3, x4, x5, x6, x7, x8, x9, x10, x11] t (0, 0)) := p2.trans (put1 (i := 3) y3 p2.here)
  have p4 : Put W (((((W.setCell ⟨g, 0, none⟩ y0).setCell ⟨g, 1, none⟩ y1).setCell ⟨g, 2, none⟩ y2).setCell ⟨g, 3, none⟩ y3).setCell ⟨g, 4, none⟩ y4) g (.cells #[y0, y1, y2, y3, y4, x5, x6, x7, x8, x9, x10, x11] t (0, 0)) := p3.trans (put1 (i := 4) y4 p3.here)
  have p5 : Put W ((((((W.setCell ⟨g, 0, none⟩ y0).setCell ⟨g, 1, none⟩ y1).setCell ⟨g, 2, none⟩ y2).setCell ⟨g, 3, none⟩ y3).setCell ⟨g, 4, none⟩ y4).setCell ⟨g, 5, none⟩ y5) g (.cells #[y0, y1, y2, y3, y4, y5, x6, x7, x8, x9, x10, x11] t (0, 0)) := p4.trans (put1 (i := 5) y5 p4.here)
  have p6 : Put W (((((((W.setCell ⟨g, 0, none⟩ y0).setCell ⟨g, 1, none⟩ y1).setCell ⟨g, 2, none⟩ y2).setCell ⟨g, 3, none⟩ y3).setCell ⟨g, 4, none⟩ y4).setCell ⟨g, 5, none⟩ y5).setCell ⟨g, 6, none⟩ y6) g (.cells #[y0, y1, y2, y3, y4, y5, y6, x7, x8, x9, x10, x11] t (0, 0)) := p5.trans (put1 (i := 6) y6 p5.here)
  have p7 : Put W ((((((((W.setCell ⟨g, 0, none⟩ y0).setCell ⟨g, 1, none⟩ y1).setCell ⟨g, 2, none⟩ y2).setCell ⟨g, 3, none⟩ y3).setCell ⟨g, 4, none⟩ y4).setCell ⟨g, 5, none⟩ y5).setCell ⟨g, 6, none⟩ y6).setCell ⟨g, 7, none⟩ y7) g (.cells #[y0, y1, y2, y3, y4, y5, y6, y7, x8, x9, x10, x11] t (0, 0)) := p6.trans (put1 (i := 7) y7 p6.here)
  have p8 : Put W (((((((((W.setCell ⟨g, 0, none⟩ y0).setCell ⟨g, 1, none⟩ y1).setCell ⟨g, 2, none⟩ y2).setCell ⟨g, 3, none⟩ y3).setCell ⟨g, 4, none⟩ y4).setCell ⟨g, 5, none⟩ y5).setCell ⟨g, 6, none⟩ y6).setCell ⟨g, 7, none⟩ y7).setCell ⟨g, 8, none⟩ y8) g (.cells #[y0, y1, y2, y3, y4, y5, y6, y7, y8, x9, x10, x11] t (0, 0)) := p7.trans (put1 (i := 8) y8 p7.here)
  have p9 : Put W ((((((((((W.setCell ⟨g, 0, none⟩ y0).setCell ⟨g, 1, none⟩ y1).setCell ⟨g, 2, none⟩ y2).setCell ⟨g, 3, none⟩ y3).setCell ⟨g, 4, none⟩ y4).setCell ⟨g, 5, none⟩ y5).setCell ⟨g, 6, none⟩ y6).setCell ⟨g, 7, none⟩ y7).setCell ⟨g, 8, none⟩ y8).setCell ⟨g, 9, none⟩ y9) g (.cells #[y0, y1, y2, y3, y4, y5, y6, y7, y8, y9, x10, x11] t (0, 0)) := p8.trans (put1 (i := 9) y9 p8.here)
  have p10 : Put W (((((((((((W.setCell ⟨g, 0, none⟩ y0).setCell ⟨g, 1, none⟩ y1).setCell ⟨g, 2, none⟩ y2).setCell ⟨g, 3, none⟩ y3).setCell ⟨g, 4, none⟩ y4).setCell ⟨g, 5, none⟩ y5).setCell ⟨g, 6, none⟩ y6).setCell ⟨g, 7, none⟩ y7).setCell ⟨g, 8, none⟩ y8).setCell ⟨g, 9, none⟩ y9).setCell ⟨g, 10, none⟩ y10) g (.cells #[y0, y1, y2, y3, y4, y5, y6, y7, y8, y9, y10, x11] t (0, 0)) := p9.trans (put1 (i := 10) y10 p9.here)
  have p11 : Put W ((((((((((((W.setCell ⟨g, 0, none⟩ y0).setCell ⟨g, 1, none⟩ y1).setCell ⟨g, 2, none⟩ y2).setCell ⟨g, 3, none⟩ y3).setCell ⟨g, 4, none⟩ y4).setCell ⟨g, 5, none⟩ y5).setCell ⟨g, 6, none⟩ y6).setCell ⟨g, 7, none⟩ y7).setCell ⟨g, 8, none⟩ y8).setCell ⟨g, 9, none⟩ y9).setCell ⟨g, 10, none⟩ y10).setCell ⟨g, 11, none⟩ y11) g (.cells #[y0, y1, y2, y3, y4, y5, y6, y7, y8, y9, y10, y11] t (0, 0)) := p10.trans (put1 (i := 11) y11 p10.here)
  exact p11
/-- one box more, with what it holds -/
structure One (W X : World) (b : Nat) (o : Obj) : Prop where
  one : X.heap[b]? = some o
  keep : ∀ k q, k ≠ b → W.heap[k]? = some q → X.heap[k]? = some q
  below : ∀ {B : Nat} {w : World}, B ≤ b → Below B w W → Below B w X
structure Two (W X : World) (b c : Nat) (o q : Obj) : Prop where
  one : X.heap[b]? = some o
  two : X.heap[c]? = some q
  keep : ∀ k r, k ≠ b → k ≠ c → W.heap[k]? = some r → X.heap[k]? = some r
  below : ∀ {B : Nat} {w : World}, B ≤ b → B ≤ c → Below B w W → Below B w X
theorem new_keep {W V : World} {o q : Obj} {k : Nat} (hW : W.alloc o = V) (h : W.heap[k]? = some q) : V.heap[k]? = some q := by
  rw [← hW, alloc_at, if_neg, h]
  intro e; rw [e, Array.getElem?_eq_none (Nat.le_refl _)] at h; cases h
theorem new_here {W V : World} {o : Obj} {n : Nat} (hW : W.alloc o = V) (hn : W.heap.size = n) : V.heap[n]? = some o := by
  rw [← hW, ← hn]; exact heap_alloc_new W o
theorem new_below {W V w : World} {o : Obj} (hW : W.alloc o = V) (h : Below w.heap.size w W) : Below w.heap.size w V := by
  rw [← hW]; exact bal h o
section
variable {W : World} {b c : Nat} {z0 z1 z2 z3 u0 u1 u2 u3 : Value}
theorem alloc_keep {W : World} {k : Nat} {o q : Obj} (h : W.heap[k]? = some q) : (W.alloc o).heap[k]? = some q := by
  rw [alloc_at, if_neg, h]
  intro e; rw [e, Array.getElem?_eq_none (Nat.le_refl _)] at h; cases h
theorem alloc_below {W : World} {B : Nat} {w : World} {o : Obj} (hB : B ≤ W.heap.size) (h : Below B w W) : Below B w (W.alloc o) := h.alloc hB o
theorem one_old (x0 x1 x2 x3 : Value) (h : W.heap[b]? = some (.cells #[z0, z1, z2, z3] 24 (0, 0))) : One W ((((W.setCell ⟨b, 0, none⟩ x0).setCell ⟨b, 1, none⟩ x1).setCell ⟨b, 2, none⟩ x2).setCell ⟨b, 3, none⟩ x3) b (.cells #[x0, x1, x2, x3] 24 (0, 0)) :=
  ⟨(put4 x0 x1 x2 x3 h).here, fun k q hk hq => ((put4 x0 x1 x2 x3 h).there k hk).trans hq, fun hB k => (put4 x0 x1 x2 x3 h).below hB k⟩
theorem one_new (W : World) (x0 x1 x2 x3 : Value) : One W (W.alloc (.cells #[x0, x1, x2, x3] 24 (0, 0))) W.heap.size (.cells #[x0, x1, x2, x3] 24 (0, 0)) :=
  ⟨heap_alloc_new W _, fun k q hk hq => alloc_keep hq, fun hB k => alloc_below hB k⟩
theorem two_both (x0 x1 x2 x3 y0 y1 y2 y3 : Value) (h : W.heap[b]? = some (.cells #[z0, z1, z2, z3] 24 (0, 0))) (h' : W.heap[c]? = some (.cells #[u0, u1, u2, u3] 24 (0, 0))) (hn : b ≠ c) : Two W ((((((((W.setCell ⟨b, 0, none⟩ x0).setCell ⟨b, 1, none⟩ x1).setCell ⟨b, 2, none⟩ x2).setCell ⟨b, 3, none⟩ x3).setCell ⟨c, 0, none⟩ y0).setCell ⟨c, 1, none⟩ y1).setCell ⟨c, 2, none⟩ y2).setCell ⟨c, 3, none⟩ y3) b c (.cells #[x0, x1, x2, x3] 24 (0, 0)) (.cells #[y0, y1, y2, y3] 24 (0, 0)) :=
  have P := put4 x0 x1 x2 x3 h
  have K := put4 y0 y1 y2 y3 ((P.there c (Ne.symm hn)).trans h')
  ⟨(K.there b hn).trans P.here, K.here, fun k q h1 h2 hq => (K.there k h2).trans ((P.there k h1).trans hq), fun h1 h2 k => K.below h2 (P.below h1 k)⟩
theorem put_lt {W : World} {b : Nat} {o : Obj} (h : W.heap[b]? = some o) : b < W.heap.size := by
  apply Classical.byContradiction; intro hh
  rw [Array.getElem?_eq_none (by omega)] at h; cases h
theorem two_fst (x0 x1 x2 x3 y0 y1 y2 y3 : Value) (h : W.heap[b]? = some (.cells #[z0, z1, z2, z3] 24 (0, 0))) : Two W (((((W.setCell ⟨b, 0, none⟩ x0).setCell ⟨b, 1, none⟩ x1).setCell ⟨b, 2, none⟩ x2).setCell ⟨b, 3, none⟩ x3).alloc (.cells #[y0, y1, y2, y3] 24 (0, 0))) b W.heap.size (.cells #[x0, x1, x2, x3] 24 (0, 0)) (.cells #[y0, y1, y2, y3] 24 (0, 0)) :=
  have P := put4 x0 x1 x2 x3 h
  ⟨alloc_keep P.here, by have := heap_alloc_new ((((W.setCell ⟨b, 0, none⟩ x0).setCell ⟨b, 1, none⟩ x1).setCell ⟨b, 2, none⟩ x2).setCell ⟨b, 3, none⟩ x3) (.cells #[y0, y1, y2, y3] 24 (0, 0)); rw [P.size] at this; exact this, fun k q h1 h2 hq => alloc_keep ((P.there k h1).trans hq), fun h1 h2 k => alloc_below (by rw [P.size]; exact h2) (P.below h1 k)⟩
theorem two_snd (x0 x1 x2 x3 y0 y1 y2 y3 : Value) (h : W.heap[c]? = some (.cells #[z0, z1, z2, z3] 24 (0, 0))) : Two W (((((W.setCell ⟨c, 0, none⟩ y0).setCell ⟨c, 1, none⟩ y1).setCell ⟨c, 2, none⟩ y2).setCell ⟨c, 3, none⟩ y3).alloc (.cells #[x0, x1, x2, x3] 24 (0, 0))) W.heap.size c (.cells #[x0, x1, x2, x3] 24 (0, 0)) (.cells #[y0, y1, y2, y3] 24 (0, 0)) :=
  have P := put4 y0 y1 y2 y3 h
  ⟨by have := heap_alloc_new ((((W.setCell ⟨c, 0, none⟩ y0).setCell ⟨c, 1, none⟩ y1).setCell ⟨c, 2, none⟩ y2).setCell ⟨c, 3, none⟩ y3) (.cells #[x0, x1, x2, x3] 24 (0, 0)); rw [P.size] at this; exact this, alloc_keep P.here, fun k q h1 h2 hq => alloc_keep ((P.there k h2).trans hq), fun h1 h2 k => alloc_below (by rw [P.size]; exact h1) (P.below h2 k)⟩
theorem two_new (W : World) (x0 x1 x2 x3 y0 y1 y2 y3 : Value) : Two W ((W.alloc (.cells #[x0, x1, x2, x3] 24 (0, 0))).alloc (.cells #[y0, y1, y2, y3] 24 (0, 0))) W.heap.size (W.heap.size + 1) (.cells #[x0, x1, x2, x3] 24 (0, 0)) (.cells #[y0, y1, y2, y3] 24 (0, 0)) :=
  ⟨alloc_keep (heap_alloc_new W _), heap_new2 W _ _, fun k q h1 h2 hq => alloc_keep (alloc_keep hq), fun h1 h2 k => alloc_below (by rw [World.size_alloc]; exact h2) (alloc_below h1 k)⟩
theorem two_rev (W : World) (x0 x1 x2 x3 y0 y1 y2 y3 : Value) : Two W ((W.alloc (.cells #[y0, y1, y2, y3] 24 (0, 0))).alloc (.cells #[x0, x1, x2, x3] 24 (0, 0))) (W.heap.size + 1) W.heap.size (.cells #[x0, x1, x2, x3] 24 (0, 0)) (.cells #[y0, y1, y2, y3] 24 (0, 0)) :=
  ⟨heap_new2 W _ _, alloc_keep (heap_alloc_new W _), fun k q h1 h2 hq => alloc_keep (alloc_keep hq), fun h1 h2 k => alloc_below (by rw [World.size_alloc]; exact h1) (alloc_below h2 k)⟩
end
end Go.Proofs.Ytgghopmlcpcpkaa
