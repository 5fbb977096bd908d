/- A step of the proof: what a function of the program computes, or a plain law of numbers. -/
import Derived.Test.YtgghopmlcpcpkaaTower
set_option linter.unusedVariables false
set_option linter.unusedSimpArgs false
namespace PlainK

/-- what is asked of the field -/
structure Good (p : Nat) [NeZero p] (inv : Fin p → Fin p) : Prop where
  inv : ∀ a : Fin p, a ≠ 0 → a * inv a = 1
  two : (2 : Fin p) ≠ 0
  cube : ∀ x : Fin p, x * x * x + 7 ≠ 0

inductive Pt (p : Nat) where
  | o
  | pt (x y : Fin p)
  deriving DecidableEq

section
variable {p : Nat} [NeZero p] {inv : Fin p → Fin p}

def Pt.on : Pt p → Prop
  | .o => True
  | .pt x y => y * y = x * x * x + 7

def third (x1 y1 x2 l : Fin p) : Pt p := .pt (l * l - x1 - x2) (l * (x1 - (l * l - x1 - x2)) - y1)

/-- the sum, by lines -/
def padd' (inv : Fin p → Fin p) : Pt p → Pt p → Pt p
  | .o, q => q
  | .pt x y, .o => .pt x y
  | .pt x1 y1, .pt x2 y2 =>
    if x1 = x2 then
      if y1 = y2 ∧ y1 ≠ 0 then third x1 y1 x2 (3 * (x1 * x1) * inv (y1 + y1)) else .o
    else third x1 y1 x2 ((y2 - y1) * inv (x2 - x1))

def pneg' : Pt p → Pt p
  | .o => .o
  | .pt x y => .pt x (-y)

theorem mul_ne {a b : Fin p} (h : Good p inv) (ha : a ≠ 0) (hb : b ≠ 0) : a * b ≠ 0 := by
  intro h0
  have h1 := h.inv a ha
  have h2 := h.inv b hb
  have : (1 : Fin p) = 0 := by
    have e : (a * b) * (inv a * inv b) = 1 := by grind
    rw [h0] at e; grind
  apply ha
  grind
theorem eq_zero_of_mul {a b : Fin p} (h : Good p inv) (hab : a * b = 0) (ha : a ≠ 0) : b = 0 := by
  have h1 := h.inv a ha
  have : inv a * (a * b) = 0 := by rw [hab]; grind
  grind
theorem one_ne (h : Good p inv) : (1 : Fin p) ≠ 0 := by
  intro e; apply h.two; grind
theorem y_ne (h : Good p inv) {x y : Fin p} (hc : y * y = x * x * x + 7) : y ≠ 0 := by
  rintro rfl; exact h.cube x (by grind)

structure Tr (p : Nat) where
  x : Fin p
  y : Fin p
  z : Fin p

def co : Pt p → Tr p
  | .o => ⟨0, 1, 0⟩
  | .pt x y => ⟨x, y, 1⟩

def tadd (a b : Tr p) : Tr p :=
  { x := (a.x * b.y + b.x * a.y) * (a.y * b.y - 21 * (a.z * b.z)) - 21 * ((a.y * b.z + b.y * a.z) * (a.x * b.z + b.x * a.z))
    y := (a.y * b.y + 21 * (a.z * b.z)) * (a.y * b.y - 21 * (a.z * b.z)) + 63 * (a.x * b.x * (a.x * b.z + b.x * a.z))
    z := (a.y * b.z + b.y * a.z) * (a.y * b.y + 21 * (a.z * b.z)) + 3 * (a.x * b.x * (a.x * b.y + b.x * a.y)) }

def tscale (c : Fin p) (a : Tr p) : Tr p := ⟨c * a.x, c * a.y, c * a.z⟩

theorem tadd_scale_left (c : Fin p) (a b : Tr p) : tadd (tscale c a) b = tscale (c * c) (tadd a b) := by
  simp only [tadd, tscale, Tr.mk.injEq]; refine ⟨?_, ?_, ?_⟩ <;> grind
theorem tadd_scale_right (c : Fin p) (a b : Tr p) : tadd a (tscale c b) = tscale (c * c) (tadd a b) := by
  simp only [tadd, tscale, Tr.mk.injEq]; refine ⟨?_, ?_, ?_⟩ <;> grind

/-- the line through two points meets the curve once more -/
theorem line_on {x1 y1 x2 l : Fin p} (hc : y1 * y1 = x1 * x1 * x1 + 7) (hr : l * (2 * y1 + l * (x2 - x1)) = x1 * x1 + x1 * x2 + x2 * x2) : (third x1 y1 x2 l).on := by
  show (l * (x1 - (l * l - x1 - x2)) - y1) * (l * (x1 - (l * l - x1 - x2)) - y1) = (l * l - x1 - x2) * (l * l - x1 - x2) * (l * l - x1 - x2) + 7
  grind

theorem chord_rel (h : Good p inv) {x1 y1 x2 y2 l : Fin p} (hx : x1 ≠ x2) (hc1 : y1 * y1 = x1 * x1 * x1 + 7) (hc2 : y2 * y2 = x2 * x2 * x2 + 7) (hl : l * (x2 - x1) = y2 - y1) :
    l * (2 * y1 + l * (x2 - x1)) = x1 * x1 + x1 * x2 + x2 * x2 := by
  have hd : x2 - x1 ≠ 0 := by intro e; apply hx; grind
  have e : (x2 - x1) * (l * (2 * y1 + l * (x2 - x1)) - (x1 * x1 + x1 * x2 + x2 * x2)) = 0 := by grind
  have := eq_zero_of_mul h e hd
  grind

theorem chord_slope (h : Good p inv) {x1 y1 x2 y2 : Fin p} (hx : x1 ≠ x2) : ((y2 - y1) * inv (x2 - x1)) * (x2 - x1) = y2 - y1 := by
  have hd : x2 - x1 ≠ 0 := by intro e; apply hx; grind
  have := h.inv _ hd
  grind

theorem twice_slope (h : Good p inv) {x y : Fin p} (hy : y ≠ 0) : (3 * (x * x) * inv (y + y)) * (y + y) = 3 * (x * x) := by
  have hd : y + y ≠ 0 := by
    intro e; apply hy; exact eq_zero_of_mul h (a := 2) (by grind) h.two
  have := h.inv _ hd
  grind

theorem chord_z (h : Good p inv) {x1 y1 x2 y2 : Fin p} (hx : x1 ≠ x2) (hc1 : y1 * y1 = x1 * x1 * x1 + 7) (hc2 : y2 * y2 = x2 * x2 * x2 + 7) :
    (tadd ⟨x1, y1, 1⟩ ⟨x2, y2, 1⟩).z ≠ 0 := by
  have hd : x2 - x1 ≠ 0 := by intro e; apply hx; grind
  have hs := chord_slope h (y1 := y1) (y2 := -y2) hx
  have hc2' : (-y2) * (-y2) = x2 * x2 * x2 + 7 := by grind
  have hr := chord_rel h hx hc1 hc2' hs
  have hon := line_on hc1 hr
  generalize (-y2 - y1) * inv (x2 - x1) = m at hs hr hon
  have h4 : m * (x1 - (m * m - x1 - x2)) - y1 ≠ 0 := y_ne h hon
  have hz : (tadd ⟨x1, y1, 1⟩ ⟨x2, y2, 1⟩).z = (m * (x1 - (m * m - x1 - x2)) - y1) * ((x2 - x1) * (x2 - x1) * (x2 - x1)) := by
    simp only [tadd]
    have e : y2 = -y1 - m * (x2 - x1) := by grind
    have e7 : (7 : Fin p) = y1 * y1 - x1 * x1 * x1 := by grind
    have e21 : (21 : Fin p) = 3 * (y1 * y1 - x1 * x1 * x1) := by grind
    rw [e21, e]
    clear e21 e7 e hon h4 hs
    grind
  rw [hz]
  exact mul_ne h h4 (mul_ne h (mul_ne h hd hd) hd)

theorem chord_tadd (h : Good p inv) {x1 y1 x2 y2 l : Fin p} (hx : x1 ≠ x2) (hc1 : y1 * y1 = x1 * x1 * x1 + 7) (hc2 : y2 * y2 = x2 * x2 * x2 + 7) (hl : l * (x2 - x1) = y2 - y1) :
    tadd ⟨x1, y1, 1⟩ ⟨x2, y2, 1⟩ = tscale (tadd ⟨x1, y1, 1⟩ ⟨x2, y2, 1⟩).z (co (third x1 y1 x2 l)) := by
  have hr := chord_rel h hx hc1 hc2 hl
  have e : y2 = y1 + l * (x2 - x1) := by grind
  have e21 : (21 : Fin p) = 3 * (y1 * y1 - x1 * x1 * x1) := by grind
  have e63 : (63 : Fin p) = 9 * (y1 * y1 - x1 * x1 * x1) := by grind
  simp only [tadd, tscale, co, third, Tr.mk.injEq]
  rw [e21, e63, e]
  clear e21 e63 e hc1 hc2 hl
  refine ⟨?_, ?_, ?_⟩
  · grind
  · grind
  · grind

theorem twice_rel (h : Good p inv) {x y l : Fin p} (hy : y ≠ 0) (hl : l * (y + y) = 3 * (x * x)) : l * (2 * y + l * (x - x)) = x * x + x * x + x * x := by grind

theorem twice_tadd (h : Good p inv) {x y l : Fin p} (hy : y ≠ 0) (hc : y * y = x * x * x + 7) (hl : l * (y + y) = 3 * (x * x)) :
    (tadd ⟨x, y, 1⟩ ⟨x, y, 1⟩).z ≠ 0 ∧ tadd ⟨x, y, 1⟩ ⟨x, y, 1⟩ = tscale (tadd ⟨x, y, 1⟩ ⟨x, y, 1⟩).z (co (third x y x l)) := by
  have hz : (tadd ⟨x, y, 1⟩ ⟨x, y, 1⟩).z = (y + y) * ((y + y) * (y + y)) := by
    simp only [tadd]
    have e21 : (21 : Fin p) = 3 * (y * y - x * x * x) := by grind
    rw [e21]; clear e21
    grind
  have h2 : y + y ≠ 0 := by
    intro e; apply hy; exact eq_zero_of_mul h (a := 2) (by grind) h.two
  refine ⟨by rw [hz]; exact mul_ne h h2 (mul_ne h h2 h2), ?_⟩
  have e21 : (21 : Fin p) = 3 * (y * y - x * x * x) := by grind
  have e63 : (63 : Fin p) = 9 * (y * y - x * x * x) := by grind
  rw [hz]
  simp only [tadd, tscale, co, third, Tr.mk.injEq]
  rw [e21, e63]
  clear e21 e63 hc h2 hz
  refine ⟨?_, ?_, ?_⟩
  · grind
  · grind
  · grind

theorem opposite_tadd (h : Good p inv) {x y : Fin p} (hc : y * y = x * x * x + 7) :
    ∃ c, c ≠ 0 ∧ tadd ⟨x, y, 1⟩ ⟨x, -y, 1⟩ = tscale c (co .o) := by
  have hy := y_ne h hc
  have hl := twice_slope h (x := x) hy
  obtain ⟨hz, ht⟩ := twice_tadd h hy hc hl
  have hon := line_on hc (twice_rel h hy hl)
  have hy3 := y_ne h hon
  refine ⟨(tadd ⟨x, y, 1⟩ ⟨x, -y, 1⟩).y, ?_, ?_⟩
  · have e : (tadd ⟨x, y, 1⟩ ⟨x, -y, 1⟩).y = (tadd ⟨x, y, 1⟩ ⟨x, y, 1⟩).y := by
      simp only [tadd]; grind
    rw [e, congrArg Tr.y ht]
    exact mul_ne h hz hy3
  · simp only [tadd, tscale, co, Tr.mk.injEq]
    refine ⟨?_, ?_, ?_⟩ <;> grind

theorem neg_of_ne (h : Good p inv) {x y1 y2 : Fin p} (h1 : y1 * y1 = x * x * x + 7) (h2 : y2 * y2 = x * x * x + 7) (hne : y1 ≠ y2) : y2 = -y1 := by
  have e : (y1 - y2) * (y1 + y2) = 0 := by grind
  have := eq_zero_of_mul h e (by intro e'; apply hne; grind)
  grind

/-- the sum is on the curve, and the formula without a case gives it -/
theorem padd_spec (h : Good p inv) : ∀ {a b : Pt p}, a.on → b.on → (padd' inv a b).on ∧ ∃ c, c ≠ 0 ∧ tadd (co a) (co b) = tscale c (co (padd' inv a b))
  | .o, .o, _, _ => ⟨trivial, 1, one_ne h, by simp only [tadd, tscale, co, padd', Tr.mk.injEq]; refine ⟨?_, ?_, ?_⟩ <;> grind⟩
  | .o, .pt x y, _, hb => ⟨hb, y, y_ne h hb, by simp only [tadd, tscale, co, padd', Tr.mk.injEq]; refine ⟨?_, ?_, ?_⟩ <;> grind⟩
  | .pt x y, .o, ha, _ => ⟨ha, y, y_ne h ha, by simp only [tadd, tscale, co, padd', Tr.mk.injEq]; refine ⟨?_, ?_, ?_⟩ <;> grind⟩
  | .pt x1 y1, .pt x2 y2, ha, hb => by
    simp only [Pt.on] at ha hb
    simp only [padd']
    by_cases hx : x1 = x2
    · subst hx
      by_cases hy : y1 = y2 ∧ y1 ≠ 0
      · rw [if_pos rfl, if_pos hy]
        obtain ⟨e, h0⟩ := hy
        subst e
        have hl := twice_slope h (x := x1) h0
        obtain ⟨hz, ht⟩ := twice_tadd h h0 ha hl
        exact ⟨line_on ha (twice_rel h h0 hl), _, hz, ht⟩
      · rw [if_pos rfl, if_neg hy]
        have hne : y1 ≠ y2 := fun e => hy ⟨e, y_ne h ha⟩
        have e := neg_of_ne h ha hb hne
        subst e
        exact ⟨trivial, opposite_tadd h ha⟩
    · rw [if_neg hx]
      have hl := chord_slope h (y1 := y1) (y2 := y2) hx
      exact ⟨line_on ha (chord_rel h hx ha hb hl), _, chord_z h hx ha hb, chord_tadd h hx ha hb hl⟩

def vars6 (x1 y1 x2 y2 x3 y3 : Fin p) : Nat → Fin p
  | 0 => x1
  | 1 => x2
  | 2 => x3
  | 3 => y1
  | 4 => y2
  | 5 => y3
  | _ => 0

theorem cls21 : cls p 21 = 21 ∧ cls p 63 = 63 ∧ cls p 3 = 3 ∧ cls p 1 = 1 := by
  have e1 := cls_one (p := p)
  have e3 : cls p 3 = 3 := by rw [show (3 : Int) = 1 + 1 + 1 from rfl, cls_add, cls_add, cls_one]; grind
  have e21 : cls p 21 = 21 := by rw [show (21 : Int) = 3 * (3 + 3 + 1) from rfl, cls_mul, cls_add, cls_add, e1, e3]; grind
  have e63 : cls p 63 = 63 := by rw [show (63 : Int) = 3 * 21 from rfl, cls_mul, e21, e3]; grind
  exact ⟨e21, e63, e3, e1⟩

def evT (v : Nat → Fin p) (a : C3) : Tr p := ⟨evo (fOps p) v a.x, evo (fOps p) v a.y, evo (fOps p) v a.z⟩

theorem evT_add (v : Nat → Fin p) (a b : C3) : evT v (addC a b) = tadd (evT v a) (evT v b) := by
  obtain ⟨e21, e63, e3, e1⟩ := cls21 (p := p)
  simp only [evT, addC, tadd, evo, sub, fOps, e21, e63, e3, Tr.mk.injEq]
  refine ⟨?_, ?_, ?_⟩ <;> grind

theorem sub_eq {a b c d : Fin p} (h : a * b + -(c * d) = 0) : a * b = c * d := by grind

/-- (a + b) + c and a + (b + c), by the formula, are in one ray -/
theorem tadd_assoc {x1 y1 x2 y2 x3 y3 : Fin p} (h1 : y1 * y1 = x1 * x1 * x1 + 7) (h2 : y2 * y2 = x2 * x2 * x2 + 7) (h3 : y3 * y3 = x3 * x3 * x3 + 7) :
    let l := tadd (tadd ⟨x1, y1, 1⟩ ⟨x2, y2, 1⟩) ⟨x3, y3, 1⟩
    let r := tadd ⟨x1, y1, 1⟩ (tadd ⟨x2, y2, 1⟩ ⟨x3, y3, 1⟩)
    l.x * r.z = l.z * r.x ∧ l.y * r.z = l.z * r.y ∧ l.x * r.y = l.y * r.x := by
  intro l r
  obtain ⟨_, _, _, e1⟩ := cls21 (p := p)
  have hv : ∀ i, i < 3 → (vars6 x1 y1 x2 y2 x3 y3) (i + 3) * (vars6 x1 y1 x2 y2 x3 y3) (i + 3) = (vars6 x1 y1 x2 y2 x3 y3) i * (vars6 x1 y1 x2 y2 x3 y3) i * (vars6 x1 y1 x2 y2 x3 y3) i + 7 := by
    intro i hi
    match i, hi with
    | 0, _ => exact h1
    | 1, _ => exact h2
    | 2, _ => exact h3
  have h6 : ∀ i, 6 ≤ i → (vars6 x1 y1 x2 y2 x3 y3) i = 0 := by
    intro i hi
    match i, hi with
    | i + 6, _ => rfl
  have hl : evT (vars6 x1 y1 x2 y2 x3 y3) leftC = l := by
    simp only [leftC, evT_add]
    simp only [evT, ptC, evo, fOps, e1]; rfl
  have hr : evT (vars6 x1 y1 x2 y2 x3 y3) rightC = r := by
    simp only [rightC, evT_add]
    simp only [evT, ptC, evo, fOps, e1]; rfl
  have z1 := circuit_zero look_XZ _ hv h6
  have z2 := circuit_zero look_YZ _ hv h6
  have z3 := circuit_zero look_XY _ hv h6
  refine ⟨?_, ?_, ?_⟩
  · rw [← hl, ← hr]; exact sub_eq z1
  · rw [← hl, ← hr]; exact sub_eq z2
  · rw [← hl, ← hr]; exact sub_eq z3

theorem co_eq (h : Good p inv) {a b : Pt p} {c d : Fin p} (hc : c ≠ 0) (hd : d ≠ 0)
    (hx : (tscale c (co a)).x * (tscale d (co b)).z = (tscale c (co a)).z * (tscale d (co b)).x)
    (hy : (tscale c (co a)).y * (tscale d (co b)).z = (tscale c (co a)).z * (tscale d (co b)).y)  : a = b := by
  have hcd := mul_ne h hc hd
  cases a with
  | o =>
    cases b with
    | o => rfl
    | pt x y => exfalso; simp only [tscale, co] at hy; apply hcd; grind
  | pt x y =>
    cases b with
    | o => exfalso; simp only [tscale, co] at hy; apply hcd; grind
    | pt x' y' =>
      simp only [tscale, co] at hx hy
      have e1 : (c * d) * (x - x') = 0 := by grind
      have e2 : (c * d) * (y - y') = 0 := by grind
      have f1 := eq_zero_of_mul h e1 hcd
      have f2 := eq_zero_of_mul h e2 hcd
      congr 1 <;> grind

theorem padd_on (h : Good p inv) {a b : Pt p} (ha : a.on) (hb : b.on) : (padd' inv a b).on := (padd_spec h ha hb).1

theorem padd_o (a : Pt p) : padd' inv a .o = a := by cases a <;> rfl
theorem o_padd (a : Pt p) : padd' inv .o a = a := by cases a <;> rfl

theorem padd_assoc (h : Good p inv) {a b c : Pt p} (ha : a.on) (hb : b.on) (hc : c.on) : padd' inv (padd' inv a b) c = padd' inv a (padd' inv b c) := by
  cases a with
  | o => rw [o_padd, o_padd]
  | pt x1 y1 =>
    cases b with
    | o => rw [padd_o, o_padd]
    | pt x2 y2 =>
      cases c with
      | o => rw [padd_o, padd_o]
      | pt x3 y3 =>
        obtain ⟨on1, c1, n1, e1⟩ := padd_spec h ha hb
        obtain ⟨on2, c2, n2, e2⟩ := padd_spec h hb hc
        obtain ⟨on3, c3, n3, e3⟩ := padd_spec h on1 hc
        obtain ⟨on4, c4, n4, e4⟩ := padd_spec h ha on2
        obtain ⟨tx, ty, _⟩ := tadd_assoc (x1 := x1) (y1 := y1) (x2 := x2) (y2 := y2) (x3 := x3) (y3 := y3) ha hb hc
        have el : tadd (tadd ⟨x1, y1, 1⟩ ⟨x2, y2, 1⟩) ⟨x3, y3, 1⟩ = tscale (c1 * c1 * c3) (co (padd' inv (padd' inv (.pt x1 y1) (.pt x2 y2)) (.pt x3 y3))) := by
          have e1' : tadd ⟨x1, y1, 1⟩ ⟨x2, y2, 1⟩ = tscale c1 (co (padd' inv (.pt x1 y1) (.pt x2 y2))) := e1
          have e3' : tadd (co (padd' inv (.pt x1 y1) (.pt x2 y2))) ⟨x3, y3, 1⟩ = tscale c3 (co (padd' inv (padd' inv (.pt x1 y1) (.pt x2 y2)) (.pt x3 y3))) := e3
          rw [e1', tadd_scale_left, e3']
          simp only [tscale, Tr.mk.injEq]; refine ⟨?_, ?_, ?_⟩ <;> grind
        have er : tadd ⟨x1, y1, 1⟩ (tadd ⟨x2, y2, 1⟩ ⟨x3, y3, 1⟩) = tscale (c2 * c2 * c4) (co (padd' inv (.pt x1 y1) (padd' inv (.pt x2 y2) (.pt x3 y3)))) := by
          have e2' : tadd ⟨x2, y2, 1⟩ ⟨x3, y3, 1⟩ = tscale c2 (co (padd' inv (.pt x2 y2) (.pt x3 y3))) := e2
          have e4' : tadd ⟨x1, y1, 1⟩ (co (padd' inv (.pt x2 y2) (.pt x3 y3))) = tscale c4 (co (padd' inv (.pt x1 y1) (padd' inv (.pt x2 y2) (.pt x3 y3)))) := e4
          rw [e2', tadd_scale_right, e4']
          simp only [tscale, Tr.mk.injEq]; refine ⟨?_, ?_, ?_⟩ <;> grind
        rw [el, er] at tx ty
        exact co_eq h (mul_ne h (mul_ne h n1 n1) n3) (mul_ne h (mul_ne h n2 n2) n4) tx ty

theorem padd_comm (h : Good p inv) : ∀ {a b : Pt p}, a.on → b.on → padd' inv a b = padd' inv b a := by
  intro a b ha hb
  obtain ⟨_, c, nc, ec⟩ := padd_spec h ha hb
  obtain ⟨_, d, nd, ed⟩ := padd_spec h hb ha
  have e : tadd (co a) (co b) = tadd (co b) (co a) := by
    simp only [tadd, Tr.mk.injEq]; refine ⟨?_, ?_, ?_⟩ <;> grind
  refine co_eq h nc nd ?_ ?_
  · rw [← ec, ← ed, e]; grind
  · rw [← ec, ← ed, e]; grind

theorem pneg_on {a : Pt p} (ha : a.on) : (pneg' a).on := by
  cases a with
  | o => trivial
  | pt x y => simp only [pneg', Pt.on] at *; grind
theorem pneg_pneg (a : Pt p) : pneg' (pneg' a) = a := by
  cases a with
  | o => rfl
  | pt x y => simp only [pneg']; congr 1; grind
theorem padd_neg (h : Good p inv) {a : Pt p} (ha : a.on) : padd' inv a (pneg' a) = .o := by
  cases a with
  | o => rfl
  | pt x y =>
    have hy := y_ne h ha
    simp only [pneg', padd', if_true]
    rw [if_neg]
    rintro ⟨e, _⟩
    apply hy
    exact eq_zero_of_mul h (a := 2) (by grind) h.two
theorem neg_padd (h : Good p inv) {a : Pt p} (ha : a.on) : padd' inv (pneg' a) a = .o := by
  rw [padd_comm h (pneg_on ha) ha]; exact padd_neg h ha
end
end PlainK
