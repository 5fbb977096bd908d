/- A step of the proof: what a function of the program computes, or a plain law of numbers. -/
import Derived.Test.YtgghopmlcpcpkaaSecp
set_option linter.unusedVariables false
set_option linter.unusedSimpArgs false
namespace PlainK
section
variable {p : Nat} [NeZero p] {inv : Fin p → Fin p}

/-- a ray stands for a point: X by Z twice, Y by Z three times; Z 0: None -/
def Ray (t : Tr p) : Pt p → Prop
  | .o => t.z = 0
  | .pt x y => t.z ≠ 0 ∧ t.x = x * (t.z * t.z) ∧ t.y = y * (t.z * t.z * t.z)

def rayOf : Pt p → Tr p
  | .o => ⟨1, 1, 0⟩
  | .pt x y => ⟨x, y, 1⟩

theorem rayOf_ray (h : Good p inv) (a : Pt p) : Ray (rayOf a) a := by
  cases a with
  | o => rfl
  | pt x y => exact ⟨one_ne h, by simp only [rayOf]; grind, by simp only [rayOf]; grind⟩

/-- a ray and itself -/
def jtwice (r : Tr p) : Tr p :=
  if r.z = 0 ∨ r.y = 0 then ⟨1, 1, 0⟩ else
    let a := r.x * r.x
    let b := r.y * r.y
    let c := b * b
    let d := r.x * b
    let d := (d + d) + (d + d)
    let e := (a + a) + a
    let x := e * e - (d + d)
    let c := c + c
    let c := c + c
    let c := c + c
    let y := e * (d - x) - c
    let z := r.y * r.z
    ⟨x, y, z + z⟩

def jadd (r o : Tr p) : Tr p :=
  if r.z = 0 then o else if o.z = 0 then r else
    let rz := r.z * r.z
    let oz := o.z * o.z
    let u := r.x * oz
    let v := o.x * rz
    let s := r.y * (oz * o.z)
    let t := o.y * (rz * r.z)
    let h := v - u
    let k := t - s
    if h = 0 then (if k = 0 then jtwice r else ⟨1, 1, 0⟩) else
      let hh := h * h
      let hhh := hh * h
      let w := u * hh
      let x := (k * k - hhh) - (w + w)
      let y := k * (w - x) - s * hhh
      ⟨x, y, h * (r.z * o.z)⟩

theorem jtwice_ray (h : Good p inv) {r : Tr p} {a : Pt p} (ha : a.on) (hr : Ray r a) : Ray (jtwice r) (padd' inv a a) := by
  cases a with
  | o =>
    have hz : r.z = 0 := hr
    simp only [jtwice, hz, true_or, if_true]; rfl
  | pt X Y =>
    obtain ⟨hz, hx, hy⟩ := hr
    have hY := y_ne h ha
    have hzz := mul_ne h hz hz
    have hzzz := mul_ne h hzz hz
    have hy0 : r.y ≠ 0 := by rw [hy]; exact mul_ne h hY hzzz
    have hl := twice_slope h (x := X) hY
    simp only [padd', if_true]
    rw [if_pos ⟨trivial, hY⟩]
    generalize 3 * (X * X) * inv (Y + Y) = l at hl
    simp only [jtwice]
    rw [if_neg (by simp [hz, hy0])]
    have h2 : (r.y * r.z + r.y * r.z) ≠ 0 := by
      intro e
      have e2 : (2 : Fin p) * (r.y * r.z) = 0 := by grind
      exact mul_ne h hy0 hz (eq_zero_of_mul h e2 h.two)
    have e3 : 3 * (r.x * r.x) = l * (r.y + r.y) * r.z := by rw [hx, hy]; grind
    refine ⟨h2, ?_, ?_⟩
    · simp only []
      have e4 : (r.x * r.x + r.x * r.x + r.x * r.x) = l * (r.y + r.y) * r.z := by grind
      rw [e4, hx]
      have : Y * (r.z * r.z * r.z) = r.y := hy.symm
      grind
    · simp only []
      have e4 : (r.x * r.x + r.x * r.x + r.x * r.x) = l * (r.y + r.y) * r.z := by grind
      rw [e4, hx]
      have : Y * (r.z * r.z * r.z) = r.y := hy.symm
      grind

theorem jadd_ray (h : Good p inv) {r o : Tr p} {a b : Pt p} (ha : a.on) (hb : b.on) (hr : Ray r a) (ho : Ray o b) : Ray (jadd r o) (padd' inv a b) := by
  cases a with
  | o =>
    have hz : r.z = 0 := hr
    simp only [jadd, hz, if_true, o_padd]; exact ho
  | pt X Y =>
    obtain ⟨hz, hx, hy⟩ := hr
    cases b with
    | o =>
      have hz2 : o.z = 0 := ho
      simp only [jadd, hz, hz2, if_false, if_true, padd_o]; exact ⟨hz, hx, hy⟩
    | pt X' Y' =>
      obtain ⟨hz2, hx2, hy2⟩ := ho
      simp only [jadd, hz, hz2, if_false]
      have eh : o.x * (r.z * r.z) - r.x * (o.z * o.z) = (X' - X) * ((r.z * o.z) * (r.z * o.z)) := by rw [hx, hx2]; grind
      have ek : o.y * (r.z * r.z * r.z) - r.y * (o.z * o.z * o.z) = (Y' - Y) * ((r.z * o.z) * (r.z * o.z) * (r.z * o.z)) := by rw [hy, hy2]; grind
      have hw := mul_ne h hz hz2
      have hww := mul_ne h hw hw
      have hwww := mul_ne h hww hw
      by_cases hX : X = X'
      · subst hX
        have h0 : o.x * (r.z * r.z) - r.x * (o.z * o.z) = 0 := by rw [eh]; grind
        rw [if_pos h0]
        by_cases hY : Y = Y'
        · subst hY
          have k0 : o.y * (r.z * r.z * r.z) - r.y * (o.z * o.z * o.z) = 0 := by rw [ek]; grind
          rw [if_pos k0]
          exact jtwice_ray h ha ⟨hz, hx, hy⟩
        · have k0 : o.y * (r.z * r.z * r.z) - r.y * (o.z * o.z * o.z) ≠ 0 := by
            rw [ek]; exact mul_ne h (by intro e; apply hY; grind) hwww
          rw [if_neg k0]
          simp only [padd', if_true]
          rw [if_neg (fun e => hY e.1)]
          rfl
      · have hd : X' - X ≠ 0 := by intro e; apply hX; grind
        have h0 : o.x * (r.z * r.z) - r.x * (o.z * o.z) ≠ 0 := by rw [eh]; exact mul_ne h hd hww
        rw [if_neg h0]
        simp only [padd']
        rw [if_neg hX]
        have hl := chord_slope h (y1 := Y) (y2 := Y') hX
        generalize (Y' - Y) * inv (X' - X) = l at hl
        generalize hH : o.x * (r.z * r.z) - r.x * (o.z * o.z) = H at *
        generalize hK : o.y * (r.z * r.z * r.z) - r.y * (o.z * o.z * o.z) = K at *
        have eK : K = l * H * (r.z * o.z) := by rw [ek, eh, ← hl]; grind
        generalize hW : r.z * o.z = w at *
        have eu : r.x * (o.z * o.z) = X * (w * w) := by rw [hx, ← hW]; grind
        have es : r.y * (o.z * o.z * o.z) = Y * (w * w * w) := by rw [hy, ← hW]; grind
        refine ⟨mul_ne h h0 hw, ?_, ?_⟩
        · simp only []
          rw [eu, eK]
          have e2 : X' * (w * w) = H + X * (w * w) := by rw [eh]; grind
          clear eK hK hH ek es hW hx hy hx2 hy2 hl
          grind
        · simp only []
          rw [eu, eK, es]
          have e2 : X' * (w * w) = H + X * (w * w) := by rw [eh]; grind
          clear eK hK hH ek es hW hx hy hx2 hy2 hl
          grind

def jpoint (inv : Fin p → Fin p) (t : Tr p) : Pt p := if t.z = 0 then .o else .pt (t.x * (inv t.z * inv t.z)) (t.y * (inv t.z * inv t.z * inv t.z))

theorem jpoint_eq (h : Good p inv) {t : Tr p} {a : Pt p} (hr : Ray t a) : jpoint inv t = a := by
  cases a with
  | o => have hz : t.z = 0 := hr; simp [jpoint, hz]
  | pt x y =>
    obtain ⟨hz, hx, hy⟩ := hr
    have hi := h.inv _ hz
    simp only [jpoint, hz, if_false, hx, hy]
    congr 1
    · grind
    · grind

/-- one bit more -/
theorem times_bit (h : Good p inv) {a : Pt p} (ha : a.on) (k b : Nat) (hb : b < 2) :
    times inv (2 * k + b) a = if b = 1 then padd' inv (padd' inv (times inv k a) (times inv k a)) a else padd' inv (times inv k a) (times inv k a) := by
  have ho := times_on h ha (inv := inv) k
  have e : padd' inv (times inv k a) (times inv k a) = times inv (2 * k) a := by rw [← times_add h ha, show k + k = 2 * k by omega]
  rw [e]
  have : b = 0 ∨ b = 1 := by omega
  rcases this with e | e
  · subst e; simp
  · subst e; simp only [if_true]; rfl
end
end PlainK
