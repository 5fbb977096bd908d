/- A step of the proof: what a function of the program computes, or a plain law of numbers. -/
import Derived.Test.YtgghopmlcpcpkaaKron
set_option linter.unusedVariables false
set_option linter.unusedSimpArgs false
namespace PlainK
open Ci

structure Ops (α : Type) where
  c : Int → α
  add : α → α → α
  mul : α → α → α
  neg : α → α

def evo {α : Type} (o : Ops α) (v : Nat → α) : Ci → α
  | const n => o.c n
  | var i => v i
  | add a b => o.add (evo o v a) (evo o v b)
  | mul a b => o.mul (evo o v a) (evo o v b)
  | neg a => o.neg (evo o v a)

structure Hom {α β : Type} (o : Ops α) (q : Ops β) (f : α → β) : Prop where
  c : ∀ n, f (o.c n) = q.c n
  add : ∀ a b, f (o.add a b) = q.add (f a) (f b)
  mul : ∀ a b, f (o.mul a b) = q.mul (f a) (f b)
  neg : ∀ a, f (o.neg a) = q.neg (f a)

theorem evo_hom {α β : Type} {o : Ops α} {q : Ops β} {f : α → β} (h : Hom o q f) (v : Nat → α) (u : Nat → β) (huv : ∀ i, f (v i) = u i) : ∀ e : Ci, f (evo o v e) = evo q u e
  | const n => h.c n
  | var i => huv i
  | add a b => by simp only [evo]; rw [h.add, evo_hom h v u huv a, evo_hom h v u huv b]
  | mul a b => by simp only [evo]; rw [h.mul, evo_hom h v u huv a, evo_hom h v u huv b]
  | neg a => by simp only [evo]; rw [h.neg, evo_hom h v u huv a]

/-- pairs a + b y, with y times y being d -/
def quad {α : Type} (o : Ops α) (d : α) : Ops (α × α) where
  c n := (o.c n, o.c 0)
  add a b := (o.add a.1 b.1, o.add a.2 b.2)
  mul a b := (o.add (o.mul a.1 b.1) (o.mul d (o.mul a.2 b.2)), o.add (o.mul a.1 b.2) (o.mul a.2 b.1))
  neg a := (o.neg a.1, o.neg a.2)

theorem quad_hom {α β : Type} {o : Ops α} {q : Ops β} {f : α → β} (h : Hom o q f) (d : α) : Hom (quad o d) (quad q (f d)) (fun a => (f a.1, f a.2)) where
  c n := by simp [quad, h.c]
  add a b := by simp [quad, h.add]
  mul a b := by simp [quad, h.add, h.mul]
  neg a := by simp [quad, h.neg]

/-! three towers over one ring -/
def tow {α : Type} (o : Ops α) (d1 d2 d3 : α) : Ops (((α × α) × (α × α)) × ((α × α) × (α × α))) :=
  quad (quad (quad o d1) (d2, o.c 0)) ((d3, o.c 0), (o.c 0, o.c 0))

def map8 {α β : Type} (f : α → β) (a : ((α × α) × (α × α)) × ((α × α) × (α × α))) : ((β × β) × (β × β)) × ((β × β) × (β × β)) :=
  (((f a.1.1.1, f a.1.1.2), (f a.1.2.1, f a.1.2.2)), ((f a.2.1.1, f a.2.1.2), (f a.2.2.1, f a.2.2.2)))

theorem tow_hom {α β : Type} {o : Ops α} {q : Ops β} {f : α → β} (h : Hom o q f) (d1 d2 d3 : α) : Hom (tow o d1 d2 d3) (tow q (f d1) (f d2) (f d3)) (map8 f) := by
  have h1 := quad_hom h d1
  have h2 := quad_hom h1 (d2, o.c 0)
  have h3 := quad_hom h2 ((d3, o.c 0), (o.c 0, o.c 0))
  simp only [h.c] at h2 h3
  exact h3

def tvar {α : Type} (o : Ops α) (x : Nat → α) : Nat → ((α × α) × (α × α)) × ((α × α) × (α × α))
  | 0 => (((x 0, o.c 0), (o.c 0, o.c 0)), ((o.c 0, o.c 0), (o.c 0, o.c 0)))
  | 1 => (((x 1, o.c 0), (o.c 0, o.c 0)), ((o.c 0, o.c 0), (o.c 0, o.c 0)))
  | 2 => (((x 2, o.c 0), (o.c 0, o.c 0)), ((o.c 0, o.c 0), (o.c 0, o.c 0)))
  | 3 => (((o.c 0, o.c 1), (o.c 0, o.c 0)), ((o.c 0, o.c 0), (o.c 0, o.c 0)))
  | 4 => (((o.c 0, o.c 0), (o.c 1, o.c 0)), ((o.c 0, o.c 0), (o.c 0, o.c 0)))
  | 5 => (((o.c 0, o.c 0), (o.c 0, o.c 0)), ((o.c 1, o.c 0), (o.c 0, o.c 0)))
  | _ => (((o.c 0, o.c 0), (o.c 0, o.c 0)), ((o.c 0, o.c 0), (o.c 0, o.c 0)))

theorem tvar_map {α β : Type} {o : Ops α} {q : Ops β} {f : α → β} (h : Hom o q f) (x : Nat → α) (u : Nat → β) (hx : ∀ i, f (x i) = u i) (i : Nat) : map8 f (tvar o x i) = tvar q u i := by
  match i with
  | 0 | 1 | 2 | 3 | 4 | 5 | _ + 6 => simp [tvar, map8, h.c, hx]

/-! the rings -/
def cOps : Ops Ci := ⟨const, add, mul, neg⟩
def zOps : Ops Int := ⟨id, fun a b => a + b, fun a b => a * b, fun a => -a⟩
def nOps : Ops Nat := ⟨Int.natAbs, fun a b => a + b, fun a b => a * b, id⟩
theorem ev_hom (v : Nat → Int) : Hom cOps zOps (Ci.ev v) := ⟨fun _ => rfl, fun _ _ => rfl, fun _ _ => rfl, fun _ => rfl⟩
theorem mj_hom (v : Nat → Nat) : Hom cOps nOps (Ci.mj v) := ⟨fun _ => rfl, fun _ _ => rfl, fun _ _ => rfl, fun _ => rfl⟩

/-- x times x times x, and 7 -/
def rhs {α : Type} (o : Ops α) (x : α) : α := o.add (o.mul (o.mul x x) x) (o.c 7)

/-- a circuit over x1 x2 x3 y1 y2 y3, in the tower over a ring at (x1, x2, x3) -/
def t8 {α : Type} (o : Ops α) (x : Nat → α) (e : Ci) := evo (tow o (rhs o (x 0)) (rhs o (x 1)) (rhs o (x 2))) (tvar o x) e

theorem t8_map {α β : Type} {o : Ops α} {q : Ops β} {f : α → β} (h : Hom o q f) (x : Nat → α) (u : Nat → β) (hx : ∀ i, f (x i) = u i) (e : Ci) : map8 f (t8 o x e) = t8 q u e := by
  unfold t8
  have hr : ∀ i, f (rhs o (x i)) = rhs q (u i) := fun i => by simp [rhs, h.add, h.mul, h.c, hx]
  have := evo_hom (tow_hom h (rhs o (x 0)) (rhs o (x 1)) (rhs o (x 2))) (tvar o x) (tvar q u) (tvar_map h x u hx) e
  rw [hr, hr, hr] at this
  exact this

/-- all eight parts -/
def all8 {α : Type} (f : α → Prop) (a : ((α × α) × (α × α)) × ((α × α) × (α × α))) : Prop :=
  ((f a.1.1.1 ∧ f a.1.1.2) ∧ (f a.1.2.1 ∧ f a.1.2.2)) ∧ ((f a.2.1.1 ∧ f a.2.1.2) ∧ (f a.2.2.1 ∧ f a.2.2.2))
theorem all8_map {α β : Type} {f : α → β} {P : β → Prop} {a} : all8 P (map8 f a) ↔ all8 (fun x => P (f x)) a := Iff.rfl
theorem all8_and {α : Type} {P Q : α → Prop} {a} (h : all8 P a) (k : all8 Q a) : all8 (fun x => P x ∧ Q x) a :=
  ⟨⟨⟨⟨h.1.1.1, k.1.1.1⟩, ⟨h.1.1.2, k.1.1.2⟩⟩, ⟨⟨h.1.2.1, k.1.2.1⟩, ⟨h.1.2.2, k.1.2.2⟩⟩⟩, ⟨⟨⟨h.2.1.1, k.2.1.1⟩, ⟨h.2.1.2, k.2.1.2⟩⟩, ⟨⟨h.2.2.1, k.2.2.1⟩, ⟨h.2.2.2, k.2.2.2⟩⟩⟩⟩
theorem all8_imp {α : Type} {P Q : α → Prop} {a} (h : all8 P a) (k : ∀ x, P x → Q x) : all8 Q a :=
  ⟨⟨⟨k _ h.1.1.1, k _ h.1.1.2⟩, ⟨k _ h.1.2.1, k _ h.1.2.2⟩⟩, ⟨⟨k _ h.2.1.1, k _ h.2.1.2⟩, ⟨k _ h.2.2.1, k _ h.2.2.2⟩⟩⟩

/-- parts built of three variables alone -/
theorem inVars_closed : (∀ n : Int, (cOps.c n).inVars 3) ∧ (∀ a b : Ci, a.inVars 3 → b.inVars 3 → (cOps.add a b).inVars 3) ∧ (∀ a b : Ci, a.inVars 3 → b.inVars 3 → (cOps.mul a b).inVars 3) ∧ (∀ a : Ci, a.inVars 3 → (cOps.neg a).inVars 3) :=
  ⟨fun _ => trivial, fun _ _ h k => ⟨h, k⟩, fun _ _ h k => ⟨h, k⟩, fun _ h => h⟩

structure Closed {α : Type} (o : Ops α) (P : α → Prop) : Prop where
  c : ∀ n, P (o.c n)
  add : ∀ a b, P a → P b → P (o.add a b)
  mul : ∀ a b, P a → P b → P (o.mul a b)
  neg : ∀ a, P a → P (o.neg a)
theorem evo_closed {α : Type} {o : Ops α} {P : α → Prop} (h : Closed o P) (v : Nat → α) (hv : ∀ i, P (v i)) : ∀ e : Ci, P (evo o v e)
  | const n => h.c n
  | var i => hv i
  | add a b => h.add _ _ (evo_closed h v hv a) (evo_closed h v hv b)
  | mul a b => h.mul _ _ (evo_closed h v hv a) (evo_closed h v hv b)
  | neg a => h.neg _ (evo_closed h v hv a)
theorem quad_closed {α : Type} {o : Ops α} {P : α → Prop} (h : Closed o P) {d : α} (hd : P d) : Closed (quad o d) (fun a => P a.1 ∧ P a.2) where
  c n := ⟨h.c _, h.c _⟩
  add a b ha hb := ⟨h.add _ _ ha.1 hb.1, h.add _ _ ha.2 hb.2⟩
  mul a b ha hb := ⟨h.add _ _ (h.mul _ _ ha.1 hb.1) (h.mul _ _ hd (h.mul _ _ ha.2 hb.2)), h.add _ _ (h.mul _ _ ha.1 hb.2) (h.mul _ _ ha.2 hb.1)⟩
  neg a ha := ⟨h.neg _ ha.1, h.neg _ ha.2⟩
theorem t8_closed {α : Type} {o : Ops α} {P : α → Prop} (h : Closed o P) (x : Nat → α) (hx : ∀ i, i < 3 → P (x i)) (e : Ci) : all8 P (t8 o x e) := by
  have hr : ∀ i, i < 3 → P (rhs o (x i)) := fun i hi => h.add _ _ (h.mul _ _ (h.mul _ _ (hx i hi) (hx i hi)) (hx i hi)) (h.c _)
  have h1 := quad_closed h (hr 0 (by omega))
  have h2 := quad_closed h1 (d := (rhs o (x 1), o.c 0)) ⟨hr 1 (by omega), h.c _⟩
  have h3 := quad_closed h2 (d := ((rhs o (x 2), o.c 0), (o.c 0, o.c 0))) ⟨⟨hr 2 (by omega), h.c _⟩, ⟨h.c _, h.c _⟩⟩
  refine evo_closed h3 _ ?_ e
  intro i
  match i with
  | 0 => exact ⟨⟨⟨hx 0 (by omega), h.c _⟩, ⟨h.c _, h.c _⟩⟩, ⟨⟨h.c _, h.c _⟩, ⟨h.c _, h.c _⟩⟩⟩
  | 1 => exact ⟨⟨⟨hx 1 (by omega), h.c _⟩, ⟨h.c _, h.c _⟩⟩, ⟨⟨h.c _, h.c _⟩, ⟨h.c _, h.c _⟩⟩⟩
  | 2 => exact ⟨⟨⟨hx 2 (by omega), h.c _⟩, ⟨h.c _, h.c _⟩⟩, ⟨⟨h.c _, h.c _⟩, ⟨h.c _, h.c _⟩⟩⟩
  | 3 | 4 | 5 | _ + 6 => exact ⟨⟨⟨h.c _, h.c _⟩, ⟨h.c _, h.c _⟩⟩, ⟨⟨h.c _, h.c _⟩, ⟨h.c _, h.c _⟩⟩⟩

/-- the point at which a circuit is looked at -/
def at3 (a b c : Nat) : Nat → Nat
  | 0 => a
  | 1 => b
  | 2 => c
  | _ => 1

/-- all that is to be looked at for one circuit -/
def looks (b0 b1 b2 : Nat) (e : Ci) : Prop :=
  all8 (· < b0) (t8 nOps (at3 1 1 1) e) ∧ all8 (· < b1) (t8 nOps (at3 b0 1 1) e) ∧ all8 (· < b2) (t8 nOps (at3 b0 b1 1) e) ∧
    all8 (· = 0) (t8 zOps (fun i => ((at3 b0 b1 b2 i : Nat) : Int)) e)

/-- A circuit that passes the look is 0 in the tower at all whole numbers. -/
theorem t8_zero {b0 b1 b2 : Nat} {e : Ci} (h : looks b0 b1 b2 e) (u : Nat → Int) : all8 (· = 0) (t8 zOps u e) := by
  obtain ⟨h0, h1, h2, h3⟩ := h
  have hin : all8 (fun a : Ci => a.inVars 3) (t8 cOps var e) :=
    t8_closed (P := fun a : Ci => a.inVars 3) ⟨inVars_closed.1, inVars_closed.2.1, inVars_closed.2.2.1, inVars_closed.2.2.2⟩ var (fun i hi => hi) e
  have k0 : all8 (fun a : Ci => a.mj (at3 1 1 1) < b0) (t8 cOps var e) := by
    rw [← t8_map (mj_hom (at3 1 1 1)) var (at3 1 1 1) (fun _ => rfl) e] at h0; exact all8_map.1 h0
  have k1 : all8 (fun a : Ci => a.mj (at3 b0 1 1) < b1) (t8 cOps var e) := by
    rw [← t8_map (mj_hom (at3 b0 1 1)) var (at3 b0 1 1) (fun _ => rfl) e] at h1; exact all8_map.1 h1
  have k2 : all8 (fun a : Ci => a.mj (at3 b0 b1 1) < b2) (t8 cOps var e) := by
    rw [← t8_map (mj_hom (at3 b0 b1 1)) var (at3 b0 b1 1) (fun _ => rfl) e] at h2; exact all8_map.1 h2
  have k3 : all8 (fun a : Ci => a.ev (fun i => ((at3 b0 b1 b2 i : Nat) : Int)) = 0) (t8 cOps var e) := by
    rw [← t8_map (ev_hom (fun i => ((at3 b0 b1 b2 i : Nat) : Int))) var (fun i => ((at3 b0 b1 b2 i : Nat) : Int)) (fun _ => rfl) e] at h3; exact all8_map.1 h3
  rw [← t8_map (ev_hom u) var u (fun _ => rfl) e]
  refine all8_map.2 (all8_imp (all8_and hin (all8_and k0 (all8_and k1 (all8_and k2 k3)))) ?_)
  rintro a ⟨ha, g0, g1, g2, g3⟩
  refine Ci.zero_everywhere (at3 b0 b1 b2) 3 a ha ?_ g3 u
  intro k hk
  match k, hk with
  | 0, _ =>
    rw [mj_congr (n := 3) (u := at3 1 1 1) (fun i hi => by match i, hi with | 0, _ => rfl | 1, _ => rfl | 2, _ => rfl) a ha]; exact g0
  | 1, _ =>
    rw [mj_congr (n := 3) (u := at3 b0 1 1) (fun i hi => by match i, hi with | 0, _ => rfl | 1, _ => rfl | 2, _ => rfl) a ha]; exact g1
  | 2, _ =>
    rw [mj_congr (n := 3) (u := at3 b0 b1 1) (fun i hi => by match i, hi with | 0, _ => rfl | 1, _ => rfl | 2, _ => rfl) a ha]; exact g2

/-! ### numbers modulo p -/
section
variable {p : Nat} [NeZero p]
def cls (p : Nat) [NeZero p] (n : Int) : Fin p := Fin.ofNat p (n % (p : Int)).toNat
def fOps (p : Nat) [NeZero p] : Ops (Fin p) := ⟨cls p, fun a b => a + b, fun a b => a * b, fun a => -a⟩

theorem cls_val (n : Int) : (((cls p n).val : Nat) : Int) = n % (p : Int) := by
  have hp : (0 : Int) < (p : Int) := by have := Nat.pos_of_ne_zero (NeZero.ne p); omega
  have h1 := Int.emod_nonneg n (b := (p : Int)) (by omega)
  have h2 := Int.emod_lt_of_pos n hp
  simp only [cls, Fin.ofNat]
  rw [Nat.mod_eq_of_lt (by omega)]
  omega
omit [NeZero p] in
theorem eq_of_val {a b : Fin p} (h : ((a.val : Nat) : Int) = ((b.val : Nat) : Int)) : a = b := Fin.ext (by omega)
theorem cls_eq {a b : Int} (h : a % (p : Int) = b % (p : Int)) : cls p a = cls p b := eq_of_val (by rw [cls_val, cls_val, h])
theorem cls_of_val (a : Fin p) : cls p ((a.val : Nat) : Int) = a := eq_of_val (by rw [cls_val]; exact Int.emod_eq_of_lt (by omega) (by have := a.isLt; omega))
theorem cls_add (a b : Int) : cls p (a + b) = cls p a + cls p b := by
  apply eq_of_val
  rw [cls_val, Fin.val_add, Int.natCast_emod, Int.natCast_add, cls_val, cls_val, ← Int.add_emod]
theorem cls_mul (a b : Int) : cls p (a * b) = cls p a * cls p b := by
  apply eq_of_val
  rw [cls_val, Fin.val_mul, Int.natCast_emod, Int.natCast_mul, cls_val, cls_val, ← Int.mul_emod]
theorem cls_zero : cls p 0 = 0 := by
  apply eq_of_val; rw [cls_val]; simp
theorem cls_neg (a : Int) : cls p (-a) = - cls p a := by
  have h : cls p (-a) + cls p a = 0 := by rw [← cls_add, Int.add_left_neg, cls_zero]
  grind
theorem cls_hom : Hom zOps (fOps p) (cls p) := ⟨fun _ => rfl, cls_add, cls_mul, cls_neg⟩
theorem cls_one : cls p 1 = 1 := by
  have h : cls p 1 * 1 = 1 := by
    have e : cls p 1 = (1 : Fin p) := by
      apply eq_of_val
      rw [cls_val]
      show (1 : Int) % (p : Int) = (((1 % p : Nat)) : Int)
      exact (Int.natCast_emod 1 p).symm
    rw [e]; grind
  grind

theorem quad_out {α : Type} {o : Ops α} {f : α → Fin p} (h : Hom o (fOps p) f) (d : α) (y : Fin p) (hy : y * y = f d) : Hom (quad o d) (fOps p) (fun a => f a.1 + f a.2 * y) where
  c n := by
    show f (o.c n) + f (o.c 0) * y = cls p n
    rw [h.c, h.c]; show cls p n + cls p 0 * y = cls p n; rw [cls_zero]; grind
  add a b := by
    show f (o.add a.1 b.1) + f (o.add a.2 b.2) * y = (f a.1 + f a.2 * y) + (f b.1 + f b.2 * y)
    rw [h.add, h.add]; show (f a.1 + f b.1) + (f a.2 + f b.2) * y = _; grind
  mul a b := by
    show f (o.add (o.mul a.1 b.1) (o.mul d (o.mul a.2 b.2))) + f (o.add (o.mul a.1 b.2) (o.mul a.2 b.1)) * y = (f a.1 + f a.2 * y) * (f b.1 + f b.2 * y)
    simp only [h.add, h.mul]
    show (f a.1 * f b.1 + f d * (f a.2 * f b.2)) + (f a.1 * f b.2 + f a.2 * f b.1) * y = _
    rw [← hy]; grind
  neg a := by
    show f (o.neg a.1) + f (o.neg a.2) * y = -(f a.1 + f a.2 * y)
    rw [h.neg, h.neg]; show -(f a.1) + -(f a.2) * y = _; grind

/-- A circuit that passes the look is 0 at any three points of the curve. -/
theorem circuit_zero {b0 b1 b2 : Nat} {e : Ci} (h : looks b0 b1 b2 e) (v : Nat → Fin p) (hc : ∀ i, i < 3 → v (i + 3) * v (i + 3) = v i * v i * v i + 7) (h6 : ∀ i, 6 ≤ i → v i = 0) :
    evo (fOps p) v e = 0 := by
  have hz := t8_zero h (fun i => (((v i).val : Nat) : Int))
  have hm := t8_map (cls_hom (p := p)) (fun i => (((v i).val : Nat) : Int)) v (fun i => cls_of_val _) e
  have h7 : cls p 7 = 7 := by
    have e2 : cls p 2 = 2 := by rw [show (2 : Int) = 1 + 1 from rfl, cls_add, cls_one]; grind
    rw [show (7 : Int) = 2 * (2 + 1) + 1 from rfl, cls_add, cls_mul, cls_add, cls_one, e2]; grind
  have hd : ∀ i, i < 3 → v (i + 3) * v (i + 3) = rhs (fOps p) (v i) := fun i hi => by rw [hc i hi]; simp only [rhs, fOps, h7]
  have idh : Hom (fOps p) (fOps p) (fun a : Fin p => a) := ⟨fun _ => rfl, fun _ _ => rfl, fun _ _ => rfl, fun _ => rfl⟩
  have q1 := quad_out idh (rhs (fOps p) (v 0)) (v 3) (hd 0 (by omega))
  have c0 : (fOps p).c 0 = 0 := cls_zero
  have c1 : (fOps p).c 1 = 1 := cls_one
  have q2 := quad_out q1 (rhs (fOps p) (v 1), (fOps p).c 0) (v 4) (by simp only [c0]; rw [hd 1 (by omega)]; grind)
  have q3 := quad_out q2 ((rhs (fOps p) (v 2), (fOps p).c 0), ((fOps p).c 0, (fOps p).c 0)) (v 5) (by simp only [c0]; rw [hd 2 (by omega)]; grind)
  have key := evo_hom q3 (tvar (fOps p) v) v (by
    intro i
    match i with
    | 0 => simp only [tvar, c0]; grind
    | 1 => simp only [tvar, c0]; grind
    | 2 => simp only [tvar, c0]; grind
    | 3 => simp only [tvar, c0, c1]; grind
    | 4 => simp only [tvar, c0, c1]; grind
    | 5 => simp only [tvar, c0, c1]; grind
    | i + 6 => simp only [tvar, c0]; rw [h6 (i + 6) (by omega)]; grind) e
  rw [← key]
  have he : evo (quad (quad (quad (fOps p) (rhs (fOps p) (v 0))) (rhs (fOps p) (v 1), (fOps p).c 0)) ((rhs (fOps p) (v 2), (fOps p).c 0), ((fOps p).c 0, (fOps p).c 0))) (tvar (fOps p) v) e = t8 (fOps p) v e := rfl
  rw [he, ← hm]
  obtain ⟨⟨⟨a1, a2⟩, ⟨a3, a4⟩⟩, ⟨⟨a5, a6⟩, ⟨a7, a8⟩⟩⟩ := hz
  simp only [map8, a1, a2, a3, a4, a5, a6, a7, a8, cls_zero]
  grind
end

/-! ### the circuits: the sum of points, without a case -/
structure C3 where
  x : Ci
  y : Ci
  z : Ci
def sub (a b : Ci) : Ci := .add a (.neg b)
def addC (p q : C3) : C3 :=
  { x := sub (.mul (.add (.mul p.x q.y) (.mul q.x p.y)) (sub (.mul p.y q.y) (.mul (.const 21) (.mul p.z q.z)))) (.mul (.const 21) (.mul (.add (.mul p.y q.z) (.mul q.y p.z)) (.add (.mul p.x q.z) (.mul q.x p.z))))
    y := .add (.mul (.add (.mul p.y q.y) (.mul (.const 21) (.mul p.z q.z))) (sub (.mul p.y q.y) (.mul (.const 21) (.mul p.z q.z)))) (.mul (.const 63) (.mul (.mul p.x q.x) (.add (.mul p.x q.z) (.mul q.x p.z))))
    z := .add (.mul (.add (.mul p.y q.z) (.mul q.y p.z)) (.add (.mul p.y q.y) (.mul (.const 21) (.mul p.z q.z)))) (.mul (.const 3) (.mul (.mul p.x q.x) (.add (.mul p.x q.y) (.mul q.x p.y)))) }
def ptC (i : Nat) : C3 := ⟨.var i, .var (i + 3), .const 1⟩
def leftC : C3 := addC (addC (ptC 0) (ptC 1)) (ptC 2)
def rightC : C3 := addC (ptC 0) (addC (ptC 1) (ptC 2))
def crossXZ : Ci := sub (.mul leftC.x rightC.z) (.mul leftC.z rightC.x)
def crossYZ : Ci := sub (.mul leftC.y rightC.z) (.mul leftC.z rightC.y)
def crossXY : Ci := sub (.mul leftC.x rightC.y) (.mul leftC.y rightC.x)

instance {α : Type} {P : α → Prop} [DecidablePred P] (a) : Decidable (all8 P a) := by unfold all8; infer_instance
instance (b0 b1 b2 : Nat) (e : Ci) : Decidable (looks b0 b1 b2 e) := by unfold looks; infer_instance

theorem look_XZ : looks (2 ^ 50) (2 ^ 500) (2 ^ 6500) crossXZ := by decide +kernel
theorem look_YZ : looks (2 ^ 50) (2 ^ 500) (2 ^ 6500) crossYZ := by decide +kernel
theorem look_XY : looks (2 ^ 50) (2 ^ 500) (2 ^ 6500) crossXY := by decide +kernel
end PlainK
