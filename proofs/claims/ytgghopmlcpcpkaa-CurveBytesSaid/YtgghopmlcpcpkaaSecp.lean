/- A step of the proof: what a function of the program computes, or a plain law of numbers. -/
import Derived.Test.YtgghopmlcpcpkaaOrder
import Derived.Test.YtgghopmlcpcpkaaPrimes
set_option linter.unusedVariables false
set_option linter.unusedSimpArgs false
namespace PlainK

def PP : Nat := 115792089237316195423570985008687907853269984665640564039457584007908834671663
def NN : Nat := 115792089237316195423570985008687907852837564279074904382605163141518161494337
instance : NeZero PP := ⟨by decide +kernel⟩
theorem PP_root : Root PP 3 := root_115792089237316195423570985008687907853269984665640564039457584007908834671663
theorem NN_root : Root NN 7 := root_115792089237316195423570985008687907852837564279074904382605163141518161494337
theorem PP_pos : 2 < PP := by decide +kernel
theorem PP_odd : PP % 2 = 1 := by decide +kernel
theorem NN_odd : NN % 2 = 1 := by decide +kernel

/-- the inverse, as a power -/
def finv (a : Fin PP) : Fin PP := Fin.ofNat PP (a.val ^ (PP - 2))

theorem finv_mul (a : Fin PP) (h : a ≠ 0) : a * finv a = 1 := by
  have hp := PP_pos
  have hv : a.val % PP ≠ 0 := by
    rw [Nat.mod_eq_of_lt a.isLt]
    intro e; apply h; exact Fin.ext (by simpa using e)
  have hf := PP_root.fermat a.val hv
  apply Fin.ext
  have e1 : ((1 : Fin PP).val) = 1 % PP := rfl
  rw [Fin.val_mul, e1, Nat.mod_eq_of_lt (show 1 < PP by omega)]
  show a.val * (a.val ^ (PP - 2) % PP) % PP = 1
  rw [Nat.mul_mod_mod, ← hf, show PP - 1 = (PP - 2) + 1 by omega, Nat.pow_succ, Nat.mul_comm]

theorem two_ne : (2 : Fin PP) ≠ 0 := by
  intro e
  have := congrArg Fin.val e
  have e2 : ((2 : Fin PP).val) = 2 % PP := rfl
  have e0 : ((0 : Fin PP).val) = 0 % PP := rfl
  have hp := PP_pos
  rw [e2, e0, Nat.mod_eq_of_lt hp] at this
  simp at this

theorem minus7 : pmod PP 256 (PP - 7) ((PP - 1) / 3) 1 % PP ≠ 1 := by decide +kernel
theorem PP_lt : PP < 2 ^ 256 := by decide +kernel
theorem PP_three : (PP - 1) / 3 * 3 = PP - 1 := by decide +kernel

theorem no_cube (x : Fin PP) : x * x * x + 7 ≠ 0 := by
  intro e
  have hp : 7 < PP := by decide +kernel
  have ev := congrArg Fin.val e
  have e7 : ((7 : Fin PP).val) = 7 % PP := rfl
  have e0 : ((0 : Fin PP).val) = 0 % PP := rfl
  rw [Fin.val_add, Fin.val_mul, Fin.val_mul, e7, e0, Nat.zero_mod, Nat.mod_eq_of_lt hp] at ev
  rw [Nat.mod_mul_mod] at ev
  have hc : (x.val * x.val * x.val) % PP = PP - 7 := by
    have := Nat.mod_lt (x.val * x.val * x.val) (show 0 < PP by omega)
    generalize x.val * x.val * x.val % PP = t at *
    by_cases ht : t + 7 < PP
    · rw [Nat.mod_eq_of_lt ht] at ev; omega
    · rw [Nat.mod_eq_sub_mod (by omega), Nat.mod_eq_of_lt (by omega)] at ev; omega
  have hx : x.val % PP ≠ 0 := by
    intro h0
    rw [Nat.mul_mod, h0, Nat.mul_zero, Nat.zero_mod] at hc; omega
  have hf := PP_root.fermat x.val hx
  rw [← PP_three, Nat.mul_comm, Nat.pow_mul, Nat.pow_mod, show x.val ^ 3 = x.val * x.val * x.val by rw [Nat.pow_succ, Nat.pow_two], hc] at hf
  have := minus7
  rw [pmod_eq PP 256 _ _ _ (by have := PP_lt; omega), Nat.mul_one] at this
  exact this hf

theorem good : Good PP finv := ⟨finv_mul, two_ne, no_cube⟩

/-! ### reckoning points -/
structure T3 where
  x : Nat
  y : Nat
  z : Nat
def ad (m a b : Nat) : Nat := (a + b) % m
def ml (m a b : Nat) : Nat := a * b % m
def sb (m a b : Nat) : Nat := (a + (m - b % m)) % m
def nadd (m : Nat) (a b : T3) : T3 :=
  { x := sb m (ml m (ad m (ml m a.x b.y) (ml m b.x a.y)) (sb m (ml m a.y b.y) (ml m 21 (ml m a.z b.z)))) (ml m 21 (ml m (ad m (ml m a.y b.z) (ml m b.y a.z)) (ad m (ml m a.x b.z) (ml m b.x a.z))))
    y := ad m (ml m (ad m (ml m a.y b.y) (ml m 21 (ml m a.z b.z))) (sb m (ml m a.y b.y) (ml m 21 (ml m a.z b.z)))) (ml m 63 (ml m (ml m a.x b.x) (ad m (ml m a.x b.z) (ml m b.x a.z))))
    z := ad m (ml m (ad m (ml m a.y b.z) (ml m b.y a.z)) (ad m (ml m a.y b.y) (ml m 21 (ml m a.z b.z)))) (ml m 3 (ml m (ml m a.x b.x) (ad m (ml m a.x b.y) (ml m b.x a.y)))) }
/-- a times 2^f and so on, the bits of e from the lowest on -/
def nmul (m : Nat) : Nat → T3 → Nat → T3 → T3
  | 0, _, _, r => r
  | f + 1, a, e, r => if e = 0 then r else nmul m f (nadd m a a) (e / 2) (if e % 2 = 1 then nadd m r a else r)

section
variable {p : Nat} [NeZero p] {inv : Fin p → Fin p}
def ft (a : Nat) : Fin p := Fin.ofNat p a
def ft3 (p : Nat) [NeZero p] (a : T3) : Tr p := ⟨ft a.x, ft a.y, ft a.z⟩
theorem ft_ad (a b : Nat) : (ft (ad p a b) : Fin p) = ft a + ft b := by
  apply Fin.ext; simp only [ft, ad, Fin.val_add, Fin.ofNat, Nat.mod_mod, Nat.add_mod]
theorem ft_ml (a b : Nat) : (ft (ml p a b) : Fin p) = ft a * ft b := by
  apply Fin.ext; simp only [ft, ml, Fin.val_mul, Fin.ofNat, Nat.mod_mod]; exact Nat.mul_mod a b p
theorem ft_sb (a b : Nat) : (ft (sb p a b) : Fin p) = ft a - ft b := by
  have h : (ft (sb p a b) : Fin p) + ft b = ft a := by
    apply Fin.ext
    have := Nat.mod_lt b (Nat.pos_of_ne_zero (NeZero.ne p))
    simp only [ft, sb, Fin.val_add, Fin.ofNat, Nat.mod_mod, Nat.mod_add_mod, Nat.add_mod_mod]
    have hb : b = p * (b / p) + b % p := (Nat.div_add_mod b p).symm
    have e : a + (p - b % p) + b = a + p * (b / p + 1) := by rw [Nat.mul_add, Nat.mul_one]; omega
    rw [e, Nat.add_mul_mod_self_left]
  grind
theorem ft_num (p : Nat) [NeZero p] : (ft 21 : Fin p) = 21 ∧ (ft 63 : Fin p) = 63 ∧ (ft 3 : Fin p) = 3 ∧ (ft 0 : Fin p) = 0 ∧ (ft 1 : Fin p) = 1 ∧ (ft 7 : Fin p) = 7 := ⟨rfl, rfl, rfl, rfl, rfl, rfl⟩
theorem ft3_add (a b : T3) : ft3 p (nadd p a b) = tadd (ft3 p a) (ft3 p b) := by
  obtain ⟨e21, e63, e3, _⟩ := ft_num p
  simp only [ft3, nadd, tadd, ft_ad, ft_ml, ft_sb, e21, e63, e3]

/-- a triple that stands for a point -/
def Stands (t : T3) (a : Pt p) : Prop := ∃ c : Fin p, c ≠ 0 ∧ ft3 p t = tscale c (co a)
theorem stands_add (h : Good p inv) {s t : T3} {a b : Pt p} (ha : a.on) (hb : b.on) (hs : Stands s a) (ht : Stands t b) : Stands (nadd p s t) (padd' inv a b) := by
  obtain ⟨c, hc, ec⟩ := hs
  obtain ⟨d, hd, ed⟩ := ht
  obtain ⟨_, e, he, ee⟩ := padd_spec h ha hb
  refine ⟨c * c * (d * d * e), mul_ne h (mul_ne h hc hc) (mul_ne h (mul_ne h hd hd) he), ?_⟩
  rw [ft3_add, ec, ed, tadd_scale_left, tadd_scale_right, ee]
  simp only [tscale, Tr.mk.injEq]; refine ⟨?_, ?_, ?_⟩ <;> grind
theorem stands_mul (h : Good p inv) : ∀ (f e : Nat) {s r : T3} {a b : Pt p}, e < 2 ^ f → a.on → b.on → Stands s a → Stands r b → Stands (nmul p f s e r) (padd' inv b (times inv e a))
  | 0, e, s, r, a, b, he, ha, hb, hs, hr => by
    have : e = 0 := by simpa using he
    subst this
    show Stands r (padd' inv b .o)
    rw [padd_o]; exact hr
  | f + 1, e, s, r, a, b, he, ha, hb, hs, hr => by
    unfold nmul
    by_cases h0 : e = 0
    · subst h0
      show Stands r (padd' inv b .o)
      rw [padd_o]; exact hr
    · rw [if_neg h0]
      have he2 : e / 2 < 2 ^ f := by rw [Nat.pow_succ] at he; omega
      have hd : times inv e a = padd' inv (times inv (e % 2) a) (times inv (e / 2) (padd' inv a a)) := by
        have e2 : padd' inv a a = times inv 2 a := by show _ = padd' inv (padd' inv .o a) a; rw [o_padd]
        rw [e2, ← times_mul h ha, ← times_add h ha, show e % 2 + 2 * (e / 2) = e by omega]
      have haa := padd_on h ha ha
      rcases Nat.mod_two_eq_zero_or_one e with h2 | h2
      · rw [h2]; simp only [Nat.zero_ne_one, if_false]
        have := stands_mul h f (e / 2) he2 haa hb (stands_add h ha ha hs hs) hr
        rw [hd, h2]
        show Stands _ (padd' inv b (padd' inv .o _))
        rw [o_padd]; exact this
      · rw [h2]; simp only [if_true]
        have := stands_mul h f (e / 2) he2 haa (padd_on h hb ha) (stands_add h ha ha hs hs) (stands_add h hb ha hr hs)
        rw [hd, h2, times_one, ← padd_assoc h hb ha (times_on h haa _)]; exact this
end

def gx : Nat := 0x79be667ef9dcbbac55a06295ce870b07029bfcdb2dce28d959f2815b16f81798
def gy : Nat := 0x483ada7726a3c4655da4fbfc0e1108a8fd17b448a68554199c47d08ffb10d4b8
def G : Pt PP := .pt (ft gx) (ft gy)
theorem G_num : gy * gy % PP = (gx * gx * gx + 7) % PP := by decide +kernel
theorem G_on : G.on := by
  show (ft gy : Fin PP) * ft gy = ft gx * ft gx * ft gx + 7
  apply Fin.ext
  have e7 : ((7 : Fin PP).val) = 7 % PP := rfl
  simp only [Fin.val_mul, Fin.val_add, e7, ft, Fin.ofNat]
  have := G_num
  simp only [Nat.mul_mod_mod, Nat.mod_mul_mod, Nat.mod_add_mod, Nat.add_mod_mod]
  exact this
theorem G_zero : (nmul PP 256 ⟨gx, gy, 1⟩ NN ⟨0, 1, 0⟩).z = 0 := by decide +kernel
theorem NN_lt : NN < 2 ^ 256 := by decide +kernel
theorem G_times : times finv NN G = .o := by
  have h1 := one_ne good
  have hs : Stands ⟨gx, gy, 1⟩ G := ⟨1, h1, by simp only [ft3, tscale, co, G, Tr.mk.injEq, (ft_num PP).2.2.2.2.1]; refine ⟨?_, ?_, ?_⟩ <;> grind⟩
  have hr : Stands ⟨0, 1, 0⟩ (.o : Pt PP) := ⟨1, h1, by simp only [ft3, tscale, co, Tr.mk.injEq, (ft_num PP).2.2.2.2.1, (ft_num PP).2.2.2.1]; refine ⟨?_, ?_, ?_⟩ <;> grind⟩
  obtain ⟨c, hc, e⟩ := stands_mul good 256 NN NN_lt G_on (show (Pt.o : Pt PP).on from trivial) hs hr
  rw [o_padd] at e
  have ez := congrArg Tr.z e
  have e0 : (ft3 PP (nmul PP 256 ⟨gx, gy, 1⟩ NN ⟨0, 1, 0⟩)).z = 0 := by
    show ft (nmul PP 256 ⟨gx, gy, 1⟩ NN ⟨0, 1, 0⟩).z = 0
    rw [G_zero]; rfl
  rw [e0] at ez
  cases ht : times finv NN G with
  | o => rfl
  | pt x y =>
    rw [ht] at ez
    simp only [tscale, co] at ez
    exact absurd (show c = 0 by grind) hc
theorem gen : Gen finv NN G := ⟨G_on, by simp [G], NN_root.prime, NN_odd, G_times, by decide +kernel⟩

/-- so many times the order nothing is left of any point -/
theorem kills {a : Pt PP} (ha : a.on) : times finv NN a = .o := gen.kills good PP_odd ha
theorem times_order {a : Pt PP} (ha : a.on) (k : Nat) : times finv (k % NN) a = times finv k a := times_mod good ha (kills ha) k
end PlainK
