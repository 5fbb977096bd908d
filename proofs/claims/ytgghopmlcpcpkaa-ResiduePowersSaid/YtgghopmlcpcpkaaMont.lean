/- A step of the proof: what a function of the program computes, or a plain law of numbers. -/
set_option linter.unusedVariables false
set_option linter.unusedSimpArgs false
namespace PlainK

/-! ### words -/
def w0 (n : Nat) : Nat := n % 2 ^ 64
def w1 (n : Nat) : Nat := n / 2 ^ 64 % 2 ^ 64
def w2 (n : Nat) : Nat := n / 2 ^ 128 % 2 ^ 64
def w3 (n : Nat) : Nat := n / 2 ^ 192 % 2 ^ 64
def ofW (a b c d : Nat) : Nat := a + 2 ^ 64 * b + 2 ^ 128 * c + 2 ^ 192 * d

theorem w_lt (n : Nat) : w0 n < 2 ^ 64 ∧ w1 n < 2 ^ 64 ∧ w2 n < 2 ^ 64 ∧ w3 n < 2 ^ 64 := by
  simp only [w0, w1, w2, w3]; omega
theorem ofW_w {n : Nat} (h : n < 2 ^ 256) : ofW (w0 n) (w1 n) (w2 n) (w3 n) = n := by
  simp only [w0, w1, w2, w3, ofW]; omega
theorem w_ofW {a b c d : Nat} (ha : a < 2 ^ 64) (hb : b < 2 ^ 64) (hc : c < 2 ^ 64) (hd : d < 2 ^ 64) :
    w0 (ofW a b c d) = a ∧ w1 (ofW a b c d) = b ∧ w2 (ofW a b c d) = c ∧ w3 (ofW a b c d) = d ∧ ofW a b c d < 2 ^ 256 := by
  simp only [w0, w1, w2, w3, ofW]; omega

/-! ### a division, bit by bit -/
theorem div_step {rest b bit : Nat} (hr : rest < b) (hb : b < 2 ^ 256) (hbit : bit < 2) :
    (if 2 ^ 255 ≤ rest ∨ b ≤ 2 * rest % 2 ^ 256 + bit then (2 * rest % 2 ^ 256 + bit + 2 ^ 256 - b) % 2 ^ 256 else 2 * rest % 2 ^ 256 + bit) = (2 * rest + bit) % b := by
  by_cases h : 2 ^ 255 ≤ rest
  · rw [if_pos (Or.inl h), Nat.mod_eq_sub_mod (a := 2 * rest + bit) (by omega), Nat.mod_eq_of_lt (a := 2 * rest + bit - b) (by omega)]; omega
  · by_cases h2 : b ≤ 2 * rest % 2 ^ 256 + bit
    · rw [if_pos (Or.inr h2), Nat.mod_eq_sub_mod (a := 2 * rest + bit) (by omega), Nat.mod_eq_of_lt (a := 2 * rest + bit - b) (by omega)]; omega
    · rw [if_neg (by omega), Nat.mod_eq_of_lt (a := 2 * rest + bit) (by omega)]; omega

theorem mod_bit (a b i : Nat) : (2 * (a / 2 ^ (i + 1) % b) + a / 2 ^ i % 2) % b = a / 2 ^ i % b := by
  have h : a / 2 ^ i = 2 * (a / 2 ^ (i + 1)) + a / 2 ^ i % 2 := by
    have : a / 2 ^ (i + 1) = a / 2 ^ i / 2 := by rw [Nat.pow_succ, Nat.div_div_eq_div_mul]
    omega
  generalize a / 2 ^ (i + 1) = q at *
  generalize a / 2 ^ i % 2 = r at *
  rw [h, Nat.add_mod, Nat.mul_mod, Nat.mod_mod, ← Nat.mul_mod, ← Nat.add_mod]

/-! ### sums modulo m -/
def madd (m a b : Nat) : Nat := (a % m + b % m) % m
def msub (m a b : Nat) : Nat := (a % m + (m - b % m)) % m
def mmul (m a b : Nat) : Nat := a % m * (b % m) % m
theorem plus_eq {m a b : Nat} (hm : m < 2 ^ 256) (ha : a < m) (hb : b < m) :
    (if 2 ^ 256 ≤ a + b ∨ m ≤ (a + b) % 2 ^ 256 then ((a + b) % 2 ^ 256 + 2 ^ 256 - m) % 2 ^ 256 else (a + b) % 2 ^ 256) = (a + b) % m := by
  have e1 : m ≤ a + b → (a + b) % m = a + b - m := fun h => by rw [Nat.mod_eq_sub_mod h, Nat.mod_eq_of_lt (by omega)]
  have e2 : a + b < m → (a + b) % m = a + b := fun h => Nat.mod_eq_of_lt h
  by_cases h : 2 ^ 256 ≤ a + b
  · rw [if_pos (Or.inl h), e1 (by omega)]; omega
  · have e3 : (a + b) % 2 ^ 256 = a + b := Nat.mod_eq_of_lt (by omega)
    rw [e3]
    by_cases h2 : m ≤ a + b
    · rw [if_pos (Or.inr h2), e1 h2]; omega
    · rw [if_neg (by omega), e2 (by omega)]
theorem minus_eq {m a b : Nat} (hm : m < 2 ^ 256) (ha : a < m) (hb : b < m) :
    (if a < b then ((a + 2 ^ 256 - b) % 2 ^ 256 + m) % 2 ^ 256 else (a + 2 ^ 256 - b) % 2 ^ 256) = (a + (m - b)) % m := by
  by_cases h : a < b
  · rw [if_pos h, Nat.mod_eq_of_lt (a := a + (m - b)) (by omega)]; omega
  · rw [if_neg h, Nat.mod_eq_sub_mod (a := a + (m - b)) (by omega), Nat.mod_eq_of_lt (a := a + (m - b) - m) (by omega)]; omega

/-! ### Montgomery's product -/
/-- a round: T and a times a word of b, and so much of m that the lowest word is 0; without it -/
def mround (m k a T bi : Nat) : Nat := (T + a * bi + m * ((T + a * bi) % 2 ^ 64 * k % 2 ^ 64)) / 2 ^ 64

theorem mround_exact {m k : Nat} (hk : (m * k + 1) % 2 ^ 64 = 0) (S : Nat) : (S + m * (S % 2 ^ 64 * k % 2 ^ 64)) % 2 ^ 64 = 0 := by
  have h1 : (S + m * (S % 2 ^ 64 * k % 2 ^ 64)) % 2 ^ 64 = (S % 2 ^ 64 * (m * k + 1)) % 2 ^ 64 := by
    rw [Nat.add_mod, Nat.mul_mod m, Nat.mod_mod, ← Nat.mul_mod, ← Nat.add_mod]
    rw [show m * (S % 2 ^ 64 * k) = S % 2 ^ 64 * (m * k) by grind, Nat.mul_add, Nat.mul_one, Nat.add_comm, ← Nat.add_mod_mod]
  rw [h1, Nat.mul_mod, hk, Nat.mul_zero, Nat.zero_mod]

theorem mround_mul {m k a T bi : Nat} (hk : (m * k + 1) % 2 ^ 64 = 0) : mround m k a T bi * 2 ^ 64 = T + a * bi + m * ((T + a * bi) % 2 ^ 64 * k % 2 ^ 64) :=
  Nat.div_mul_cancel (Nat.dvd_of_mod_eq_zero (mround_exact hk _))

theorem mround_lt {m k a T bi : Nat} (hT : T < 2 * m) (ha : a < m) (hb : bi < 2 ^ 64) : mround m k a T bi < 2 * m := by
  unfold mround
  apply Nat.div_lt_of_lt_mul
  have h1 : a * bi ≤ m * (2 ^ 64 - 1) := Nat.mul_le_mul (by omega) (by omega)
  have hq : (T + a * bi) % 2 ^ 64 * k % 2 ^ 64 < 2 ^ 64 := Nat.mod_lt _ (by decide)
  have h2 : m * ((T + a * bi) % 2 ^ 64 * k % 2 ^ 64) ≤ m * (2 ^ 64 - 1) := Nat.mul_le_mul (Nat.le_refl _) (by omega)
  have h3 : m * (2 ^ 64 - 1) = 2 ^ 64 * m - m := by rw [Nat.mul_sub_one, Nat.mul_comm]
  omega

theorem mround_mod {m k a T bi : Nat} (hk : (m * k + 1) % 2 ^ 64 = 0) : mround m k a T bi * 2 ^ 64 % m = (T + a * bi) % m := by
  rw [mround_mul hk, Nat.add_mul_mod_self_left]

/-- four rounds -/
def mhalf (m k a b : Nat) : Nat := mround m k a (mround m k a (mround m k a (mround m k a 0 (w0 b)) (w1 b)) (w2 b)) (w3 b)

theorem mhalf_lt {m k a b : Nat} (ha : a < m) : mhalf m k a b < 2 * m := by
  have hw := w_lt b
  exact mround_lt (mround_lt (mround_lt (mround_lt (by omega) ha hw.1) ha hw.2.1) ha hw.2.2.1) ha hw.2.2.2

theorem mhalf_mod {m k a b : Nat} (hk : (m * k + 1) % 2 ^ 64 = 0) (hb : b < 2 ^ 256) : mhalf m k a b * 2 ^ 256 % m = a * b % m := by
  have e1 := mround_mod (a := a) (T := 0) (bi := w0 b) hk
  unfold mhalf
  generalize mround m k a 0 (w0 b) = T1 at *
  have e2 := mround_mod (a := a) (T := T1) (bi := w1 b) hk
  generalize mround m k a T1 (w1 b) = T2 at *
  have e3 := mround_mod (a := a) (T := T2) (bi := w2 b) hk
  generalize mround m k a T2 (w2 b) = T3 at *
  have e4 := mround_mod (a := a) (T := T3) (bi := w3 b) hk
  generalize mround m k a T3 (w3 b) = T4 at *
  have step : ∀ {x y z c : Nat}, x * 2 ^ 64 % m = y % m → y * c % m = z % m → x * (2 ^ 64 * c) % m = z % m := by
    intro x y z c h1 h2
    rw [← Nat.mul_assoc, Nat.mul_mod, h1, ← Nat.mul_mod, h2]
  have hsum : a * b = 0 + a * w0 b + 2 ^ 64 * (a * w1 b) + 2 ^ 128 * (a * w2 b) + 2 ^ 192 * (a * w3 b) := by
    conv => lhs; rw [← ofW_w hb]
    unfold ofW; grind
  have f1 : T1 * (2 ^ 64 * 1) % m = (0 + a * w0 b) % m := by rw [Nat.mul_one]; exact e1
  have f2 : T2 * (2 ^ 64 * 2 ^ 64) % m = (0 + a * w0 b + 2 ^ 64 * (a * w1 b)) % m := by
    refine step e2 ?_
    rw [Nat.add_mul, Nat.add_mod, e1, ← Nat.add_mod, Nat.mul_comm (a * w1 b)]
  have f3 : T3 * (2 ^ 64 * 2 ^ 128) % m = (0 + a * w0 b + 2 ^ 64 * (a * w1 b) + 2 ^ 128 * (a * w2 b)) % m := by
    refine step e3 ?_
    have e : T2 * 2 ^ 128 % m = (0 + a * w0 b + 2 ^ 64 * (a * w1 b)) % m := f2
    rw [Nat.add_mul, Nat.add_mod, e, ← Nat.add_mod, Nat.mul_comm (a * w2 b)]
  have f4 : T4 * (2 ^ 64 * 2 ^ 192) % m = (0 + a * w0 b + 2 ^ 64 * (a * w1 b) + 2 ^ 128 * (a * w2 b) + 2 ^ 192 * (a * w3 b)) % m := by
    refine step e4 ?_
    have e : T3 * 2 ^ 192 % m = (0 + a * w0 b + 2 ^ 64 * (a * w1 b) + 2 ^ 128 * (a * w2 b)) % m := f3
    rw [Nat.add_mul, Nat.add_mod, e, ← Nat.add_mod, Nat.mul_comm (a * w3 b)]
  rw [hsum]; exact f4

/-- what the code answers: less m, if it goes -/
def mmont (m k a b : Nat) : Nat := mhalf m k a b % m
theorem mmont_lt {m k a b : Nat} (hm : 0 < m) : mmont m k a b < m := Nat.mod_lt _ hm
theorem mmont_mod {m k a b : Nat} (hk : (m * k + 1) % 2 ^ 64 = 0) (hb : b < 2 ^ 256) : mmont m k a b * 2 ^ 256 % m = a * b % m := by
  rw [mmont, Nat.mod_mul_mod, mhalf_mod hk hb]

theorem coprime_two {m : Nat} (h : m % 2 = 1) (k : Nat) : Nat.Coprime m (2 ^ k) := by
  apply Nat.Coprime.pow_right
  rw [Nat.Coprime, Nat.gcd_comm, Nat.gcd_rec, h]; rfl

theorem cancel_two {m x y : Nat} (h : m % 2 = 1) (k : Nat) (e : x * 2 ^ k % m = y * 2 ^ k % m) : x % m = y % m := by
  have key : ∀ {x y : Nat}, y ≤ x → x * 2 ^ k % m = y * 2 ^ k % m → x % m = y % m := by
    intro x y hle he
    have hd : m ∣ (x - y) * 2 ^ k := by
      rw [Nat.sub_mul]
      exact Nat.dvd_of_mod_eq_zero (Nat.sub_mod_eq_zero_of_mod_eq he)
    have := Nat.Coprime.dvd_of_dvd_mul_right (coprime_two h k) hd
    obtain ⟨c, hc⟩ := this
    have : x = y + m * c := by omega
    rw [this, Nat.add_mul_mod_self_left]
  rcases Nat.le_total y x with hle | hle
  · exact key hle e
  · exact (key hle e.symm).symm

/-- the product of two numbers -/
theorem mont_mul {m k sq a b : Nat} (hodd : m % 2 = 1) (hm : 1 < m) (hk : (m * k + 1) % 2 ^ 64 = 0) (hsq : sq = 2 ^ 256 * 2 ^ 256 % m) (hs : sq < 2 ^ 256) (ha : a < m) (hb : b < 2 ^ 256) :
    mmont m k (mmont m k a b) sq = a * b % m := by
  have h1 := mmont_mod (a := a) hk hb
  have h2 := mmont_mod (a := mmont m k a b) hk hs
  have h3 := mmont_lt (m := m) (k := k) (a := mmont m k a b) (b := sq) (by omega)
  generalize mmont m k a b = r1 at *
  generalize mmont m k r1 sq = r2 at *
  have : r2 % m = (a * b) % m := by
    apply cancel_two hodd 256
    rw [h2, hsq, Nat.mul_mod_mod, ← Nat.mul_assoc, Nat.mul_mod, h1, ← Nat.mul_mod]
  rw [Nat.mod_eq_of_lt h3] at this
  exact this

/-! ### the inverse of a word -/
def newt (m x : Nat) : Nat := x * ((2 + 2 ^ 64 - m * x % 2 ^ 64) % 2 ^ 64) % 2 ^ 64

theorem newt_step {m x : Nat} {k : Nat} (hk : 2 * k ≤ 64) (h : (2 ^ k : Int) ∣ ((m : Int) * x - 1)) : (2 ^ (2 * k) : Int) ∣ ((m : Int) * (newt m x : Nat) - 1) := by
  obtain ⟨c, hc⟩ := h
  have e : ∃ d : Int, ((newt m x : Nat) : Int) = x * (2 - m * x) + 2 ^ 64 * d := by
    unfold newt
    have h1 : m * x % 2 ^ 64 < 2 ^ 64 := Nat.mod_lt _ (by decide)
    have h2 := Nat.div_add_mod (m * x) (2 ^ 64)
    have h3 := Nat.div_add_mod (2 + 2 ^ 64 - m * x % 2 ^ 64) (2 ^ 64)
    have h4 := Nat.div_add_mod (x * ((2 + 2 ^ 64 - m * x % 2 ^ 64) % 2 ^ 64)) (2 ^ 64)
    generalize m * x % 2 ^ 64 = r at *
    generalize x * ((2 + 2 ^ 64 - r) % 2 ^ 64) / 2 ^ 64 = q3 at *
    generalize x * ((2 + 2 ^ 64 - r) % 2 ^ 64) % 2 ^ 64 = s at *
    generalize (2 + 2 ^ 64 - r) / 2 ^ 64 = q2 at *
    generalize hv : (2 + 2 ^ 64 - r) % 2 ^ 64 = v at *
    generalize m * x / 2 ^ 64 = q1 at *
    have i2 : (2 ^ 64 : Int) * q1 + r = m * x := by exact_mod_cast h2
    have i3 : (v : Int) = 2 + 2 ^ 64 - r - 2 ^ 64 * q2 := by omega
    have i4 : (2 ^ 64 : Int) * q3 + s = x * v := by exact_mod_cast h4
    refine ⟨x * (1 + q1 - q2) - q3, ?_⟩
    have : (s : Int) = x * v - 2 ^ 64 * q3 := by omega
    rw [this, i3]
    have : (r : Int) = m * x - 2 ^ 64 * q1 := by omega
    rw [this]
    grind
  obtain ⟨d, hd⟩ := e
  rw [hd]
  have hp : (2 ^ 64 : Int) = 2 ^ (2 * k) * 2 ^ (64 - 2 * k) := by rw [← Int.pow_add, show 2 * k + (64 - 2 * k) = 64 by omega]
  refine ⟨m * d * 2 ^ (64 - 2 * k) - c * c, ?_⟩
  have hx : (m : Int) * x = 1 + 2 ^ k * c := by omega
  have hkk : (2 ^ (2 * k) : Int) = 2 ^ k * 2 ^ k := by rw [← Int.pow_add, show k + k = 2 * k by omega]
  have hx' : ((1 : Int) - m * x) = - (2 ^ k * c) := by omega
  rw [hp]
  generalize (2 : Int) ^ (64 - 2 * k) = D at *
  rw [hkk] at *
  generalize (2 : Int) ^ k = K at *
  have : (m : Int) * (x * (2 - m * x) + K * K * D * d) - 1 = m * d * (K * K * D) - (1 - m * x) * (1 - m * x) := by grind
  rw [this, hx']
  grind

def newt6 (m : Nat) : Nat := newt m (newt m (newt m (newt m (newt m (newt m 1)))))

theorem newt6_spec {m : Nat} (h : m % 2 = 1) : m * newt6 m % 2 ^ 64 = 1 := by
  have h1 : (2 ^ 1 : Int) ∣ ((m : Int) * (1 : Nat) - 1) := by
    refine ⟨(m / 2 : Nat), ?_⟩; omega
  have h2 := newt_step (k := 1) (by omega) h1
  have h3 := newt_step (k := 2) (by omega) h2
  have h4 := newt_step (k := 4) (by omega) h3
  have h5 := newt_step (k := 8) (by omega) h4
  have h6 := newt_step (k := 16) (by omega) h5
  have h7 := newt_step (k := 32) (by omega) h6
  obtain ⟨c, hc⟩ := h7
  unfold newt6
  generalize newt m (newt m (newt m (newt m (newt m (newt m 1))))) = x at *
  have e : ((m * x : Nat) : Int) = 1 + 2 ^ 64 * c := by
    rw [Int.natCast_mul]
    have : (2 ^ (2 * 32) : Int) = 2 ^ 64 := rfl
    rw [this] at hc
    omega
  have : ((m * x % 2 ^ 64 : Nat) : Int) = 1 := by
    rw [Int.natCast_emod, e]; omega
  omega

theorem newt6_lt (m : Nat) : newt6 m < 2 ^ 64 := Nat.mod_lt _ (by decide)

/-- less the inverse -/
def ninv (m : Nat) : Nat := (2 ^ 64 - newt6 m) % 2 ^ 64
theorem ninv_spec {m : Nat} (h : m % 2 = 1) : (m * ninv m + 1) % 2 ^ 64 = 0 := by
  have h1 := newt6_spec h
  have h2 := newt6_lt m
  have h0 : newt6 m ≠ 0 := by intro e; rw [e, Nat.mul_zero] at h1; simp at h1
  have e : ninv m = 2 ^ 64 - newt6 m := by unfold ninv; rw [Nat.mod_eq_of_lt (by omega)]
  rw [e]
  have h3 := Nat.div_add_mod (m * newt6 m) (2 ^ 64)
  rw [h1] at h3
  have : m * (2 ^ 64 - newt6 m) + m * newt6 m = m * 2 ^ 64 := by rw [← Nat.mul_add, show 2 ^ 64 - newt6 m + newt6 m = 2 ^ 64 by omega]
  omega

/-! ### the square of 2^256 -/
def dbl (m : Nat) : Nat → Nat
  | 0 => 1 % m
  | n + 1 => (dbl m n + dbl m n) % m
theorem dbl_eq (m : Nat) : ∀ n, dbl m n = 2 ^ n % m
  | 0 => rfl
  | n + 1 => by
    simp only [dbl, dbl_eq m n]
    rw [← Nat.add_mod, Nat.pow_succ, Nat.mul_two]

/-! ### powers -/
theorem pow_bit (m a n i : Nat) : a ^ (n / 2 ^ i) % m = (a ^ (n / 2 ^ (i + 1)) % m * (a ^ (n / 2 ^ (i + 1)) % m) % m * (if n / 2 ^ i % 2 = 1 then a else 1)) % m := by
  have h : n / 2 ^ i = 2 * (n / 2 ^ (i + 1)) + n / 2 ^ i % 2 := by
    have : n / 2 ^ (i + 1) = n / 2 ^ i / 2 := by rw [Nat.pow_succ, Nat.div_div_eq_div_mul]
    omega
  generalize n / 2 ^ (i + 1) = q at *
  have hb : n / 2 ^ i % 2 = 0 ∨ n / 2 ^ i % 2 = 1 := by omega
  generalize n / 2 ^ i % 2 = r at *
  rw [h, ← Nat.mul_mod, Nat.mod_mul_mod, ← Nat.pow_add]
  rcases hb with e | e
  · subst e; simp; rw [Nat.two_mul]
  · subst e; simp only [if_true]; rw [Nat.pow_succ, Nat.two_mul]
end PlainK
