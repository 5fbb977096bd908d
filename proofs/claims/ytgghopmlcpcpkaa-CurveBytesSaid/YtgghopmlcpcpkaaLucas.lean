/- A step of the proof: what a function of the program computes, or a plain law of numbers. -/
set_option linter.unusedVariables false
set_option linter.unusedSimpArgs false
namespace PlainK

/-- no room: n + 1 letters, n boxes -/
theorem php : ∀ (n : Nat) (f : Nat → Nat), (∀ i, i < n + 1 → f i < n) → ∃ i j, i < j ∧ j < n + 1 ∧ f i = f j
  | 0, f, h => absurd (h 0 (by omega)) (by omega)
  | n + 1, f, h => by
    by_cases hx : ∃ i, i < n + 1 ∧ f i = f (n + 1)
    · obtain ⟨i, hi, he⟩ := hx
      exact ⟨i, n + 1, hi, by omega, he⟩
    · have hne : ∀ i, i < n + 1 → f i ≠ f (n + 1) := fun i hi he => hx ⟨i, hi, he⟩
      have hl := h (n + 1) (by omega)
      obtain ⟨i, j, hij, hj, he⟩ := php n (fun i => if f i < f (n + 1) then f i else f i - 1) (by
        intro i hi
        have h1 := h i (by omega)
        have h2 := hne i hi
        by_cases hc : f i < f (n + 1)
        · simp only [hc, if_true]; omega
        · simp only [hc, if_false]; omega)
      refine ⟨i, j, hij, by omega, ?_⟩
      have h1 := hne i (by omega)
      have h2 := hne j (by omega)
      by_cases c1 : f i < f (n + 1) <;> by_cases c2 : f j < f (n + 1) <;> simp only [c1, c2, if_true, if_false] at he <;> omega

/-- an injective map of [0, n) into [0, n) takes every value -/
theorem onto (n : Nat) (f : Nat → Nat) (h : ∀ i, i < n → f i < n) (hi : ∀ i j, i < j → j < n → f i ≠ f j) (a : Nat) (ha : a < n) : ∃ i, i < n ∧ f i = a := by
  apply Classical.byContradiction
  intro hn
  obtain ⟨i, j, hij, hj, he⟩ := php n (fun i => if i < n then f i else a) (by
    intro i _
    by_cases c : i < n
    · simp only [c, if_true]; exact h i c
    · simp only [c, if_false]; exact ha)
  by_cases c : j < n
  · have c1 : i < n := by omega
    simp only [c, c1, if_true] at he
    exact hi i j hij c he
  · have c1 : i < n := by omega
    simp only [c, c1, if_true, if_false] at he
    exact hn ⟨i, c1, he⟩

def IsPrime (p : Nat) : Prop := 2 ≤ p ∧ ∀ d, d ∣ p → d = 1 ∨ d = p

theorem least_factor : ∀ (n k : Nat), k ≤ n → 2 ≤ k → ∃ r, IsPrime r ∧ r ∣ k
  | 0, k, h, h2 => by omega
  | n + 1, k, h, h2 => by
    by_cases hp : IsPrime k
    · exact ⟨k, hp, Nat.dvd_refl k⟩
    · have : ∃ d, d ∣ k ∧ d ≠ 1 ∧ d ≠ k := by
        apply Classical.byContradiction
        intro hn
        exact hp ⟨h2, fun d hd => by
          by_cases e1 : d = 1
          · exact Or.inl e1
          · by_cases e2 : d = k
            · exact Or.inr e2
            · exact absurd ⟨d, hd, e1, e2⟩ hn⟩
      obtain ⟨d, hd, h1, h2'⟩ := this
      have hle := Nat.le_of_dvd (by omega) hd
      have h0 : d ≠ 0 := by rintro rfl; rw [Nat.zero_dvd] at hd; omega
      obtain ⟨r, hr, hrd⟩ := least_factor n d (by omega) (by omega)
      exact ⟨r, hr, Nat.dvd_trans hrd hd⟩

theorem prime_dvd_mul {r a b : Nat} (hr : IsPrime r) (h : r ∣ a * b) : r ∣ a ∨ r ∣ b := by
  rcases hr.2 (Nat.gcd r a) (Nat.gcd_dvd_left r a) with e | e
  · exact Or.inr (Nat.Coprime.dvd_of_dvd_mul_left (show Nat.gcd r a = 1 from e) h)
  · exact Or.inl (by rw [← e]; exact Nat.gcd_dvd_right r a)

def prodL : List Nat → Nat
  | [] => 1
  | a :: l => a * prodL l

theorem prime_in {r : Nat} (hr : IsPrime r) : ∀ {l : List Nat}, (∀ q ∈ l, IsPrime q) → r ∣ prodL l → r ∈ l
  | [], _, h => by
    have h1 : r = 1 := by simpa [prodL] using h
    have := hr.1; omega
  | a :: l, hl, h => by
    rcases prime_dvd_mul hr h with h1 | h1
    · have := (hl a (List.mem_cons_self ..)).2 r h1
      rcases this with e | e
      · have := hr.1; omega
      · rw [e]; exact List.mem_cons_self ..
    · exact List.mem_cons_of_mem _ (prime_in hr (fun q hq => hl q (List.mem_cons_of_mem _ hq)) h1)

/-- g to the power of k modulo p is 1 just if p - 1 divides k; all that is not 0 is a power of g -/
structure Root (p g : Nat) : Prop where
  two : 2 ≤ p
  order : ∀ k, g ^ k % p = 1 ↔ (p - 1) ∣ k
  all : ∀ a, a % p ≠ 0 → ∃ k, k < p - 1 ∧ g ^ k % p = a % p

theorem pow_mod_add (g p a b : Nat) : g ^ (a + b) % p = (g ^ a % p) * (g ^ b % p) % p := by
  rw [Nat.pow_add, Nat.mul_mod]
theorem pow_mod_mul (g p a b : Nat) : g ^ (a * b) % p = (g ^ a % p) ^ b % p := by
  rw [Nat.pow_mul, Nat.pow_mod]
theorem pow_mod_one {g p a : Nat} (hp : 2 ≤ p) (h : g ^ a % p = 1) (b : Nat) : g ^ (a * b) % p = 1 := by
  rw [pow_mod_mul, h, Nat.one_pow]; exact Nat.mod_eq_of_lt (by omega)

theorem lucas {p g : Nat} (fs : List Nat) (hfs : ∀ q ∈ fs, IsPrime q) (hprod : prodL fs = p - 1) (h3 : 3 ≤ p)
    (h1 : g ^ (p - 1) % p = 1) (hq : ∀ q ∈ fs, g ^ ((p - 1) / q) % p ≠ 1) : Root p g := by
  have hp2 : 2 ≤ p := by omega
  -- the least exponent
  have hex : ∃ d, 0 < d ∧ g ^ d % p = 1 := ⟨p - 1, by omega, h1⟩
  have hmin : ∃ d, (0 < d ∧ g ^ d % p = 1) ∧ ∀ e, 0 < e ∧ g ^ e % p = 1 → d ≤ e := by
    have : ∀ n d, d ≤ n → (0 < d ∧ g ^ d % p = 1) → ∃ d, (0 < d ∧ g ^ d % p = 1) ∧ ∀ e, 0 < e ∧ g ^ e % p = 1 → d ≤ e := by
      intro n
      induction n with
      | zero => intro d h hd; omega
      | succ n ih =>
        intro d h hd
        by_cases hx : ∃ e, e < d ∧ 0 < e ∧ g ^ e % p = 1
        · obtain ⟨e, he, h0⟩ := hx
          exact ih e (by omega) h0
        · exact ⟨d, hd, fun e he => by
            apply Classical.byContradiction
            intro hlt
            exact hx ⟨e, by omega, he⟩⟩
    obtain ⟨d, hd⟩ := hex
    exact this d d (Nat.le_refl _) hd
  obtain ⟨d, ⟨hd0, hd1⟩, hdm⟩ := hmin
  have hdiv : ∀ k, g ^ k % p = 1 → d ∣ k := by
    intro k hk
    have e : g ^ k % p = g ^ (k % d) % p := by
      have h := pow_mod_add g p (d * (k / d)) (k % d)
      rw [Nat.div_add_mod k d, pow_mod_one hp2 hd1, Nat.one_mul, Nat.mod_mod] at h
      exact h
    by_cases hz : k % d = 0
    · exact Nat.dvd_of_mod_eq_zero hz
    · have := hdm (k % d) ⟨by omega, by rw [← e]; exact hk⟩
      have := Nat.mod_lt k hd0
      omega
  have hdp : d = p - 1 := by
    obtain ⟨k, hk⟩ := hdiv _ h1
    by_cases hk1 : k = 1
    · rw [hk, hk1, Nat.mul_one]
    · have hk0 : k ≠ 0 := by rintro rfl; omega
      obtain ⟨r, hr, hrk⟩ := least_factor k k (Nat.le_refl _) (by omega)
      have hrp : r ∣ prodL fs := by rw [hprod, hk]; exact Nat.dvd_trans hrk (Nat.dvd_mul_left k d)
      have hin := prime_in hr hfs hrp
      obtain ⟨m, hm⟩ := hrk
      have : (p - 1) / r = d * m := by
        rw [hk, hm, show d * (r * m) = (d * m) * r by grind]
        exact Nat.mul_div_cancel _ (by have := hr.1; omega)
      exact absurd (by rw [this]; exact pow_mod_one hp2 hd1 m) (hq r hin)
  have hord : ∀ k, g ^ k % p = 1 ↔ (p - 1) ∣ k := by
    intro k
    constructor
    · intro h; rw [← hdp]; exact hdiv k h
    · rintro ⟨m, rfl⟩; exact pow_mod_one hp2 h1 m
  -- no power is 0
  have hne : ∀ k, k ≤ p - 1 → g ^ k % p ≠ 0 := by
    intro k hk h0
    have h := pow_mod_add g p k (p - 1 - k)
    rw [h0, Nat.zero_mul, show k + (p - 1 - k) = p - 1 by omega, h1] at h
    simp at h
  have hinj : ∀ i j, i < j → j < p - 1 → g ^ i % p - 1 ≠ g ^ j % p - 1 := by
    intro i j hij hj he
    have n1 := hne i (by omega)
    have n2 := hne j (by omega)
    have he' : g ^ i % p = g ^ j % p := by omega
    have a1 := pow_mod_add g p i (p - 1 - j)
    have a2 := pow_mod_add g p j (p - 1 - j)
    rw [he'] at a1
    rw [show j + (p - 1 - j) = p - 1 by omega] at a2
    have : g ^ (i + (p - 1 - j)) % p = 1 := by rw [a1, ← a2]; exact h1
    have := (hord _).1 this
    have := Nat.le_of_dvd (by omega) this
    omega
  refine ⟨hp2, hord, ?_⟩
  intro a ha
  have hlt := Nat.mod_lt a (show 0 < p by omega)
  obtain ⟨k, hk, he⟩ := onto (p - 1) (fun i => g ^ i % p - 1) (by
    intro i hi
    have := Nat.mod_lt (g ^ i) (show 0 < p by omega)
    have := hne i (by omega)
    show g ^ i % p - 1 < p - 1
    omega) hinj (a % p - 1) (by omega)
  have := hne k (by omega)
  have he' : g ^ k % p - 1 = a % p - 1 := he
  exact ⟨k, hk, by omega⟩

/-- what is not 0, to the power of p - 1, is 1 -/
theorem Root.fermat {p g : Nat} (h : Root p g) (a : Nat) (ha : a % p ≠ 0) : a ^ (p - 1) % p = 1 := by
  obtain ⟨k, _, hk⟩ := h.all a ha
  rw [Nat.pow_mod, ← hk, ← Nat.pow_mod, ← Nat.pow_mul]
  exact (h.order _).2 ⟨k, Nat.mul_comm _ _⟩

theorem Root.prime {p g : Nat} (h : Root p g) : IsPrime p := by
  refine ⟨h.two, fun d hd => ?_⟩
  by_cases hdp : d = p
  · exact Or.inr hdp
  · have h2 := h.two
    have hle := Nat.le_of_dvd (by omega) hd
    have h0 : d ≠ 0 := by rintro rfl; rw [Nat.zero_dvd] at hd; omega
    have hf := h.fermat d (by rw [Nat.mod_eq_of_lt (by omega)]; exact h0)
    have h1 : d ∣ d ^ (p - 1) := ⟨d ^ (p - 2), by rw [show p - 1 = (p - 2) + 1 by omega, Nat.pow_succ, Nat.mul_comm]⟩
    have h3 : d ∣ d ^ (p - 1) % p := (Nat.dvd_mod_iff hd).2 h1
    rw [hf] at h3
    exact Or.inl (Nat.dvd_one.1 h3)

/-! ### reckoning powers -/
/-- a to the power of e, times r, modulo p -/
def pmod (p : Nat) : Nat → Nat → Nat → Nat → Nat
  | 0, _, _, r => r
  | f + 1, a, e, r => if e = 0 then r else pmod p f (a * a % p) (e / 2) (if e % 2 = 1 then r * a % p else r)

theorem pmod_eq (p : Nat) : ∀ (f a e r : Nat), e < 2 ^ f → pmod p f a e r % p = a ^ e * r % p
  | 0, a, e, r, h => by
    have : e = 0 := by simpa using h
    subst this; simp [pmod]
  | f + 1, a, e, r, h => by
    unfold pmod
    by_cases he : e = 0
    · subst he; simp
    · rw [if_neg he, pmod_eq p f _ _ _ (by rw [Nat.pow_succ] at h; omega)]
      rcases Nat.mod_two_eq_zero_or_one e with h2 | h2
      · rw [h2]; simp only [Nat.zero_ne_one, if_false]
        rw [Nat.mul_mod, ← Nat.pow_mod, ← Nat.mul_mod, ← Nat.pow_two, ← Nat.pow_mul, show 2 * (e / 2) = e by omega]
      · rw [h2]; simp only [if_true]
        rw [Nat.mul_mod, ← Nat.pow_mod, ← Nat.pow_two, ← Nat.pow_mul, Nat.mod_mod, ← Nat.mul_mod]
        rw [show a ^ (2 * (e / 2)) * (r * a) = a ^ (2 * (e / 2) + 1) * r by rw [Nat.pow_succ]; grind, show 2 * (e / 2) + 1 = e by omega]

/-- no d from k on, f of them, divides p -/
def noDiv (p : Nat) : Nat → Nat → Bool
  | 0, _ => true
  | f + 1, k => if p % k = 0 then false else noDiv p f (k + 1)
theorem noDiv_spec (p : Nat) : ∀ (f k : Nat), noDiv p f k = true → ∀ d, k ≤ d → d < k + f → p % d ≠ 0
  | 0, k, _, d, h1, h2 => by omega
  | f + 1, k, h, d, h1, h2 => by
    unfold noDiv at h
    by_cases hz : p % k = 0
    · simp [hz] at h
    · rw [if_neg hz] at h
      by_cases e : d = k
      · rw [e]; exact hz
      · exact noDiv_spec p f (k + 1) h d (by omega) (by omega)

/-- a small prime, by division -/
theorem prime_small {p : Nat} (f : Nat) (h2 : 2 ≤ p) (hb : p < (f + 2) * (f + 2)) (h : noDiv p f 2 = true) : IsPrime p := by
  refine ⟨h2, fun d hd => ?_⟩
  have hs := noDiv_spec p f 2 h
  obtain ⟨e, he⟩ := hd
  have hd0 : d ≠ 0 := by rintro rfl; simp at he; omega
  have he0 : e ≠ 0 := by rintro rfl; simp at he; omega
  by_cases h1 : d = 1
  · exact Or.inl h1
  · by_cases h3 : e = 1
    · exact Or.inr (by rw [he, h3, Nat.mul_one])
    · exfalso
      by_cases hdf : d < 2 + f
      · exact hs d (by omega) hdf (by rw [he]; exact Nat.mul_mod_right d e)
      · by_cases hef : e < 2 + f
        · exact hs e (by omega) hef (by rw [he]; exact Nat.mul_mod_left d e)
        · have := Nat.mul_le_mul (show f + 2 ≤ d by omega) (show f + 2 ≤ e by omega)
          omega

/-- all that is to be reckoned for one root -/
def rootOk (p g : Nat) (f : Nat) (fs : List Nat) : Bool :=
  decide (3 ≤ p) && decide (p < 2 ^ f) && decide (prodL fs = p - 1) && decide (pmod p f g (p - 1) 1 % p = 1) && fs.all fun q => decide (pmod p f g ((p - 1) / q) 1 % p ≠ 1)

theorem root_of_ok {p g : Nat} (f : Nat) (fs : List Nat) (hfs : ∀ q ∈ fs, IsPrime q) (h : rootOk p g f fs = true) : Root p g := by
  simp only [rootOk, Bool.and_eq_true, decide_eq_true_eq, List.all_eq_true] at h
  obtain ⟨⟨⟨⟨h3, hf⟩, hp⟩, h1⟩, hq⟩ := h
  refine lucas fs hfs hp h3 ?_ ?_
  · rw [pmod_eq p f g (p - 1) 1 (by omega), Nat.mul_one] at h1; exact h1
  · intro q hm
    have := hq q hm
    have hle := Nat.div_le_self (p - 1) q
    rw [pmod_eq p f g _ 1 (by omega), Nat.mul_one] at this; exact this
end PlainK
