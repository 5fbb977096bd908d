/- A step of the proof: what a function of the program computes, or a plain law of numbers. -/
import Derived.Test.YtgghopmlcpcpkaaLawLib
import Derived.Test.YtgghopmlcpcpkaaPrimes
namespace Go.Proofs.Ytgghopmlcpcpkaa
open Go.RowKit PlainK
set_option linter.unusedVariables false
set_option linter.unusedSimpArgs false
theorem inv_one {p g a : Nat} (h : Root p g) (ha : a % p ≠ 0) (h3 : 3 ≤ p) : mulm p a (invN a p) = 1 := by
  have hf := h.fermat a ha
  unfold mulm invN
  rw [if_neg ha, Nat.mul_mod_mod, show a * (a % p) ^ (p - 2) % p = a * a ^ (p - 2) % p from by rw [Nat.mul_mod, Nat.pow_mod, Nat.mod_mod, ← Nat.pow_mod, ← Nat.mul_mod]]
  rw [show a * a ^ (p - 2) = a ^ (p - 1) from by rw [← Nat.pow_succ']; congr 1; omega]
  exact hf
theorem invN_lt {a p : Nat} (hl : p < 2 ^ 256) (hp : 0 < p) : invN a p < 2 ^ 256 := by
  unfold invN; split
  · decide
  · exact Nat.lt_trans (Nat.mod_lt _ hp) hl
theorem rootN_lt {a p : Nat} (hl : p < 2 ^ 256) (hp : 0 < p) : rootN a p < 2 ^ 256 := by
  unfold rootN rootV; split
  · exact Nat.lt_trans (Nat.mod_lt _ hp) hl
  · decide
theorem invE_zero (a p : Nat) (h : a % p = 0) : invE a p = 5 := by unfold invE; rw [if_pos h]
theorem invE_not (a p : Nat) (h : ¬ a % p = 0) : invE a p = 0 := by unfold invE; rw [if_neg h]
theorem invN_zero (a p : Nat) (h : a % p = 0) : invN a p = 0 := by unfold invN; rw [if_pos h]
theorem root_four {p a : Nat} (h : p % 4 ≠ 3) : rootB a p = false ∧ rootN a p = 0 := by
  unfold rootB rootN
  rw [decide_eq_false h, if_neg (fun k => h k.1)]
  exact ⟨rfl, rfl⟩
theorem rootN_none {p a : Nat} (h : rootB a p = false) : rootN a p = 0 := by
  unfold rootB at h; unfold rootN
  rw [if_neg]
  intro ⟨h1, h2⟩
  rw [decide_eq_true h1, decide_eq_true h2] at h
  cases h
theorem rootN_some {p a : Nat} (h : rootB a p = true) : mulm p (rootN a p) (rootN a p) = a % p := by
  unfold rootB at h; unfold rootN mulm
  simp only [Bool.and_eq_true, decide_eq_true_eq] at h
  rw [if_pos h]; exact h.2
/-- the square of the root that is tried -/
theorem rootV_sq {p a : Nat} (h4 : p % 4 = 3) : rootV a p * rootV a p % p = a * a ^ ((p - 1) / 2) % p := by
  unfold rootV
  rw [← Nat.mul_mod, ← Nat.pow_add, ← Nat.pow_succ']
  congr 2; omega
theorem rootB_sq {p g a : Nat} (h : Root p g) (h4 : p % 4 = 3) : rootB (mulm p a a) p = true := by
  unfold rootB
  rw [decide_eq_true h4]
  simp only [Bool.true_and, decide_eq_true_eq]
  rw [rootV_sq h4]
  unfold mulm
  rw [Nat.mod_mod, Nat.mul_mod, Nat.mod_mod, ← Nat.pow_mod, ← Nat.mul_mod, ← Nat.pow_two, ← Nat.pow_mul, show 2 * ((p - 1) / 2) = p - 1 by omega]
  by_cases ha : a % p = 0
  · rw [Nat.mul_mod, Nat.pow_mod, ha]; simp
  · rw [Nat.mul_mod, h.fermat a ha, Nat.mul_one, Nat.mod_mod]
theorem rootB_is {p g a : Nat} (h : Root p g) (h4 : p % 4 = 3) (ha : a < p) : rootB a p = (decide (a = 0) || decide (powm p a ((p - 1) / 2) = 1)) := by
  unfold rootB
  rw [decide_eq_true h4, Bool.true_and, rootV_sq h4, Bool.eq_iff_iff]
  simp only [decide_eq_true_eq, Bool.or_eq_true]
  unfold powm
  rw [Nat.mul_mod, Nat.mod_eq_of_lt ha]
  constructor
  · intro e
    by_cases h0 : a = 0
    · exact Or.inl h0
    · refine Or.inr ?_
      have hp := h.prime
      -- a * (x - 1) is a multiple of p
      have hlt : a ^ ((p - 1) / 2) % p < p := Nat.mod_lt _ (by omega)
      generalize a ^ ((p - 1) / 2) % p = x at e hlt
      have hx : x ≠ 0 := by intro hx; rw [hx] at e; simp at e; exact h0 e.symm
      have hd : p ∣ a * (x - 1) := by
        have : (a * x) % p = a % p := by rw [e, Nat.mod_eq_of_lt ha]
        have h2 := Nat.dvd_of_mod_eq_zero (Nat.sub_mod_eq_zero_of_mod_eq this)
        rw [Nat.mul_sub, Nat.mul_one]; exact h2
      rcases prime_dvd_mul hp hd with k | k
      · have := Nat.le_of_dvd (by omega) k; omega
      · by_cases hx1 : x = 1
        · exact hx1
        · have := Nat.le_of_dvd (by omega) k; omega
  · rintro (e | e)
    · rw [e, Nat.zero_mul, Nat.zero_mod]
    · rw [e, Nat.mul_one, Nat.mod_eq_of_lt ha]
end Go.Proofs.Ytgghopmlcpcpkaa
