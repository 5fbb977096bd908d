/- A step of the proof: what a function of the program computes, or a plain law of numbers. -/
import Derived.Test.YtgghopmlcpcpkaaLine
namespace Go.Proofs.Ytgghopmlcpcpkaa
open Go.RowKit PlainK
set_option linter.unusedVariables false
set_option linter.unusedSimpArgs false
theorem prod_le {a b : Nat} (ha : a < 2 ^ 256) (hb : b < 18446744073709551616) : a * b ≤ 2 ^ 256 * 18446744073709551615 :=
  Nat.mul_le_mul (Nat.le_of_lt ha) (by omega)
theorem lover_lt {n a b : Nat} (hn : n < 2 ^ 256) (ha : a < 2 ^ 256) (hb : b < 18446744073709551616) : lover n a b < 18446744073709551616 := by
  have := prod_le ha hb
  unfold lover; omega
theorem c64_le1 {x y : Nat} (hx : x < 18446744073709551616) (hy : y < 18446744073709551616) : c64 x y 0 ≤ 1 := by unfold c64; omega
theorem l_both (n a b : Nat) : lrest n a b + 2 ^ 256 * lover n a b = n + a * b ∧ lrest n a b < 2 ^ 256 := by
  unfold lrest lover; omega
theorem up_eq {n S A C : Nat} (h1 : n + A = S) (h2 : S < 2 ^ 256) (h3 : n + C = n) : True := trivial
theorem u_div {l0 l1 l2 l3 y4 y5 U : Nat} (h : U = ofW l0 l1 l2 l3 + 2 ^ 256 * (y4 + 18446744073709551616 * y5)) (h0 : l0 < 2 ^ 64) : U / 2 ^ 64 = ofW l1 l2 l3 y4 + 2 ^ 256 * y5 := by
  unfold ofW at *; omega
theorem round_fin {m k a T bi : Nat} (hT : T < 2 * m) (hm : m < 2 ^ 256) (ha : a < m) (hb : bi < 18446744073709551616) {L1 O1 T4 X4 X5 Q L2 O2 Y4 Y5 : Nat}
    (hL1 : lrest (T % 2 ^ 256) a bi = L1) (hO1 : lover (T % 2 ^ 256) a bi = O1) (hT4 : T / 2 ^ 256 = T4) (hX4 : s64 T4 O1 0 = X4) (hX5 : c64 T4 O1 0 = X5)
    (hQ : Q = w0 L1 * k % 2 ^ 64) (hL2 : lrest L1 m Q = L2) (hO2 : lover L1 m Q = O2) (hY4 : s64 X4 O2 0 = Y4) (hY5 : Y5 = X5 + c64 X4 O2 0) :
    w1 L2 = w0 (mround m k a T bi % 2 ^ 256) ∧ w2 L2 = w1 (mround m k a T bi % 2 ^ 256) ∧ w3 L2 = w2 (mround m k a T bi % 2 ^ 256) ∧ Y4 = w3 (mround m k a T bi % 2 ^ 256) ∧ Y5 = mround m k a T bi / 2 ^ 256 := by
  have e1 := l_both (T % 2 ^ 256) a bi
  rw [hL1, hO1] at e1
  obtain ⟨s1, s2⟩ := s64_eq T4 O1 0
  rw [hX4, hX5] at s1
  rw [hX4] at s2
  have e2 := l_both L1 m Q
  rw [hL2, hO2] at e2
  obtain ⟨s3, s4⟩ := s64_eq X4 O2 0
  rw [hY4] at s3 s4
  have hc : c64 X4 O2 0 = Y5 - X5 ∧ X5 ≤ Y5 := by omega
  rw [hc.1] at s3
  have hS : T + a * bi = L1 + 2 ^ 256 * (X4 + 18446744073709551616 * X5) := by
    generalize a * bi = p at *
    clear hL1 hO1 hX4 hX5 hL2 hO2 hY4 hY5 hc s3 s4 e2 hQ
    omega
  have hq : w0 L1 = (T + a * bi) % 2 ^ 64 := by
    rw [hS]; unfold w0; omega
  rw [hq] at hQ
  have hU : T + a * bi + m * Q = L2 + 2 ^ 256 * (Y4 + 18446744073709551616 * Y5) := by
    rw [hS]
    generalize m * Q = q at *
    clear hL1 hO1 hX4 hX5 hL2 hO2 hY4 hY5 s1 s2 e1 hS hq hQ
    omega
  have hl2 := e2.2
  rw [← ofW_w hl2] at hU
  have hd := u_div hU (w_lt L2).1
  have hr : mround m k a T bi = ofW (w1 L2) (w2 L2) (w3 L2) Y4 + 2 ^ 256 * Y5 := by
    unfold mround; rw [← hQ]; exact hd
  have hw := w_lt L2
  have hlt : ofW (w1 L2) (w2 L2) (w3 L2) Y4 < 2 ^ 256 := (w_ofW hw.2.1 hw.2.2.1 hw.2.2.2 s4).2.2.2.2
  have hmod : ofW (w1 L2) (w2 L2) (w3 L2) Y4 = mround m k a T bi % 2 ^ 256 := by rw [hr]; omega
  obtain ⟨f0, f1, f2, f3⟩ := words_eq hw.2.1 hw.2.2.1 hw.2.2.2 s4 hmod
  exact ⟨f0, f1, f2, f3, by rw [hr]; omega⟩
theorem x5_le {T m a bi : Nat} (hT : T < 2 * m) (hm : m < 2 ^ 256) (ha : a < m) (hb : bi < 18446744073709551616) : c64 (T / 2 ^ 256) (lover (T % 2 ^ 256) a bi) 0 ≤ 1 :=
  c64_le1 (by omega) (lover_lt (Nat.mod_lt _ (by decide)) (by omega) hb)
end Go.Proofs.Ytgghopmlcpcpkaa
