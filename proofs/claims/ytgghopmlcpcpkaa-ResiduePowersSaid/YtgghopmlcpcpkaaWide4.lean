/- A step of the proof: what a function of the program computes, or a plain law of numbers. -/
import Derived.Test.YtgghopmlcpcpkaaWide3
namespace Go.Proofs.Ytgghopmlcpcpkaa
open Go.RowKit PlainK
set_option linter.unusedVariables false
set_option linter.unusedSimpArgs false
theorem ret_a4 {x0 x1 x2 x3 y0 y1 y2 y3 : Int} (h0 : x0 = y0) (h1 : x1 = y1) (h2 : x2 = y2) (h3 : x3 = y3) :
    Ending.returned (.agg #[.int .u64 x0, .int .u64 x1, .int .u64 x2, .int .u64 x3]) = .returned (.agg #[.int .u64 y0, .int .u64 y1, .int .u64 y2, .int .u64 y3]) := by rw [h0, h1, h2, h3]
def lft (a : Nat) : Nat := 2 * a % 2 ^ 256
theorem lft_lt (a : Nat) : lft a < 2 ^ 256 := Nat.mod_lt _ (by decide)
theorem wrap2 (x : Nat) : IntKind.u64.wrap ((x : Int) * 2) = ((2 * (x % 2 ^ 63) : Nat) : Int) := by rw [IntKind.wrap_u64]; omega
theorem wrap_shl {x k : Nat} (j : Nat) (hk : k + j = 64) : IntKind.u64.wrap ((x : Int) * (2 ^ j : Nat)) = ((2 ^ j * (x % 2 ^ k) : Nat) : Int) := by
  rw [IntKind.wrap_u64, ← Int.natCast_mul]
  have e : 18446744073709551616 = 2 ^ j * 2 ^ k := by rw [← Nat.pow_add, Nat.add_comm, hk]
  rw [show (18446744073709551616 : Int) = ((18446744073709551616 : Nat) : Int) from rfl, ← Int.natCast_emod, e, Nat.mul_comm x, Nat.mul_mod_mul_left]
theorem or_up {x y k : Nat} (hy : y < 2 ^ k) (h : 2 ^ k * x < 18446744073709551616) (hy2 : y < 18446744073709551616) : bits .or .u64 ((2 ^ k * x : Nat) : Int) (y : Int) = ((2 ^ k * x + y : Nat) : Int) := by
  rw [bits_or_u64_nat _ _ h hy2, Nat.two_pow_add_eq_or_of_lt hy]
theorem or_dn {x y k : Nat} (hy : y < 2 ^ k) (h : 2 ^ k * x < 18446744073709551616) (hy2 : y < 18446744073709551616) : bits .or .u64 (y : Int) ((2 ^ k * x : Nat) : Int) = ((2 ^ k * x + y : Nat) : Int) := by
  rw [bits_or_u64_nat _ _ hy2 h, Nat.or_comm, Nat.two_pow_add_eq_or_of_lt hy]

theorem lft0 (a : Nat) : IntKind.u64.wrap ((w0 a : Nat) * 2 : Int) = (w0 (lft a) : Nat) := by
  rw [IntKind.wrap_u64]; unfold w0 lft; omega
theorem lft_or {x y : Nat} (hy : y < 18446744073709551616) : bits .or .u64 (IntKind.u64.wrap ((x : Int) * 2)) ((y : Int) / 9223372036854775808) = ((2 * (x % 2 ^ 63) + y / 2 ^ 63 : Nat) : Int) := by
  rw [wrap2]
  have e : ((y : Int) / 9223372036854775808) = ((y / 2 ^ 63 : Nat) : Int) := by omega
  rw [e, show 2 * (x % 2 ^ 63) = 2 ^ 1 * (x % 2 ^ 63) from rfl]
  exact or_up (by omega) (by omega) (by omega)
theorem lft1 (a : Nat) : bits .or .u64 (IntKind.u64.wrap ((w1 a : Nat) * 2 : Int)) ((w0 a : Nat) / 9223372036854775808 : Int) = (w1 (lft a) : Nat) := by
  rw [lft_or (w_lt a).1]; unfold w0 w1 lft; omega
theorem lft2 (a : Nat) : bits .or .u64 (IntKind.u64.wrap ((w2 a : Nat) * 2 : Int)) ((w1 a : Nat) / 9223372036854775808 : Int) = (w2 (lft a) : Nat) := by
  rw [lft_or (w_lt a).2.1]; unfold w1 w2 lft; omega
theorem lft3 (a : Nat) : bits .or .u64 (IntKind.u64.wrap ((w3 a : Nat) * 2 : Int)) ((w2 a : Nat) / 9223372036854775808 : Int) = (w3 (lft a) : Nat) := by
  rw [lft_or (w_lt a).2.2.1]; unfold w2 w3 lft; omega

set_option maxHeartbeats 1000000 in
theorem left_any {a0 a1 a2 a3 : Int} {a : Nat} (ha : W4 a0 a1 a2 a3 a) (w : World) :
   Calls Try.prog 66 #[.agg #[.int .u64 a0, .int .u64 a1, .int .u64 a2, .int .u64 a3], .int .i64 1] w fun e w' =>
    e = .returned (.agg #[.int .u64 (w0 (lft a) : Nat), .int .u64 (w1 (lft a) : Nat), .int .u64 (w2 (lft a) : Nat), .int .u64 (w3 (lft a) : Nat)]) ∧ Below w.heap.size w w' := by
  obtain ⟨rfl, rfl, rfl, rfl, la⟩ := ha
  clear la
  go_enter Try.func66, Try.ntmps66
  go_wp2
  refine wp_loop_rounds 5 ?_
  repeat' (first | (rw [rounds_succ]; go_wp2) | (go_region <;> go_wp2))
  refine bodyPost_ret (v := _) (by simp [results, Try.results66, go_sem]; rfl) rfl ?_
  refine ⟨ret_a4 (lft0 a) (lft1 a) (lft2 a) (lft3 a), ?_⟩
  repeat (first | exact Below.refl _ _ | refine Below.drew ?_ | refine bal ?_ _)


theorem rgt1_or {x y : Nat} (hx : x < 18446744073709551616) : bits .or .u64 ((x : Int) / 2) (IntKind.u64.wrap ((y : Int) * 9223372036854775808)) = ((9223372036854775808 * (y % 2) + x / 2 : Nat) : Int) := by
  have e1 : ((x : Int) / 2) = ((x / 2 : Nat) : Int) := by omega
  have e2 : IntKind.u64.wrap ((y : Int) * 9223372036854775808) = ((2 ^ 63 * (y % 2) : Nat) : Int) := by rw [IntKind.wrap_u64]; omega
  rw [e1, e2, or_dn (by omega) (by omega) (by omega)]
theorem rgt1_0 (a : Nat) : bits .or .u64 ((w0 a : Nat) / 2 : Int) (IntKind.u64.wrap ((w1 a : Nat) * 9223372036854775808 : Int)) = (w0 (a / 2) : Nat) := by
  rw [rgt1_or (w_lt a).1]; unfold w0 w1; omega
theorem rgt1_1 (a : Nat) : bits .or .u64 ((w1 a : Nat) / 2 : Int) (IntKind.u64.wrap ((w2 a : Nat) * 9223372036854775808 : Int)) = (w1 (a / 2) : Nat) := by
  rw [rgt1_or (w_lt a).2.1]; unfold w1 w2; omega
theorem rgt1_2 (a : Nat) : bits .or .u64 ((w2 a : Nat) / 2 : Int) (IntKind.u64.wrap ((w3 a : Nat) * 9223372036854775808 : Int)) = (w2 (a / 2) : Nat) := by
  rw [rgt1_or (w_lt a).2.2.1]; unfold w2 w3; omega
theorem rgt1_3 {a : Nat} (h : a < 2 ^ 256) : ((w3 a : Nat) / 2 : Int) = (w3 (a / 2) : Nat) := by
  unfold w3; omega

set_option maxHeartbeats 1000000 in
theorem right1_any {a0 a1 a2 a3 : Int} {a : Nat} (ha : W4 a0 a1 a2 a3 a) (w : World) :
   Calls Try.prog 23 #[.agg #[.int .u64 a0, .int .u64 a1, .int .u64 a2, .int .u64 a3], .int .i64 1] w fun e w' =>
    e = .returned (.agg #[.int .u64 (w0 (a / 2) : Nat), .int .u64 (w1 (a / 2) : Nat), .int .u64 (w2 (a / 2) : Nat), .int .u64 (w3 (a / 2) : Nat)]) ∧ Below w.heap.size w w' := by
  obtain ⟨rfl, rfl, rfl, rfl, la⟩ := ha
  have hla := Lib.hid la
  clear la
  go_enter Try.func23, Try.ntmps23
  go_wp2
  refine wp_loop_rounds 5 ?_
  repeat' (first | (rw [rounds_succ]; go_wp2) | (go_region <;> go_wp2))
  refine bodyPost_ret (v := _) (by simp [results, Try.results23, go_sem]; rfl) rfl ?_
  refine ⟨ret_a4 (rgt1_0 a) (rgt1_1 a) (rgt1_2 a) (rgt1_3 hla.out), ?_⟩
  repeat (first | exact Below.refl _ _ | refine Below.drew ?_ | refine bal ?_ _)

theorem rgt2_or {x y : Nat} (hx : x < 18446744073709551616) : bits .or .u64 ((x : Int) / 4) (IntKind.u64.wrap ((y : Int) * 4611686018427387904)) = ((4611686018427387904 * (y % 4) + x / 4 : Nat) : Int) := by
  have e1 : ((x : Int) / 4) = ((x / 4 : Nat) : Int) := by omega
  have e2 : IntKind.u64.wrap ((y : Int) * 4611686018427387904) = ((2 ^ 62 * (y % 4) : Nat) : Int) := by rw [IntKind.wrap_u64]; omega
  rw [e1, e2, or_dn (by omega) (by omega) (by omega)]
theorem rgt2_0 (a : Nat) : bits .or .u64 ((w0 a : Nat) / 4 : Int) (IntKind.u64.wrap ((w1 a : Nat) * 4611686018427387904 : Int)) = (w0 (a / 4) : Nat) := by
  rw [rgt2_or (w_lt a).1]; unfold w0 w1; omega
theorem rgt2_1 (a : Nat) : bits .or .u64 ((w1 a : Nat) / 4 : Int) (IntKind.u64.wrap ((w2 a : Nat) * 4611686018427387904 : Int)) = (w1 (a / 4) : Nat) := by
  rw [rgt2_or (w_lt a).2.1]; unfold w1 w2; omega
theorem rgt2_2 (a : Nat) : bits .or .u64 ((w2 a : Nat) / 4 : Int) (IntKind.u64.wrap ((w3 a : Nat) * 4611686018427387904 : Int)) = (w2 (a / 4) : Nat) := by
  rw [rgt2_or (w_lt a).2.2.1]; unfold w2 w3; omega
theorem rgt2_3 {a : Nat} (h : a < 2 ^ 256) : ((w3 a : Nat) / 4 : Int) = (w3 (a / 4) : Nat) := by
  unfold w3; omega

set_option maxHeartbeats 1000000 in
theorem right2_any {a0 a1 a2 a3 : Int} {a : Nat} (ha : W4 a0 a1 a2 a3 a) (w : World) :
   Calls Try.prog 23 #[.agg #[.int .u64 a0, .int .u64 a1, .int .u64 a2, .int .u64 a3], .int .i64 2] w fun e w' =>
    e = .returned (.agg #[.int .u64 (w0 (a / 4) : Nat), .int .u64 (w1 (a / 4) : Nat), .int .u64 (w2 (a / 4) : Nat), .int .u64 (w3 (a / 4) : Nat)]) ∧ Below w.heap.size w w' := by
  obtain ⟨rfl, rfl, rfl, rfl, la⟩ := ha
  have hla := Lib.hid la
  clear la
  go_enter Try.func23, Try.ntmps23
  go_wp2
  refine wp_loop_rounds 5 ?_
  repeat' (first | (rw [rounds_succ]; go_wp2) | (go_region <;> go_wp2))
  refine bodyPost_ret (v := _) (by simp [results, Try.results23, go_sem]; rfl) rfl ?_
  refine ⟨ret_a4 (rgt2_0 a) (rgt2_1 a) (rgt2_2 a) (rgt2_3 hla.out), ?_⟩
  repeat (first | exact Below.refl _ _ | refine Below.drew ?_ | refine bal ?_ _)
end Go.Proofs.Ytgghopmlcpcpkaa
