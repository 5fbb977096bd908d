/- A step of the proof: what a function of the program computes, or a plain law of numbers. -/
import Derived.Test.YtgghopmlcpcpkaaLivesM
namespace Go.Proofs.Ytgghopmlcpcpkaa
open Go.RowKit PlainK
set_option linter.unusedVariables false
set_option linter.unusedSimpArgs false
def mulm (m a b : Nat) : Nat := a * b % m
def addf (m a b : Nat) : Nat := (a + b) % m
def subf (m a b : Nat) : Nat := (a % m + (m - b % m)) % m
def redm (m a : Nat) : Nat := a % m
def powm (m a n : Nat) : Nat := a ^ n % m
theorem mulG_any {a0 a1 a2 a3 b0 b1 b2 b3 : Int} {a b m g : Nat} (ha : W4 a0 a1 a2 a3 a) (hb : W4 b0 b1 b2 b3 b) (w : World) (hF : IsF w g m) :
   Calls Try.prog 26 #[.pointer (some ⟨g, 0, none⟩), .agg #[.int .u64 a0, .int .u64 a1, .int .u64 a2, .int .u64 a3], .agg #[.int .u64 b0, .int .u64 b1, .int .u64 b2, .int .u64 b3]] w fun e w' => e = .returned (.agg #[.int .u64 (w0 (mulm m a b) : Nat), .int .u64 (w1 (mulm m a b) : Nat), .int .u64 (w2 (mulm m a b) : Nat), .int .u64 (w3 (mulm m a b) : Nat)]) ∧ Below w.heap.size w w' := mulF_any ha hb w hF
theorem addG_any {a0 a1 a2 a3 b0 b1 b2 b3 : Int} {a b m g : Nat} (ha : W4 a0 a1 a2 a3 a) (hb : W4 b0 b1 b2 b3 b) (w : World) (hF : IsF w g m) :
   Calls Try.prog 32 #[.pointer (some ⟨g, 0, none⟩), .agg #[.int .u64 a0, .int .u64 a1, .int .u64 a2, .int .u64 a3], .agg #[.int .u64 b0, .int .u64 b1, .int .u64 b2, .int .u64 b3]] w fun e w' => e = .returned (.agg #[.int .u64 (w0 (addf m a b) : Nat), .int .u64 (w1 (addf m a b) : Nat), .int .u64 (w2 (addf m a b) : Nat), .int .u64 (w3 (addf m a b) : Nat)]) ∧ Below w.heap.size w w' := addF_any ha hb w hF
theorem subG_any {a0 a1 a2 a3 b0 b1 b2 b3 : Int} {a b m g : Nat} (ha : W4 a0 a1 a2 a3 a) (hb : W4 b0 b1 b2 b3 b) (w : World) (hF : IsF w g m) :
   Calls Try.prog 33 #[.pointer (some ⟨g, 0, none⟩), .agg #[.int .u64 a0, .int .u64 a1, .int .u64 a2, .int .u64 a3], .agg #[.int .u64 b0, .int .u64 b1, .int .u64 b2, .int .u64 b3]] w fun e w' => e = .returned (.agg #[.int .u64 (w0 (subf m a b) : Nat), .int .u64 (w1 (subf m a b) : Nat), .int .u64 (w2 (subf m a b) : Nat), .int .u64 (w3 (subf m a b) : Nat)]) ∧ Below w.heap.size w w' := subF_any ha hb w hF
theorem powG_any {a0 a1 a2 a3 b0 b1 b2 b3 : Int} {a b m g : Nat} (ha : W4 a0 a1 a2 a3 a) (hb : W4 b0 b1 b2 b3 b) (w : World) (hF : IsF w g m) :
   Calls Try.prog 25 #[.pointer (some ⟨g, 0, none⟩), .agg #[.int .u64 a0, .int .u64 a1, .int .u64 a2, .int .u64 a3], .agg #[.int .u64 b0, .int .u64 b1, .int .u64 b2, .int .u64 b3]] w fun e w' => e = .returned (.agg #[.int .u64 (w0 (powm m a b) : Nat), .int .u64 (w1 (powm m a b) : Nat), .int .u64 (w2 (powm m a b) : Nat), .int .u64 (w3 (powm m a b) : Nat)]) ∧ Below w.heap.size w w' := pow_any ha hb w hF
theorem redG_any {a0 a1 a2 a3 : Int} {a m g : Nat} (ha : W4 a0 a1 a2 a3 a) (w : World) (hF : IsF w g m) :
   Calls Try.prog 19 #[.pointer (some ⟨g, 0, none⟩), .agg #[.int .u64 a0, .int .u64 a1, .int .u64 a2, .int .u64 a3]] w fun e w' => e = .returned (.agg #[.int .u64 (w0 (redm m a) : Nat), .int .u64 (w1 (redm m a) : Nat), .int .u64 (w2 (redm m a) : Nat), .int .u64 (w3 (redm m a) : Nat)]) ∧ Below w.heap.size w w' := reduce_any ha w hF.toM
theorem eqlG {a b : Nat} (ha : a < 2 ^ 256) (hb : b < 2 ^ 256) (h : a = b) (w : World) :
    (binOp .eql 24 (.agg #[.int .u64 (w0 (a) : Nat), .int .u64 (w1 (a) : Nat), .int .u64 (w2 (a) : Nat), .int .u64 (w3 (a) : Nat)]) (.agg #[.int .u64 (w0 (b) : Nat), .int .u64 (w1 (b) : Nat), .int .u64 (w2 (b) : Nat), .int .u64 (w3 (b) : Nat)])).run Try.prog w = .ok (.bool true) w := eql_t (W4.mk' ha) (W4.mk' hb) h w
theorem eqlGn {a b : Nat} (ha : a < 2 ^ 256) (hb : b < 2 ^ 256) (h : a ≠ b) (w : World) :
    (binOp .eql 24 (.agg #[.int .u64 (w0 (a) : Nat), .int .u64 (w1 (a) : Nat), .int .u64 (w2 (a) : Nat), .int .u64 (w3 (a) : Nat)]) (.agg #[.int .u64 (w0 (b) : Nat), .int .u64 (w1 (b) : Nat), .int .u64 (w2 (b) : Nat), .int .u64 (w3 (b) : Nat)])).run Try.prog w = .ok (.bool false) w := eql_f (W4.mk' ha) (W4.mk' hb) h w
/-! the rules -/
theorem rule1 (m a b c : Nat) : mulm m (addf m a b) c = addf m (mulm m a c) (mulm m b c) := by
  unfold mulm addf
  rw [Nat.mod_mul_mod, ← Nat.add_mod, Nat.add_mul]
theorem rule2 (m a b c : Nat) : mulm m (mulm m a b) c = mulm m a (mulm m b c) := by
  unfold mulm
  rw [Nat.mod_mul_mod, Nat.mul_mod_mod, Nat.mul_assoc]
theorem rule3 (m a b : Nat) : mulm m a b = mulm m b a := by unfold mulm; rw [Nat.mul_comm]
theorem subf_key {m x b : Nat} (hm : 0 < m) : (x + b % m + (m - b % m)) % m = x % m := by
  have := Nat.mod_lt b hm
  rw [show x + b % m + (m - b % m) = x + m by omega, Nat.add_mod_right]
theorem rule4 {m : Nat} (hm : 0 < m) (a b : Nat) : subf m (addf m a b) b = redm m a := by
  unfold subf addf redm
  rw [Nat.mod_mod, show (a + b) % m = (a + b % m) % m from (Nat.add_mod_mod a b m).symm, Nat.mod_add_mod, subf_key hm]
theorem rule5 {m : Nat} (hm : 0 < m) (a b : Nat) : addf m (subf m a b) b = redm m a := by
  unfold subf addf redm
  rw [Nat.mod_add_mod, ← Nat.add_mod_mod, show a % m + (m - b % m) + b % m = a % m + b % m + (m - b % m) by omega, subf_key hm, Nat.mod_mod]
end Go.Proofs.Ytgghopmlcpcpkaa
