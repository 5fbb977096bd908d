/- A step of the proof: what a function of the program computes, or a plain law of numbers. -/
import Derived.Test.YtgghopmlcpcpkaaWide1
import Derived.BigQuiet
import Derived.Deep.QuietTactic
namespace Go.Proofs.Ytgghopmlcpcpkaa
open Go.RowKit PlainK
set_option linter.unusedVariables false
set_option linter.unusedSimpArgs false

def cmpI (a b : Nat) : Int := if a < b then -1 else if b < a then 1 else 0
theorem ret_i {k : IntKind} {a b : Int} (h : a = b) : Ending.returned (.int k a) = .returned (.int k b) := by rw [h]
theorem cmp_lt {a b : Nat} (la : a < 2 ^ 256) (lb : b < 2 ^ 256) (h : w3 a < w3 b ∨ w3 a = w3 b ∧ (w2 a < w2 b ∨ w2 a = w2 b ∧ (w1 a < w1 b ∨ w1 a = w1 b ∧ w0 a < w0 b))) : a < b := by
  have ea := ofW_w la
  have eb := ofW_w lb
  obtain ⟨a0, a1, a2, a3⟩ := w_lt a
  obtain ⟨b0, b1, b2, b3⟩ := w_lt b
  unfold ofW at ea eb
  omega
theorem cmp_eq {a b : Nat} (la : a < 2 ^ 256) (lb : b < 2 ^ 256) (h3 : w3 a = w3 b) (h2 : w2 a = w2 b) (h1 : w1 a = w1 b) (h0 : w0 a = w0 b) : a = b := by
  rw [← ofW_w la, ← ofW_w lb, h0, h1, h2, h3]
theorem cmp_m {a b : Nat} (h : a < b) : cmpI a b = -1 := by unfold cmpI; rw [if_pos h]
theorem cmp_p {a b : Nat} (h : b < a) : cmpI a b = 1 := by unfold cmpI; rw [if_neg (by omega), if_pos h]
theorem cmp_z {a b : Nat} (h : a = b) : cmpI a b = 0 := by unfold cmpI; rw [if_neg (by omega), if_neg (by omega)]

set_option maxHeartbeats 1000000 in
theorem cmp_any {a0 a1 a2 a3 b0 b1 b2 b3 : Int} {a b : Nat} (ha : W4 a0 a1 a2 a3 a) (hb : W4 b0 b1 b2 b3 b) (w : World) :
   Calls Try.prog 50 #[.agg #[.int .u64 a0, .int .u64 a1, .int .u64 a2, .int .u64 a3], .agg #[.int .u64 b0, .int .u64 b1, .int .u64 b2, .int .u64 b3]] w fun e w' =>
    e = .returned (.int .i64 (cmpI a b)) ∧ Below w.heap.size w w' := by
  obtain ⟨rfl, rfl, rfl, rfl, la⟩ := ha
  obtain ⟨rfl, rfl, rfl, rfl, lb⟩ := hb
  have hla := Lib.hid la
  have hlb := Lib.hid lb
  clear la lb
  go_enter Try.func50, Try.ntmps50
  go_wp2
  refine wp_loop_rounds 5 ?_
  repeat' (first | (rw [rounds_succ]; go_wp2) | (go_region <;> go_wp2))
  all_goals
    go_ret
    refine ⟨ret_i (Eq.symm ?_), ?_⟩
    · first | exact cmp_m (cmp_lt hla.out hlb.out (by omega)) | exact cmp_p (cmp_lt hlb.out hla.out (by omega)) | exact cmp_z (cmp_eq hla.out hlb.out (by omega) (by omega) (by omega) (by omega))
    · repeat (first | exact Below.refl _ _ | refine Below.drew ?_ | refine bal ?_ _)
end Go.Proofs.Ytgghopmlcpcpkaa
