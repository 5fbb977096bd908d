/- A step of the proof: what a function of the program computes, or a plain law of numbers. -/
import Derived.Test.YtgghopmlcpcpkaaWide2
import Derived.Test.YtgghopmlcpcpkaaShelf
namespace Go.Proofs.Ytgghopmlcpcpkaa
open Go.RowKit PlainK
set_option linter.unusedVariables false
set_option linter.unusedSimpArgs false
/-- how many bits -/
def bitsN (a : Nat) : Nat := if 0 < w3 a then 192 + Lib.bitLen (w3 a) else if 0 < w2 a then 128 + Lib.bitLen (w2 a) else if 0 < w1 a then 64 + Lib.bitLen (w1 a) else if 0 < w0 a then Lib.bitLen (w0 a) else 0
theorem len_aux : ∀ (f x : Nat), Lib.bitLenAux f x ≤ f
  | 0, _ => Nat.le_refl _
  | f + 1, x => by
    simp only [Lib.bitLenAux]
    have := len_aux f (x / 2)
    split <;> omega
theorem len_aux2 : ∀ (f x : Nat), x < 2 ^ f → x < 2 ^ Lib.bitLenAux f x
  | 0, x, h => h
  | f + 1, x, h => by
    simp only [Lib.bitLenAux]
    split
    · omega
    · have := len_aux2 f (x / 2) (by rw [Nat.pow_succ] at h; omega)
      rw [Nat.add_comm, Nat.pow_succ]; omega
theorem len_le (x : Nat) : Lib.bitLen x ≤ 64 := len_aux 64 x
theorem len_lt {x : Nat} (h : x < 2 ^ 64) : x < 2 ^ Lib.bitLen x := len_aux2 64 x h
theorem bitsN_le (a : Nat) : bitsN a ≤ 256 := by
  have l0 := len_le (w0 a)
  have l1 := len_le (w1 a)
  have l2 := len_le (w2 a)
  have l3 := len_le (w3 a)
  unfold bitsN
  repeat' (split <;> try omega)
theorem up_lt {x y b k : Nat} (hx : x < 2 ^ b) (hy : y < 2 ^ k) : y + 2 ^ k * x < 2 ^ (k + b) := by
  rw [Nat.pow_add]
  have : 2 ^ k * (x + 1) ≤ 2 ^ k * 2 ^ b := Nat.mul_le_mul (Nat.le_refl _) hx
  rw [Nat.mul_add, Nat.mul_one] at this
  omega
theorem bitsN_lt {a : Nat} (h : a < 2 ^ 256) : a < 2 ^ bitsN a := by
  have e := ofW_w h
  obtain ⟨a0, a1, a2, a3⟩ := w_lt a
  unfold bitsN
  unfold ofW at e
  split
  · have := up_lt (len_lt a3) (show w0 a + 2 ^ 64 * w1 a + 2 ^ 128 * w2 a < 2 ^ 192 by omega)
    omega
  · split
    · have := up_lt (len_lt a2) (show w0 a + 2 ^ 64 * w1 a < 2 ^ 128 by omega)
      omega
    · split
      · have := up_lt (len_lt a1) a0
        omega
      · split
        · have := len_lt a0
          omega
        · omega
set_option maxHeartbeats 1000000 in
theorem bits_any {a0 a1 a2 a3 : Int} {a : Nat} (ha : W4 a0 a1 a2 a3 a) (w : World) :
   Calls Try.prog 68 #[.agg #[.int .u64 a0, .int .u64 a1, .int .u64 a2, .int .u64 a3]] w fun e w' =>
    e = .returned (.int .i64 (bitsN a : Nat)) ∧ Below w.heap.size w w' := by
  obtain ⟨rfl, rfl, rfl, rfl, la⟩ := ha
  obtain ⟨A0, A1, A2, A3⟩ := w_big a
  unfold big at A0 A1 A2 A3
  have l0 := len_le (w0 a)
  have l1 := len_le (w1 a)
  have l2 := len_le (w2 a)
  have l3 := len_le (w3 a)
  clear la
  go_enter Try.func68, Try.ntmps68
  go_wp2_with fail
  refine wp_loop_rounds 5 ?_
  repeat' (first | (rw [rounds_succ]; go_wp2_with fail) | (go_at_call 87; refine (Try.bits_Len64 _ _ (by omega) (by omega)).mono ?_; rintro e w' ⟨rfl, rfl⟩; go_wp2_with fail))
  all_goals
    go_ret
    refine ⟨ret_i ?_, ?_⟩
    · unfold bitsN
      repeat' (split <;> try omega)
    · repeat (first | exact Below.refl _ _ | refine Below.drew ?_ | refine bal ?_ _)

end Go.Proofs.Ytgghopmlcpcpkaa
