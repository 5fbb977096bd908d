/- A step of the proof: what a function of the program computes, or a plain law of numbers. -/
import Derived.Test.YtgghopmlcpcpkaaBase
import Derived.Lib.Hide
namespace Go.Proofs.Ytgghopmlcpcpkaa
open Go.RowKit PlainK
set_option linter.unusedVariables false
set_option linter.unusedSimpArgs false

theorem of_any (x : Int) (w : World) : Calls Try.prog 17 #[.int .u64 x] w fun e w' => e = .returned (.agg #[.int .u64 x, .int .u64 0, .int .u64 0, .int .u64 0]) ∧ Below w.heap.size w w' := by
  go_enter Try.func17, Try.ntmps17
  go_wp2
  refine bodyPost_ret (v := _) (by simp [results, Try.results17, go_sem]) rfl ⟨rfl, ?_⟩
  repeat (first | exact Below.refl _ _ | refine Below.drew ?_ | refine bal ?_ _)

theorem add_bool {a b k : Nat} (ha : a < 2 ^ 256) (hb : b < 2 ^ 256) (h : k = (a + b) / 2 ^ 256) : ((k : Int) == 1) = decide (W256 ≤ a + b) := by
  rw [Bool.eq_iff_iff]; simp only [beq_iff_eq, decide_eq_true_eq]; unfold W256; omega
theorem sub_bool {a b k : Nat} (h : k = if a < b then 1 else 0) : ((k : Int) == 1) = decide (a < b) := by
  rw [Bool.eq_iff_iff]; simp only [beq_iff_eq, decide_eq_true_eq]; split at h <;> omega

theorem add_any {a0 a1 a2 a3 b0 b1 b2 b3 : Int} {a b : Nat} (ha : W4 a0 a1 a2 a3 a) (hb : W4 b0 b1 b2 b3 b) (w : World) :
   Calls Try.prog 24 #[.agg #[.int .u64 a0, .int .u64 a1, .int .u64 a2, .int .u64 a3], .agg #[.int .u64 b0, .int .u64 b1, .int .u64 b2, .int .u64 b3]] w fun e w' =>
    e = .returned (.tuple #[.agg #[.int .u64 (w0 (addm a b) : Nat), .int .u64 (w1 (addm a b) : Nat), .int .u64 (w2 (addm a b) : Nat), .int .u64 (w3 (addm a b) : Nat)], .bool (decide (W256 ≤ a + b))]) ∧ Below w.heap.size w w' := by
  obtain ⟨rfl, rfl, rfl, rfl, la⟩ := ha
  obtain ⟨rfl, rfl, rfl, rfl, lb⟩ := hb
  obtain ⟨A0, A1, A2, A3⟩ := w_big a
  obtain ⟨B0, B1, B2, B3⟩ := w_big b
  obtain ⟨f0, f1, f2, f3, f4⟩ := add_words la lb
  have f5 := Lib.hid (add_bool la lb f4)
  have k0 := c64_le A0 B0 (Nat.zero_le 1)
  have k1 := c64_le A1 B1 k0
  have k2 := c64_le A2 B2 k1
  have r0 := add64_run0 (w0 a) (w0 b)
  have r1 := add64_run (w1 a) (w1 b) _ k0
  have r2 := add64_run (w2 a) (w2 b) _ k1
  have r3 := add64_run (w3 a) (w3 b) _ k2
  have g0 := Lib.hid f0
  have g1 := Lib.hid f1
  have g2 := Lib.hid f2
  have g3 := Lib.hid f3
  clear f0 f1 f2 f3 f4 k0 k1 k2 A0 A1 A2 A3 B0 B1 B2 B3 la lb
  go_enter Try.func24, Try.ntmps24
  go_wp2
  refine wp_loop_rounds 5 ?_
  iterate 4 (rw [rounds_succ]; go_wp2; go_region; go_wp2)
  rw [rounds_succ]
  go_wp2
  refine bodyPost_ret (v := _) (by simp [results, Try.results24, go_sem]; rfl) rfl ⟨?_, ?_⟩
  · rw [← g0.out, ← g1.out, ← g2.out, ← g3.out, ← f5.out]
  · repeat (first | exact Below.refl _ _ | refine Below.drew ?_ | refine bal ?_ _)

theorem sub_any {a0 a1 a2 a3 b0 b1 b2 b3 : Int} {a b : Nat} (ha : W4 a0 a1 a2 a3 a) (hb : W4 b0 b1 b2 b3 b) (w : World) :
   Calls Try.prog 31 #[.agg #[.int .u64 a0, .int .u64 a1, .int .u64 a2, .int .u64 a3], .agg #[.int .u64 b0, .int .u64 b1, .int .u64 b2, .int .u64 b3]] w fun e w' =>
    e = .returned (.tuple #[.agg #[.int .u64 (w0 (subm a b) : Nat), .int .u64 (w1 (subm a b) : Nat), .int .u64 (w2 (subm a b) : Nat), .int .u64 (w3 (subm a b) : Nat)], .bool (decide (a < b))]) ∧ Below w.heap.size w w' := by
  obtain ⟨rfl, rfl, rfl, rfl, la⟩ := ha
  obtain ⟨rfl, rfl, rfl, rfl, lb⟩ := hb
  obtain ⟨f0, f1, f2, f3, f4⟩ := sub_words la lb
  have f5 := Lib.hid (sub_bool f4)
  have r0 := sub64_run0 (w0 a) (w0 b)
  have r1 := sub64_run (w1 a) (w1 b) _ (b64_le (w0 a) (w0 b) 0)
  have r2 := sub64_run (w2 a) (w2 b) _ (b64_le (w1 a) (w1 b) (b64 (w0 a) (w0 b) 0))
  have r3 := sub64_run (w3 a) (w3 b) _ (b64_le (w2 a) (w2 b) (b64 (w1 a) (w1 b) (b64 (w0 a) (w0 b) 0)))
  have g0 := Lib.hid f0
  have g1 := Lib.hid f1
  have g2 := Lib.hid f2
  have g3 := Lib.hid f3
  clear f0 f1 f2 f3 f4 la lb
  go_enter Try.func31, Try.ntmps31
  go_wp2
  refine wp_loop_rounds 5 ?_
  iterate 4 (rw [rounds_succ]; go_wp2; go_region; go_wp2)
  rw [rounds_succ]
  go_wp2
  refine bodyPost_ret (v := _) (by simp [results, Try.results31, go_sem]; rfl) rfl ⟨?_, ?_⟩
  · rw [← g0.out, ← g1.out, ← g2.out, ← g3.out, ← f5.out]
  · repeat (first | exact Below.refl _ _ | refine Below.drew ?_ | refine bal ?_ _)
end Go.Proofs.Ytgghopmlcpcpkaa
