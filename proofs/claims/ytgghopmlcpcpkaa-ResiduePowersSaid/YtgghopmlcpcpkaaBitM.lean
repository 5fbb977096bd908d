/- A step of the proof: what a function of the program computes, or a plain law of numbers. -/
import Derived.Test.YtgghopmlcpcpkaaNewF
import Derived.Test.YtgghopmlcpcpkaaSubM
namespace Go.Proofs.Ytgghopmlcpcpkaa
open Go.RowKit PlainK
set_option linter.unusedVariables false
set_option linter.unusedSimpArgs false
theorem bit_word {a i : Nat} (hi : i < 256) (ha : a < 2 ^ 256) : (bits .and .u64 ((wAt a (i / 64) : Nat) / 2 ^ (i % 64) : Int) 1 == 1) = decide (a / 2 ^ i % 2 = 1) := by
  have e : ((wAt a (i / 64) : Nat) / 2 ^ (i % 64) : Int) = ((wAt a (i / 64) / 2 ^ (i % 64) : Nat) : Int) := by
    rw [Int.natCast_ediv, Int.natCast_pow]; rfl
  have hl : wAt a (i / 64) / 2 ^ (i % 64) < 18446744073709551616 := Nat.lt_of_le_of_lt (Nat.div_le_self _ _) (wAt_lt a (i / 64))
  have h := bits_and_u64_nat _ 1 hl (by omega)
  rw [Nat.and_one_is_mod, wAt_bit a i hi ha] at h
  rw [e, show (1 : Int) = ((1 : Nat) : Int) from rfl, h, Bool.eq_iff_iff]
  simp only [beq_iff_eq, decide_eq_true_eq]
  omega
set_option maxHeartbeats 4000000 in
theorem bit_any {a0 a1 a2 a3 : Int} {a i : Nat} (ha : W4 a0 a1 a2 a3 a) (hi : i < 256) (w : World) :
   Calls Try.prog 69 #[.agg #[.int .u64 a0, .int .u64 a1, .int .u64 a2, .int .u64 a3], .int .i64 i] w fun e w' =>
    e = .returned (.bool (decide (a / 2 ^ i % 2 = 1))) ∧ Below w.heap.size w w' := by
  obtain ⟨rfl, rfl, rfl, rfl, la⟩ := ha
  have hla := Lib.hid la
  clear la
  go_enter Try.func69, Try.ntmps69
  go_upto_region 1 with fail
  obtain ⟨V0, hV0⟩ : ∃ V, (w.alloc (.cells #[.int .u64 (w0 (a) : Nat), .int .u64 (w1 (a) : Nat), .int .u64 (w2 (a) : Nat), .int .u64 (w3 (a) : Nat)] 24)) = V := ⟨_, rfl⟩
  rw [hV0]
  have g0 : V0.heap[w.heap.size]? = some (.cells #[.int .u64 (w0 (a) : Nat), .int .u64 (w1 (a) : Nat), .int .u64 (w2 (a) : Nat), .int .u64 (w3 (a) : Nat)] 24 (0, 0)) := by
    rw [← hV0]; simp only [alloc_at, World.size_alloc]; repeat (first | rw [if_pos trivial] | rw [if_pos (by omega)] | rw [if_neg (by omega)])
  have k0 : Below w.heap.size w V0 := by
    rw [← hV0]
    repeat (first | exact Below.refl _ _ | refine Below.drew ?_ | refine bal ?_ _)
  clear hV0
  have hq : i / 64 < 4 := by omega
  have cb := wAt_cell g0 hq
  have h1 : IntKind.i64.wrap ((i : Int).tdiv 64) = ((i / 64 : Nat) : Int) := by rw [show (i : Int).tdiv 64 = ((i / 64 : Nat) : Int) from by rw [Int.tdiv_eq_ediv_of_nonneg (by omega)]; omega]; exact IntWalk.i64_in _ (by omega)
  have h2 : (i : Int).tmod 64 = ((i % 64 : Nat) : Int) := by rw [Int.tmod_eq_emod_of_nonneg (by omega)]; omega
  go_wp2_with fail
  refine bodyPost_ret (v := _) (by simp [results, Try.results69, go_sem]; rfl) rfl ?_
  refine ⟨?_, ?_⟩
  · rw [bit_word hi hla.out]
  · first | exact k0 | exact k0.drew | exact below_drewN k0 _
end Go.Proofs.Ytgghopmlcpcpkaa
