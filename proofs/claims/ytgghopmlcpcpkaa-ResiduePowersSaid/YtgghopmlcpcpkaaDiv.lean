/- A step of the proof: what a function of the program computes, or a plain law of numbers. -/
import Derived.Test.YtgghopmlcpcpkaaArrEq
namespace Go.Proofs.Ytgghopmlcpcpkaa
open Go.RowKit PlainK
set_option linter.unusedVariables false
set_option linter.unusedSimpArgs false
def wAt (a i : Nat) : Nat := if i = 0 then w0 a else if i = 1 then w1 a else if i = 2 then w2 a else w3 a
theorem wAt_cell {V : World} {g : Nat} {t : TypeId} {a i : Nat} (h : V.heap[g]? = some (.cells #[.int .u64 (w0 a : Nat), .int .u64 (w1 a : Nat), .int .u64 (w2 a : Nat), .int .u64 (w3 a : Nat)] t (0, 0))) (hi : i < 4) : V.cell? ⟨g, i, none⟩ = some (.int .u64 (wAt a i : Nat)) := by
  rw [cell_of_row _ _ _ _ _ _ h]
  have : i = 0 ∨ i = 1 ∨ i = 2 ∨ i = 3 := by omega
  rcases this with e | e | e | e <;> subst e <;> rfl
theorem wAt_lt (a i : Nat) : wAt a i < 18446744073709551616 := by
  have := w_lt a
  unfold wAt
  repeat' (split <;> try omega)
theorem mod_bit64 (x s : Nat) (hs : s < 64) : x % 18446744073709551616 / 2 ^ s % 2 = x / 2 ^ s % 2 := by
  have h := Nat.testBit_mod_two_pow x 64 s
  rw [Nat.testBit_eq_decide_div_mod_eq, Nat.testBit_eq_decide_div_mod_eq] at h
  simp only [hs, decide_true, Bool.true_and, decide_eq_decide] at h
  have h' : (x % 18446744073709551616 / 2 ^ s % 2 = 1 ↔ x / 2 ^ s % 2 = 1) := h
  omega
theorem wAt_bit (a j : Nat) (hj : j < 256) (ha : a < 2 ^ 256) : wAt a (j / 64) / 2 ^ (j % 64) % 2 = a / 2 ^ j % 2 := by
  have e : wAt a (j / 64) = a / 2 ^ (64 * (j / 64)) % 18446744073709551616 := by
    have : j / 64 = 0 ∨ j / 64 = 1 ∨ j / 64 = 2 ∨ j / 64 = 3 := by omega
    rcases this with e | e | e | e <;> rw [e]
    · show w0 a = _; unfold w0; omega
    · show w1 a = _; unfold w1; omega
    · show w2 a = _; unfold w2; omega
    · show w3 a = _; unfold w3; omega
  rw [e, mod_bit64 _ _ (by omega), Nat.div_div_eq_div_mul, ← Nat.pow_add, show 64 * (j / 64) + j % 64 = j by omega]
theorem div_val (a r j qi si : Nat) (hqi : (j : Int) / 64 = (qi : Nat)) (hsi : (j : Int) % 64 = (si : Nat)) (hj : j < 256) (ha : a < 2 ^ 256) : bits .or .u64 (w0 (lft r) : Nat) (bits .and .u64 ((wAt a qi : Nat) / 2 ^ si) 1) = (w0 (lft r + a / 2 ^ j % 2) : Nat) := by
  obtain rfl : qi = j / 64 := by omega
  obtain rfl : si = j % 64 := by omega
  have hw := wAt_lt a (j / 64)
  have e1 : ((wAt a (j / 64) : Nat) / 2 ^ (j % 64) : Int) = ((wAt a (j / 64) / 2 ^ (j % 64) : Nat) : Int) := by simp
  have hle : wAt a (j / 64) / 2 ^ (j % 64) ≤ wAt a (j / 64) := Nat.div_le_self _ _
  have e2 := bits_and_u64_nat (wAt a (j / 64) / 2 ^ (j % 64)) 1 (by omega) (by omega)
  rw [e1]
  rw [show ((1 : Nat) : Int) = 1 from rfl] at e2
  rw [e2, Nat.and_one_is_mod, wAt_bit a j hj ha]
  have hbit : a / 2 ^ j % 2 < 2 := Nat.mod_lt _ (by decide)
  have e3 : w0 (lft r) = 2 ^ 1 * (w0 (lft r) / 2) := by unfold w0 lft; omega
  have hl := (w_lt (lft r)).1
  rw [e3, or_up (by omega) (by omega) (by omega), ← e3]
  unfold w0 lft; omega
theorem lft_bit (r b : Nat) (hb : b < 2) : w1 (lft r + b) = w1 (lft r) ∧ w2 (lft r + b) = w2 (lft r) ∧ w3 (lft r + b) = w3 (lft r) ∧ lft r + b < 2 ^ 256 := by
  unfold w1 w2 w3 lft; omega
theorem high_bit {r : Nat} (h : r < 2 ^ 256) : ((w3 r : Nat) / 9223372036854775808 == (1 : Int)) = decide (2 ^ 255 ≤ r) := by
  rw [Bool.eq_iff_iff]; simp only [beq_iff_eq, decide_eq_true_eq]; unfold w3; omega
theorem div_fin {a b j r r' : Nat} (hb : b < 2 ^ 256) (hz : b ≠ 0) (hr : a / 2 ^ (j + 1) % b = r) (hrr : lft r + a / 2 ^ j % 2 = r') :
    (if 2 ^ 255 ≤ r ∨ b ≤ r' then subm r' b else r') = a / 2 ^ j % b := by
  have h1 := div_step (rest := r) (b := b) (bit := a / 2 ^ j % 2) (by rw [← hr]; exact Nat.mod_lt _ (Nat.pos_of_ne_zero hz)) hb (Nat.mod_lt _ (by decide))
  have h2 := mod_bit a b j
  rw [hr] at h2
  rw [← hrr]
  unfold subm lft
  rw [h1, h2]
theorem q_at {V : World} {g : Nat} {t : TypeId} {q0 q1 q2 q3 : Int} {i : Nat} (h : V.heap[g]? = some (.cells #[.int .u64 q0, .int .u64 q1, .int .u64 q2, .int .u64 q3] t (0, 0))) (hi : i < 4) : ∃ qv : Int, V.cell? ⟨g, i, none⟩ = some (.int .u64 qv) := by
  rw [cell_of_row _ _ _ _ _ _ h]
  have : i = 0 ∨ i = 1 ∨ i = 2 ∨ i = 3 := by omega
  rcases this with e | e | e | e <;> subst e <;> exact ⟨_, rfl⟩
theorem q_set {q0 q1 q2 q3 v : Int} {i : Nat} (hi : i < 4) : ∃ p0 p1 p2 p3 : Int, (#[.int .u64 q0, .int .u64 q1, .int .u64 q2, .int .u64 q3] : Array Value).setIfInBounds i (.int .u64 v) = #[.int .u64 p0, .int .u64 p1, .int .u64 p2, .int .u64 p3] := by
  have : i = 0 ∨ i = 1 ∨ i = 2 ∨ i = 3 := by omega
  rcases this with e | e | e | e <;> subst e <;> exact ⟨_, _, _, _, rfl⟩
set_option maxRecDepth 100000 in
set_option maxHeartbeats 1000000 in
theorem div_any {a0 a1 a2 a3 b0 b1 b2 b3 : Int} {a b : Nat} (ha : W4 a0 a1 a2 a3 a) (hb : W4 b0 b1 b2 b3 b) (hz : b ≠ 0) (w : World) :
   Calls Try.prog 62 #[.agg #[.int .u64 a0, .int .u64 a1, .int .u64 a2, .int .u64 a3], .agg #[.int .u64 b0, .int .u64 b1, .int .u64 b2, .int .u64 b3]] w fun e w' =>
    ∃ q0 q1 q2 q3 : Int, e = .returned (.tuple #[.agg #[.int .u64 q0, .int .u64 q1, .int .u64 q2, .int .u64 q3], .agg #[.int .u64 (w0 (a % b) : Nat), .int .u64 (w1 (a % b) : Nat), .int .u64 (w2 (a % b) : Nat), .int .u64 (w3 (a % b) : Nat)], .int .i64 0]) ∧ Below w.heap.size w w' := by
  obtain ⟨rfl, rfl, rfl, rfl, la⟩ := ha
  obtain ⟨rfl, rfl, rfl, rfl, lb⟩ := hb
  have hq := eql_f (W4.mk' lb) W4.zero hz
  have hla := Lib.hid la
  have hlb := Lib.hid lb
  have hz2 := Lib.hid hz
  clear la lb hz
  go_enter Try.func62, Try.ntmps62
  go_wp2_with fail
  refine (bits_any (W4.mk' hla.out) _).mono ?_
  rintro e V1 ⟨rfl, hb1⟩
  have hn := bitsN_le a
  have g0 : V1.heap[w.heap.size + 0]? = some (.cells #[.int .u64 (w0 a : Nat), .int .u64 (w1 a : Nat), .int .u64 (w2 a : Nat), .int .u64 (w3 a : Nat)] 24 (0, 0)) := by
    rw [hb1.block _ (by simp only [World.size_alloc]; omega)]; simp only [alloc_at, World.size_alloc]; repeat (first | rw [if_pos trivial] | rw [if_pos (by omega)] | rw [if_neg (by omega)])
  have g1 : V1.heap[w.heap.size + 1]? = some (.cells #[.int .u64 (w0 b : Nat), .int .u64 (w1 b : Nat), .int .u64 (w2 b : Nat), .int .u64 (w3 b : Nat)] 24 (0, 0)) := by
    rw [hb1.block _ (by simp only [World.size_alloc]; omega)]; simp only [alloc_at, World.size_alloc]; repeat (first | rw [if_pos trivial] | rw [if_pos (by omega)] | rw [if_neg (by omega)])
  have g2 : V1.heap[w.heap.size + 2]? = some (.cells #[.int .u64 0, .int .u64 0, .int .u64 0, .int .u64 0] 24 (0, 0)) := by
    rw [hb1.block _ (by simp only [World.size_alloc]; omega)]; simp only [alloc_at, World.size_alloc]; repeat (first | rw [if_pos trivial] | rw [if_pos (by omega)] | rw [if_neg (by omega)])
  have g3 : V1.heap[w.heap.size + 3]? = some (.cells #[.int .u64 0, .int .u64 0, .int .u64 0, .int .u64 0] 24 (0, 0)) := by
    rw [hb1.block _ (by simp only [World.size_alloc]; omega)]; simp only [alloc_at, World.size_alloc]; repeat (first | rw [if_pos trivial] | rw [if_pos (by omega)] | rw [if_neg (by omega)])
  have g4 : V1.heap[w.heap.size + 4]? = some (.cells #[.int .u64 0, .int .u64 0, .int .u64 0, .int .u64 0] 24 (0, 0)) := by
    rw [hb1.block _ (by simp only [World.size_alloc]; omega)]; simp only [alloc_at, World.size_alloc]; repeat (first | rw [if_pos trivial] | rw [if_pos (by omega)] | rw [if_neg (by omega)])
  have g5 : V1.heap[w.heap.size + 5]? = some (.cells #[.int .u64 0, .int .u64 0, .int .u64 0, .int .u64 0] 24 (0, 0)) := by
    rw [hb1.block _ (by simp only [World.size_alloc]; omega)]; simp only [alloc_at, World.size_alloc]; repeat (first | rw [if_pos trivial] | rw [if_pos (by omega)] | rw [if_neg (by omega)])
  have gs : w.heap.size + 6 ≤ V1.heap.size := by have := hb1.size; simp only [World.size_alloc] at this; omega
  have hbw : Below w.heap.size w V1 := bcl (by repeat (first | exact Below.refl _ _ | refine Below.drew ?_ | refine bal ?_ _)) hb1
  clear hb1
  go_wp2_with fail
  go_loopw [9] (fun i wr => ∃ (z : Int) (k : Nat), (k : Int) = z + 1 ∧ k ≤ 256 ∧ i = .int .i64 z ∧ (∃ q0 q1 q2 q3 : Int, wr.heap[w.heap.size + 4]? = some (.cells #[.int .u64 q0, .int .u64 q1, .int .u64 q2, .int .u64 q3] 24 (0, 0))) ∧
      wr.heap[w.heap.size + 5]? = some (.cells #[.int .u64 (w0 (a / 2 ^ k % b) : Nat), .int .u64 (w1 (a / 2 ^ k % b) : Nat), .int .u64 (w2 (a / 2 ^ k % b) : Nat), .int .u64 (w3 (a / 2 ^ k % b) : Nat)] 24 (0, 0)) ∧
      Below (w.heap.size + 4) V1 wr ∧ w.heap.size + 5 < wr.heap.size) (fun i wr => (intOf i + 1).toNat)
  case atStart =>
    have e0 : a / 2 ^ bitsN a % b = 0 := by rw [Nat.div_eq_of_lt (bitsN_lt hla.out), Nat.zero_mod]
    refine ⟨(bitsN a : Int) - 1, bitsN a, by omega, hn, rfl, ⟨0, 0, 0, 0, g4⟩, ?_, Below.refl _ _, by omega⟩
    rw [e0]; exact g5
  case round =>
    obtain ⟨z, k, hk, hk2, rfl, ⟨q0, q1, q2, q3, hq⟩, hr, hbl, hsz⟩ := hrel
    have haa := (hbl.block (w.heap.size) (by omega)).trans g0
    have hbb := (hbl.block (w.heap.size + 1) (by omega)).trans g1
    rcases (show z = -1 ∨ 0 ≤ z by omega) with hz | hz
    · subst hz
      obtain rfl : k = 0 := by omega
      rw [Nat.pow_zero, Nat.div_one] at hr
      have h2 := (hbl.block (w.heap.size + 2) (by omega)).trans g2
      have h3 := (hbl.block (w.heap.size + 3) (by omega)).trans g3
      clear hk hk2 haa hbb
      have c0 : wr.cell? ⟨w.heap.size + 5, 0, none⟩ = some (.int .u64 (w0 (a % b) : Nat)) := by rw [cell_of_row _ _ _ _ _ _ hr]; rfl
      have c1 : wr.cell? ⟨w.heap.size + 5, 1, none⟩ = some (.int .u64 (w1 (a % b) : Nat)) := by rw [cell_of_row _ _ _ _ _ _ hr]; rfl
      have c2 : wr.cell? ⟨w.heap.size + 5, 2, none⟩ = some (.int .u64 (w2 (a % b) : Nat)) := by rw [cell_of_row _ _ _ _ _ _ hr]; rfl
      have c3 : wr.cell? ⟨w.heap.size + 5, 3, none⟩ = some (.int .u64 (w3 (a % b) : Nat)) := by rw [cell_of_row _ _ _ _ _ _ hr]; rfl
      have d0 : wr.cell? ⟨w.heap.size + 4, 0, none⟩ = some (.int .u64 q0) := by rw [cell_of_row _ _ _ _ _ _ hq]; rfl
      have d1 : wr.cell? ⟨w.heap.size + 4, 1, none⟩ = some (.int .u64 q1) := by rw [cell_of_row _ _ _ _ _ _ hq]; rfl
      have d2 : wr.cell? ⟨w.heap.size + 4, 2, none⟩ = some (.int .u64 q2) := by rw [cell_of_row _ _ _ _ _ _ hq]; rfl
      have d3 : wr.cell? ⟨w.heap.size + 4, 3, none⟩ = some (.int .u64 q3) := by rw [cell_of_row _ _ _ _ _ _ hq]; rfl
      have e20 : wr.cell? ⟨w.heap.size + 2, 0, none⟩ = some (.int .u64 0) := by rw [cell_of_row _ _ _ _ _ _ h2]; rfl
      have f20 := frozen_of_row _ _ 0 _ _ h2
      have e21 : wr.cell? ⟨w.heap.size + 2, 1, none⟩ = some (.int .u64 0) := by rw [cell_of_row _ _ _ _ _ _ h2]; rfl
      have f21 := frozen_of_row _ _ 1 _ _ h2
      have e22 : wr.cell? ⟨w.heap.size + 2, 2, none⟩ = some (.int .u64 0) := by rw [cell_of_row _ _ _ _ _ _ h2]; rfl
      have f22 := frozen_of_row _ _ 2 _ _ h2
      have e23 : wr.cell? ⟨w.heap.size + 2, 3, none⟩ = some (.int .u64 0) := by rw [cell_of_row _ _ _ _ _ _ h2]; rfl
      have f23 := frozen_of_row _ _ 3 _ _ h2
      have e30 : wr.cell? ⟨w.heap.size + 3, 0, none⟩ = some (.int .u64 0) := by rw [cell_of_row _ _ _ _ _ _ h3]; rfl
      have f30 := frozen_of_row _ _ 0 _ _ h3
      have e31 : wr.cell? ⟨w.heap.size + 3, 1, none⟩ = some (.int .u64 0) := by rw [cell_of_row _ _ _ _ _ _ h3]; rfl
      have f31 := frozen_of_row _ _ 1 _ _ h3
      have e32 : wr.cell? ⟨w.heap.size + 3, 2, none⟩ = some (.int .u64 0) := by rw [cell_of_row _ _ _ _ _ _ h3]; rfl
      have f32 := frozen_of_row _ _ 2 _ _ h3
      have e33 : wr.cell? ⟨w.heap.size + 3, 3, none⟩ = some (.int .u64 0) := by rw [cell_of_row _ _ _ _ _ _ h3]; rfl
      have f33 := frozen_of_row _ _ 3 _ _ h3
      go_wp2_with fail
      go_region
      go_wp2_with fail
      have hp2 := put4 (.int .u64 q0) (.int .u64 q1) (.int .u64 q2) (.int .u64 q3) h2
      have hp3 := put4 (.int .u64 (w0 (a % b) : Nat)) (.int .u64 (w1 (a % b) : Nat)) (.int .u64 (w2 (a % b) : Nat)) (.int .u64 (w3 (a % b) : Nat)) ((hp2.there (w.heap.size + 3) (by omega)).trans h3)
      obtain ⟨V9, hV9⟩ : ∃ V, (World.setCell (World.setCell (World.setCell (World.setCell (World.setCell (World.setCell (World.setCell (World.setCell wr ⟨w.heap.size + 2, 0, none⟩ (.int .u64 q0)) ⟨w.heap.size + 2, 1, none⟩ (.int .u64 q1)) ⟨w.heap.size + 2, 2, none⟩ (.int .u64 q2)) ⟨w.heap.size + 2, 3, none⟩ (.int .u64 q3)) ⟨w.heap.size + 3, 0, none⟩ (.int .u64 (w0 (a % b) : Nat))) ⟨w.heap.size + 3, 1, none⟩ (.int .u64 (w1 (a % b) : Nat))) ⟨w.heap.size + 3, 2, none⟩ (.int .u64 (w2 (a % b) : Nat))) ⟨w.heap.size + 3, 3, none⟩ (.int .u64 (w3 (a % b) : Nat))) = V := ⟨_, rfl⟩
      rw [hV9] at hp3 ⊢
      have k3 := hp3.here
      have k2 := (hp3.there (w.heap.size + 2) (by omega)).trans hp2.here
      have k9 := hp3.below (by omega) (hp2.below (by omega) (hbw.trans (hbl.mono (by omega))))
      have u0 : V9.cell? ⟨w.heap.size + 2, 0, none⟩ = some (.int .u64 q0) := by rw [cell_of_row _ _ _ _ _ _ k2]; rfl
      have u1 : V9.cell? ⟨w.heap.size + 2, 1, none⟩ = some (.int .u64 q1) := by rw [cell_of_row _ _ _ _ _ _ k2]; rfl
      have u2 : V9.cell? ⟨w.heap.size + 2, 2, none⟩ = some (.int .u64 q2) := by rw [cell_of_row _ _ _ _ _ _ k2]; rfl
      have u3 : V9.cell? ⟨w.heap.size + 2, 3, none⟩ = some (.int .u64 q3) := by rw [cell_of_row _ _ _ _ _ _ k2]; rfl
      have v0 : V9.cell? ⟨w.heap.size + 3, 0, none⟩ = some (.int .u64 (w0 (a % b) : Nat)) := by rw [cell_of_row _ _ _ _ _ _ k3]; rfl
      have v1 : V9.cell? ⟨w.heap.size + 3, 1, none⟩ = some (.int .u64 (w1 (a % b) : Nat)) := by rw [cell_of_row _ _ _ _ _ _ k3]; rfl
      have v2 : V9.cell? ⟨w.heap.size + 3, 2, none⟩ = some (.int .u64 (w2 (a % b) : Nat)) := by rw [cell_of_row _ _ _ _ _ _ k3]; rfl
      have v3 : V9.cell? ⟨w.heap.size + 3, 3, none⟩ = some (.int .u64 (w3 (a % b) : Nat)) := by rw [cell_of_row _ _ _ _ _ _ k3]; rfl
      refine bodyPost_ret (v := _) (by simp [results, Try.results62, go_sem, u0, u1, u2, u3, v0, v1, v2, v3]; rfl) rfl ?_
      exact ⟨q0, q1, q2, q3, rfl, k9.drew⟩
    · obtain ⟨j, rfl⟩ := Int.eq_ofNat_of_zero_le hz
      obtain rfl : k = j + 1 := by omega
      have hj : j < 256 := by omega
      clear hk hk2 hz
      obtain ⟨qi, hqi⟩ : ∃ qi : Nat, (j : Int) / 64 = (qi : Nat) := ⟨j / 64, by omega⟩
      obtain ⟨si, hsi⟩ : ∃ si : Nat, (j : Int) % 64 = (si : Nat) := ⟨j % 64, by omega⟩
      have hq4i : qi < 4 := by omega
      have hs4i : si < 64 := by omega
      obtain ⟨r, hR⟩ : ∃ r, a / 2 ^ (j + 1) % b = r := ⟨_, rfl⟩
      rw [hR] at hr
      have HR := Lib.hid hR
      clear hR
      have c0 : wr.cell? ⟨w.heap.size + 5, 0, none⟩ = some (.int .u64 (w0 r : Nat)) := by rw [cell_of_row _ _ _ _ _ _ hr]; rfl
      have c1 : wr.cell? ⟨w.heap.size + 5, 1, none⟩ = some (.int .u64 (w1 r : Nat)) := by rw [cell_of_row _ _ _ _ _ _ hr]; rfl
      have c2 : wr.cell? ⟨w.heap.size + 5, 2, none⟩ = some (.int .u64 (w2 r : Nat)) := by rw [cell_of_row _ _ _ _ _ _ hr]; rfl
      have c3 : wr.cell? ⟨w.heap.size + 5, 3, none⟩ = some (.int .u64 (w3 r : Nat)) := by rw [cell_of_row _ _ _ _ _ _ hr]; rfl
      go_wp2_with fail
      refine (left_any (W4.mk' (show r < 2 ^ 256 from by rw [← HR.out]; exact Nat.lt_trans (Nat.mod_lt _ (Nat.pos_of_ne_zero hz2.out)) hlb.out)) _).mono ?_
      rintro e V2 ⟨rfl, hb2⟩
      have hr2 := (hb2.block (w.heap.size + 5) (by omega)).trans hr
      have hq2 := (hb2.block (w.heap.size + 4) (by omega)).trans hq
      have ha2 := (hb2.block (w.heap.size) (by omega)).trans haa
      have hbb2 := (hb2.block (w.heap.size + 1) (by omega)).trans hbb
      clear c0 c1 c2 c3
      have c0 : V2.cell? ⟨w.heap.size + 5, 0, none⟩ = some (.int .u64 (w0 r : Nat)) := by rw [cell_of_row _ _ _ _ _ _ hr2]; rfl
      have c1 : V2.cell? ⟨w.heap.size + 5, 1, none⟩ = some (.int .u64 (w1 r : Nat)) := by rw [cell_of_row _ _ _ _ _ _ hr2]; rfl
      have c2 : V2.cell? ⟨w.heap.size + 5, 2, none⟩ = some (.int .u64 (w2 r : Nat)) := by rw [cell_of_row _ _ _ _ _ _ hr2]; rfl
      have c3 : V2.cell? ⟨w.heap.size + 5, 3, none⟩ = some (.int .u64 (w3 r : Nat)) := by rw [cell_of_row _ _ _ _ _ _ hr2]; rfl
      have f0 := frozen_of_row _ _ 0 _ _ hr2
      have f1 := frozen_of_row _ _ 1 _ _ hr2
      have f2 := frozen_of_row _ _ 2 _ _ hr2
      have f3 := frozen_of_row _ _ 3 _ _ hr2
      go_wp2_with fail
      have hp3 := put4 (.int .u64 (w0 (lft r) : Nat)) (.int .u64 (w1 (lft r) : Nat)) (.int .u64 (w2 (lft r) : Nat)) (.int .u64 (w3 (lft r) : Nat)) hr2
      obtain ⟨V3, hV3⟩ : ∃ V, (World.setCell (World.setCell (World.setCell (World.setCell V2 ⟨w.heap.size + 5, 0, none⟩ (.int .u64 (w0 (lft r) : Nat))) ⟨w.heap.size + 5, 1, none⟩ (.int .u64 (w1 (lft r) : Nat))) ⟨w.heap.size + 5, 2, none⟩ (.int .u64 (w2 (lft r) : Nat))) ⟨w.heap.size + 5, 3, none⟩ (.int .u64 (w3 (lft r) : Nat))) = V := ⟨_, rfl⟩
      rw [hV3] at hp3 ⊢
      clear hV3 c0 c1 c2 c3 f0 f1 f2 f3
      have hq3 := (hp3.there (w.heap.size + 4) (by omega)).trans hq2
      have ha3 := (hp3.there (w.heap.size) (by omega)).trans ha2
      have hbb3 := (hp3.there (w.heap.size + 1) (by omega)).trans hbb2
      have hr3 := hp3.here
      have hbl3 := hp3.below (by omega) (bcm hbl (by omega) hb2)
      have hsz3 : w.heap.size + 5 < V3.heap.size := by rw [hp3.size]; have := hb2.size; omega
      clear hp3 hr2 hq2 ha2 hbb2
      have c0 : V3.cell? ⟨w.heap.size + 5, 0, none⟩ = some (.int .u64 (w0 (lft r) : Nat)) := by rw [cell_of_row _ _ _ _ _ _ hr3]; rfl
      have f0 := frozen_of_row _ _ 0 _ _ hr3
      have ca := wAt_cell ha3 hq4i
      have hw := wAt_lt a qi
      go_region
      rw [div_val a r j qi si hqi hsi hj hla.out]
      have hbit := lft_bit r (a / 2 ^ j % 2) (Nat.mod_lt _ (by decide))
      have hp4 := put1 (i := 0) (.int .u64 (w0 (lft r + a / 2 ^ j % 2) : Nat)) hr3
      obtain ⟨V4, hV4⟩ : ∃ V, World.setCell V3 ⟨w.heap.size + 5, 0, none⟩ (.int .u64 (w0 (lft r + a / 2 ^ j % 2) : Nat)) = V := ⟨_, rfl⟩
      rw [hV4] at hp4 ⊢
      clear hV4 c0 f0 ca hw
      have hq4 := (hp4.there (w.heap.size + 4) (by omega)).trans hq3
      have ha4 := (hp4.there (w.heap.size) (by omega)).trans ha3
      have hbb4 := (hp4.there (w.heap.size + 1) (by omega)).trans hbb3
      have hr4 := hp4.here
      have hbl4 := hp4.below (by omega) hbl3
      have hsz4 : w.heap.size + 5 < V4.heap.size := by rw [hp4.size]; exact hsz3
      clear hp4 hr3 hq3 ha3 hbb3 hbl3 hsz3
      simp only [List.setIfInBounds_toArray, List.set_cons_zero] at hr4
      rw [← hbit.1, ← hbit.2.1, ← hbit.2.2.1] at hr4
      have hr'lt := hbit.2.2.2
      clear hbit
      obtain ⟨r', hrr⟩ : ∃ r', lft r + a / 2 ^ j % 2 = r' := ⟨_, rfl⟩
      rw [hrr] at hr4 hr'lt ⊢
      have HRR := Lib.hid hrr
      have HRL := Lib.hid hr'lt
      clear hrr hr'lt
      obtain ⟨hi, hH⟩ : ∃ hi, ((w3 r : Nat) / 9223372036854775808 == (1 : Int)) = hi := ⟨_, rfl⟩
      rw [hH]
      have HH := Lib.hid hH
      clear hH
      have c0 : V4.cell? ⟨w.heap.size + 5, 0, none⟩ = some (.int .u64 (w0 r' : Nat)) := by rw [cell_of_row _ _ _ _ _ _ hr4]; rfl
      have c1 : V4.cell? ⟨w.heap.size + 5, 1, none⟩ = some (.int .u64 (w1 r' : Nat)) := by rw [cell_of_row _ _ _ _ _ _ hr4]; rfl
      have c2 : V4.cell? ⟨w.heap.size + 5, 2, none⟩ = some (.int .u64 (w2 r' : Nat)) := by rw [cell_of_row _ _ _ _ _ _ hr4]; rfl
      have c3 : V4.cell? ⟨w.heap.size + 5, 3, none⟩ = some (.int .u64 (w3 r' : Nat)) := by rw [cell_of_row _ _ _ _ _ _ hr4]; rfl
      have b0 : V4.cell? ⟨w.heap.size + 1, 0, none⟩ = some (.int .u64 (w0 b : Nat)) := by rw [cell_of_row _ _ _ _ _ _ hbb4]; rfl
      have b1 : V4.cell? ⟨w.heap.size + 1, 1, none⟩ = some (.int .u64 (w1 b : Nat)) := by rw [cell_of_row _ _ _ _ _ _ hbb4]; rfl
      have b2 : V4.cell? ⟨w.heap.size + 1, 2, none⟩ = some (.int .u64 (w2 b : Nat)) := by rw [cell_of_row _ _ _ _ _ _ hbb4]; rfl
      have b3 : V4.cell? ⟨w.heap.size + 1, 3, none⟩ = some (.int .u64 (w3 b : Nat)) := by rw [cell_of_row _ _ _ _ _ _ hbb4]; rfl
      cases hi with
      | true =>
        have hge : 2 ^ 255 ≤ r := by have := HH.out; rw [high_bit (by rw [← HR.out]; exact Nat.lt_trans (Nat.mod_lt _ (Nat.pos_of_ne_zero hz2.out)) hlb.out)] at this; exact of_decide_eq_true this
        have HGE := Lib.hid hge
        clear hge
        go_wp2_with fail
        refine (sub_any (W4.mk' HRL.out) (W4.mk' hlb.out) _).mono ?_
        rintro e V6 ⟨rfl, hb6⟩
        have hr6 := (hb6.block (w.heap.size + 5) (by show w.heap.size + 5 < V4.heap.size; exact hsz4)).trans hr4
        have hq6 := (hb6.block (w.heap.size + 4) (by show w.heap.size + 4 < V4.heap.size; omega)).trans hq4
        have ha6 := (hb6.block (w.heap.size) (by show w.heap.size < V4.heap.size; omega)).trans ha4
        have hbb6 := (hb6.block (w.heap.size + 1) (by show w.heap.size + 1 < V4.heap.size; omega)).trans hbb4
        have hbl6 := bcm hbl4.drew (by show w.heap.size + 4 ≤ V4.heap.size; omega) hb6
        have hsz6 : w.heap.size + 5 < V6.heap.size := Nat.lt_of_lt_of_le hsz4 hb6.size
        clear c0 c1 c2 c3 b0 b1 b2 b3
        have c0 : V6.cell? ⟨w.heap.size + 5, 0, none⟩ = some (.int .u64 (w0 r' : Nat)) := by rw [cell_of_row _ _ _ _ _ _ hr6]; rfl
        have c1 : V6.cell? ⟨w.heap.size + 5, 1, none⟩ = some (.int .u64 (w1 r' : Nat)) := by rw [cell_of_row _ _ _ _ _ _ hr6]; rfl
        have c2 : V6.cell? ⟨w.heap.size + 5, 2, none⟩ = some (.int .u64 (w2 r' : Nat)) := by rw [cell_of_row _ _ _ _ _ _ hr6]; rfl
        have c3 : V6.cell? ⟨w.heap.size + 5, 3, none⟩ = some (.int .u64 (w3 r' : Nat)) := by rw [cell_of_row _ _ _ _ _ _ hr6]; rfl
        have f0 := frozen_of_row _ _ 0 _ _ hr6
        have f1 := frozen_of_row _ _ 1 _ _ hr6
        have f2 := frozen_of_row _ _ 2 _ _ hr6
        have f3 := frozen_of_row _ _ 3 _ _ hr6
        go_wp2_with fail
        have hp7 := put4 (.int .u64 (w0 (subm r' b) : Nat)) (.int .u64 (w1 (subm r' b) : Nat)) (.int .u64 (w2 (subm r' b) : Nat)) (.int .u64 (w3 (subm r' b) : Nat)) hr6
        obtain ⟨V7, hV7⟩ : ∃ V, (World.setCell (World.setCell (World.setCell (World.setCell V6 ⟨w.heap.size + 5, 0, none⟩ (.int .u64 (w0 (subm r' b) : Nat))) ⟨w.heap.size + 5, 1, none⟩ (.int .u64 (w1 (subm r' b) : Nat))) ⟨w.heap.size + 5, 2, none⟩ (.int .u64 (w2 (subm r' b) : Nat))) ⟨w.heap.size + 5, 3, none⟩ (.int .u64 (w3 (subm r' b) : Nat))) = V := ⟨_, rfl⟩
        rw [hV7] at hp7 ⊢
        clear hV7 c0 c1 c2 c3 f0 f1 f2 f3
        have hq7 := (hp7.there (w.heap.size + 4) (by omega)).trans hq6
        have ha7 := (hp7.there (w.heap.size) (by omega)).trans ha6
        have hbb7 := (hp7.there (w.heap.size + 1) (by omega)).trans hbb6
        have hr7 := hp7.here
        have hbl7 := hp7.below (by omega) hbl6
        have hsz7 : w.heap.size + 5 < V7.heap.size := by rw [hp7.size]; exact hsz6
        clear hp7 hr6 hq6 ha6 hbb6
        obtain ⟨qv, cq⟩ := q_at hq7 hq4i
        have fq := frozen_of_row _ _ qi _ _ hq7
        go_region
        go_wp2_with fail
        obtain ⟨zz, hzz⟩ : ∃ zz, bits .or .u64 qv (IntKind.u64.wrap ((2 : Int) ^ si)) = zz := ⟨_, rfl⟩
        rw [hzz]
        have hp8 := put1 (i := qi) (.int .u64 zz) hq7
        obtain ⟨p0, p1, p2, p3, hps⟩ := q_set (q0 := q0) (q1 := q1) (q2 := q2) (q3 := q3) (v := zz) hq4i
        rw [hps] at hp8
        refine ⟨⟨(j : Int) - 1, j, by omega, by omega, rfl, ⟨p0, p1, p2, p3, hp8.here⟩, ?_, ?_, ?_⟩, ?_⟩
        · rw [show a / 2 ^ j % b = subm r' b from by rw [← div_fin hlb.out hz2.out HR.out HRR.out, if_pos (Or.inl HGE.out)]]; exact (hp8.there _ (by omega)).trans hr7
        · exact (hp8.below (by omega) hbl7).drew
        · show _ < (World.setCell V7 _ _).heap.size; rw [hp8.size]; exact hsz7
        · (simp [intOf]; try omega)

      | false =>
        go_wp2_with fail
        refine (cmp_any (W4.mk' HRL.out) (W4.mk' hlb.out) _).mono ?_
        rintro e V5 ⟨rfl, hb5⟩
        have hr5 := (hb5.block (w.heap.size + 5) (by show w.heap.size + 5 < V4.heap.size; exact hsz4)).trans hr4
        have hq5 := (hb5.block (w.heap.size + 4) (by show w.heap.size + 4 < V4.heap.size; omega)).trans hq4
        have ha5 := (hb5.block (w.heap.size) (by show w.heap.size < V4.heap.size; omega)).trans ha4
        have hbb5 := (hb5.block (w.heap.size + 1) (by show w.heap.size + 1 < V4.heap.size; omega)).trans hbb4
        have hbl5 := bcm hbl4.drew (by show w.heap.size + 4 ≤ V4.heap.size; omega) hb5
        have hsz5 : w.heap.size + 5 < V5.heap.size := Nat.lt_of_lt_of_le hsz4 hb5.size
        clear c0 c1 c2 c3 b0 b1 b2 b3
        have c0 : V5.cell? ⟨w.heap.size + 5, 0, none⟩ = some (.int .u64 (w0 r' : Nat)) := by rw [cell_of_row _ _ _ _ _ _ hr5]; rfl
        have c1 : V5.cell? ⟨w.heap.size + 5, 1, none⟩ = some (.int .u64 (w1 r' : Nat)) := by rw [cell_of_row _ _ _ _ _ _ hr5]; rfl
        have c2 : V5.cell? ⟨w.heap.size + 5, 2, none⟩ = some (.int .u64 (w2 r' : Nat)) := by rw [cell_of_row _ _ _ _ _ _ hr5]; rfl
        have c3 : V5.cell? ⟨w.heap.size + 5, 3, none⟩ = some (.int .u64 (w3 r' : Nat)) := by rw [cell_of_row _ _ _ _ _ _ hr5]; rfl
        have b0 : V5.cell? ⟨w.heap.size + 1, 0, none⟩ = some (.int .u64 (w0 b : Nat)) := by rw [cell_of_row _ _ _ _ _ _ hbb5]; rfl
        have b1 : V5.cell? ⟨w.heap.size + 1, 1, none⟩ = some (.int .u64 (w1 b : Nat)) := by rw [cell_of_row _ _ _ _ _ _ hbb5]; rfl
        have b2 : V5.cell? ⟨w.heap.size + 1, 2, none⟩ = some (.int .u64 (w2 b : Nat)) := by rw [cell_of_row _ _ _ _ _ _ hbb5]; rfl
        have b3 : V5.cell? ⟨w.heap.size + 1, 3, none⟩ = some (.int .u64 (w3 b : Nat)) := by rw [cell_of_row _ _ _ _ _ _ hbb5]; rfl
        by_cases hc : b ≤ r'
        · have hcc := Lib.hid hc
          have hc' : (0 : Int) ≤ cmpI r' b := by unfold cmpI; rw [if_neg (by omega)]; split <;> omega
          clear hc
          go_wp2_with fail
          refine (sub_any (W4.mk' HRL.out) (W4.mk' hlb.out) _).mono ?_
          rintro e V6 ⟨rfl, hb6⟩
          have hr6 := (hb6.block (w.heap.size + 5) (by show w.heap.size + 5 < V5.heap.size; exact hsz5)).trans hr5
          have hq6 := (hb6.block (w.heap.size + 4) (by show w.heap.size + 4 < V5.heap.size; omega)).trans hq5
          have ha6 := (hb6.block (w.heap.size) (by show w.heap.size < V5.heap.size; omega)).trans ha5
          have hbb6 := (hb6.block (w.heap.size + 1) (by show w.heap.size + 1 < V5.heap.size; omega)).trans hbb5
          have hbl6 := bcm hbl5 (by omega) hb6
          have hsz6 : w.heap.size + 5 < V6.heap.size := Nat.lt_of_lt_of_le hsz5 hb6.size
          clear c0 c1 c2 c3 b0 b1 b2 b3
          have c0 : V6.cell? ⟨w.heap.size + 5, 0, none⟩ = some (.int .u64 (w0 r' : Nat)) := by rw [cell_of_row _ _ _ _ _ _ hr6]; rfl
          have c1 : V6.cell? ⟨w.heap.size + 5, 1, none⟩ = some (.int .u64 (w1 r' : Nat)) := by rw [cell_of_row _ _ _ _ _ _ hr6]; rfl
          have c2 : V6.cell? ⟨w.heap.size + 5, 2, none⟩ = some (.int .u64 (w2 r' : Nat)) := by rw [cell_of_row _ _ _ _ _ _ hr6]; rfl
          have c3 : V6.cell? ⟨w.heap.size + 5, 3, none⟩ = some (.int .u64 (w3 r' : Nat)) := by rw [cell_of_row _ _ _ _ _ _ hr6]; rfl
          have f0 := frozen_of_row _ _ 0 _ _ hr6
          have f1 := frozen_of_row _ _ 1 _ _ hr6
          have f2 := frozen_of_row _ _ 2 _ _ hr6
          have f3 := frozen_of_row _ _ 3 _ _ hr6
          go_wp2_with fail
          have hp7 := put4 (.int .u64 (w0 (subm r' b) : Nat)) (.int .u64 (w1 (subm r' b) : Nat)) (.int .u64 (w2 (subm r' b) : Nat)) (.int .u64 (w3 (subm r' b) : Nat)) hr6
          obtain ⟨V7, hV7⟩ : ∃ V, (World.setCell (World.setCell (World.setCell (World.setCell V6 ⟨w.heap.size + 5, 0, none⟩ (.int .u64 (w0 (subm r' b) : Nat))) ⟨w.heap.size + 5, 1, none⟩ (.int .u64 (w1 (subm r' b) : Nat))) ⟨w.heap.size + 5, 2, none⟩ (.int .u64 (w2 (subm r' b) : Nat))) ⟨w.heap.size + 5, 3, none⟩ (.int .u64 (w3 (subm r' b) : Nat))) = V := ⟨_, rfl⟩
          rw [hV7] at hp7 ⊢
          clear hV7 c0 c1 c2 c3 f0 f1 f2 f3
          have hq7 := (hp7.there (w.heap.size + 4) (by omega)).trans hq6
          have ha7 := (hp7.there (w.heap.size) (by omega)).trans ha6
          have hbb7 := (hp7.there (w.heap.size + 1) (by omega)).trans hbb6
          have hr7 := hp7.here
          have hbl7 := hp7.below (by omega) hbl6
          have hsz7 : w.heap.size + 5 < V7.heap.size := by rw [hp7.size]; exact hsz6
          clear hp7 hr6 hq6 ha6 hbb6
          obtain ⟨qv, cq⟩ := q_at hq7 hq4i
          have fq := frozen_of_row _ _ qi _ _ hq7
          go_region
          go_wp2_with fail
          obtain ⟨zz, hzz⟩ : ∃ zz, bits .or .u64 qv (IntKind.u64.wrap ((2 : Int) ^ si)) = zz := ⟨_, rfl⟩
          rw [hzz]
          have hp8 := put1 (i := qi) (.int .u64 zz) hq7
          obtain ⟨p0, p1, p2, p3, hps⟩ := q_set (q0 := q0) (q1 := q1) (q2 := q2) (q3 := q3) (v := zz) hq4i
          rw [hps] at hp8
          refine ⟨⟨(j : Int) - 1, j, by omega, by omega, rfl, ⟨p0, p1, p2, p3, hp8.here⟩, ?_, ?_, ?_⟩, ?_⟩
          · rw [show a / 2 ^ j % b = subm r' b from by rw [← div_fin hlb.out hz2.out HR.out HRR.out, if_pos (Or.inr hcc.out)]]; exact (hp8.there _ (by omega)).trans hr7
          · exact (hp8.below (by omega) hbl7).drew
          · show _ < (World.setCell V7 _ _).heap.size; rw [hp8.size]; exact hsz7
          · (simp [intOf]; try omega)

        · have hcc := Lib.hid hc
          have hc' : cmpI r' b < (0 : Int) := by unfold cmpI; rw [if_pos (by omega)]; omega
          clear hc
          go_wp2_with fail
          refine ⟨⟨(j : Int) - 1, j, by omega, by omega, rfl, ⟨q0, q1, q2, q3, hq5⟩, ?_, hbl5, hsz5⟩, ?_⟩
          · rw [show a / 2 ^ j % b = r' from by rw [← div_fin hlb.out hz2.out HR.out HRR.out, if_neg (by rintro (h | h); (have h3 := HH.out; rw [high_bit (by rw [← HR.out]; exact Nat.lt_trans (Nat.mod_lt _ (Nat.pos_of_ne_zero hz2.out)) hlb.out), decide_eq_true h] at h3; exact Bool.noConfusion h3); exact hcc.out h)]]; exact hr5
          · (simp [intOf]; try omega)
end Go.Proofs.Ytgghopmlcpcpkaa
