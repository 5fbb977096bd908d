/- A step of the proof: what a function of the program computes, or a plain law of numbers. -/
import Derived.Test.YtgghopmlcpcpkaaBitM
namespace Go.Proofs.Ytgghopmlcpcpkaa
open Go.RowKit PlainK
set_option linter.unusedVariables false
set_option linter.unusedSimpArgs false
set_option maxRecDepth 10000 in
set_option maxHeartbeats 4000000 in
theorem pow_any {a0 a1 a2 a3 n0 n1 n2 n3 : Int} {a n m g : Nat} (ha : W4 a0 a1 a2 a3 a) (hn : W4 n0 n1 n2 n3 n) (w : World) (hF : IsF w g m) :
   Calls Try.prog 25 #[.pointer (some ⟨g, 0, none⟩), .agg #[.int .u64 a0, .int .u64 a1, .int .u64 a2, .int .u64 a3], .agg #[.int .u64 n0, .int .u64 n1, .int .u64 n2, .int .u64 n3]] w fun e w' =>
    e = .returned (.agg #[.int .u64 (w0 (a ^ n % m) : Nat), .int .u64 (w1 (a ^ n % m) : Nat), .int .u64 (w2 (a ^ n % m) : Nat), .int .u64 (w3 (a ^ n % m) : Nat)]) ∧ Below w.heap.size w w' := by
  obtain ⟨rfl, rfl, rfl, rfl, la⟩ := ha
  obtain ⟨rfl, rfl, rfl, rfl, lb⟩ := hn
  have hla := Lib.hid la
  have hlb := Lib.hid lb
  have HF := Lib.hid hF
  clear la lb hF
  go_enter Try.func25, Try.ntmps25
  go_upto_region 3 with fail
  obtain ⟨V0, hW⟩ : ∃ V, ((w.alloc (.cells #[.int .u64 (w0 (a) : Nat), .int .u64 (w1 (a) : Nat), .int .u64 (w2 (a) : Nat), .int .u64 (w3 (a) : Nat)] 24)).alloc (.cells #[.int .u64 (w0 (n) : Nat), .int .u64 (w1 (n) : Nat), .int .u64 (w2 (n) : Nat), .int .u64 (w3 (n) : Nat)] 24)).alloc (.cells #[.int .u64 0, .int .u64 0, .int .u64 0, .int .u64 0] 24 (0, 0)) = V := ⟨_, rfl⟩
  rw [hW]
  have hA : V0.heap[w.heap.size]? = some (.cells #[.int .u64 (w0 (a) : Nat), .int .u64 (w1 (a) : Nat), .int .u64 (w2 (a) : Nat), .int .u64 (w3 (a) : Nat)] 24 (0, 0)) := by
    rw [← hW]; simp only [alloc_at, World.size_alloc]; repeat (first | rw [if_pos trivial] | rw [if_pos (by omega)] | rw [if_neg (by omega)])
  have hN : V0.heap[w.heap.size + 1]? = some (.cells #[.int .u64 (w0 (n) : Nat), .int .u64 (w1 (n) : Nat), .int .u64 (w2 (n) : Nat), .int .u64 (w3 (n) : Nat)] 24 (0, 0)) := by
    rw [← hW]; simp only [alloc_at, World.size_alloc]; repeat (first | rw [if_pos trivial] | rw [if_pos (by omega)] | rw [if_neg (by omega)])
  have hR : V0.heap[w.heap.size + 2]? = some (.cells #[.int .u64 0, .int .u64 0, .int .u64 0, .int .u64 0] 24 (0, 0)) := by
    rw [← hW]; simp only [alloc_at, World.size_alloc]; repeat (first | rw [if_pos trivial] | rw [if_pos (by omega)] | rw [if_neg (by omega)])
  have kk : Below w.heap.size w V0 := by
    rw [← hW]
    repeat (first | exact Below.refl _ _ | refine Below.drew ?_ | refine bal ?_ _)
  have fF := HF.out.keep kk
  clear hW
  have cA0 : V0.cell? ⟨w.heap.size, 0, none⟩ = some (.int .u64 (w0 (a) : Nat)) := by rw [cell_of_row _ _ _ _ _ _ hA]; rfl
  have zA0 := frozen_of_row _ _ 0 _ _ hA
  have cA1 : V0.cell? ⟨w.heap.size, 1, none⟩ = some (.int .u64 (w1 (a) : Nat)) := by rw [cell_of_row _ _ _ _ _ _ hA]; rfl
  have zA1 := frozen_of_row _ _ 1 _ _ hA
  have cA2 : V0.cell? ⟨w.heap.size, 2, none⟩ = some (.int .u64 (w2 (a) : Nat)) := by rw [cell_of_row _ _ _ _ _ _ hA]; rfl
  have zA2 := frozen_of_row _ _ 2 _ _ hA
  have cA3 : V0.cell? ⟨w.heap.size, 3, none⟩ = some (.int .u64 (w3 (a) : Nat)) := by rw [cell_of_row _ _ _ _ _ _ hA]; rfl
  have zA3 := frozen_of_row _ _ 3 _ _ hA
  go_wp2_with fail
  refine (reduce_any (W4.mk' hla.out) _ fF.toM).mono ?_
  rintro e V1 ⟨rfl, hb⟩
  replace hA := below_get hb (show _ = some (.cells #[.int .u64 (w0 (a) : Nat), .int .u64 (w1 (a) : Nat), .int .u64 (w2 (a) : Nat), .int .u64 (w3 (a) : Nat)] 24 (0, 0)) from hA)
  replace hN := below_get hb (show _ = some (.cells #[.int .u64 (w0 (n) : Nat), .int .u64 (w1 (n) : Nat), .int .u64 (w2 (n) : Nat), .int .u64 (w3 (n) : Nat)] 24 (0, 0)) from hN)
  replace hR := below_get hb (show _ = some (.cells #[.int .u64 0, .int .u64 0, .int .u64 0, .int .u64 0] 24 (0, 0)) from hR)
  replace kk := bcl (by first | exact kk | exact kk.drew | exact below_drewN kk _) hb
  replace fF := HF.out.keep kk
  clear cA0 zA0 cA1 zA1 cA2 zA2 cA3 zA3
  clear hb
  have cA0 : V1.cell? ⟨w.heap.size, 0, none⟩ = some (.int .u64 (w0 (a) : Nat)) := by rw [cell_of_row _ _ _ _ _ _ hA]; rfl
  have zA0 := frozen_of_row _ _ 0 _ _ hA
  have cA1 : V1.cell? ⟨w.heap.size, 1, none⟩ = some (.int .u64 (w1 (a) : Nat)) := by rw [cell_of_row _ _ _ _ _ _ hA]; rfl
  have zA1 := frozen_of_row _ _ 1 _ _ hA
  have cA2 : V1.cell? ⟨w.heap.size, 2, none⟩ = some (.int .u64 (w2 (a) : Nat)) := by rw [cell_of_row _ _ _ _ _ _ hA]; rfl
  have zA2 := frozen_of_row _ _ 2 _ _ hA
  have cA3 : V1.cell? ⟨w.heap.size, 3, none⟩ = some (.int .u64 (w3 (a) : Nat)) := by rw [cell_of_row _ _ _ _ _ _ hA]; rfl
  have zA3 := frozen_of_row _ _ 3 _ _ hA
  go_upto_region 4 with fail
  have P := put4 (.int .u64 (w0 (a % m) : Nat)) (.int .u64 (w1 (a % m) : Nat)) (.int .u64 (w2 (a % m) : Nat)) (.int .u64 (w3 (a % m) : Nat)) hA
  replace P := put_hid P
  obtain ⟨V2, hW, P⟩ := P
  rw [hW]
  replace hA := P.here
  replace hN := (P.there (w.heap.size + 1) (by omega)).trans (show _ = some (.cells #[.int .u64 (w0 (n) : Nat), .int .u64 (w1 (n) : Nat), .int .u64 (w2 (n) : Nat), .int .u64 (w3 (n) : Nat)] 24 (0, 0)) from hN)
  replace hR := (P.there (w.heap.size + 2) (by omega)).trans (show _ = some (.cells #[.int .u64 0, .int .u64 0, .int .u64 0, .int .u64 0] 24 (0, 0)) from hR)
  replace kk := P.below (by omega) (show Below w.heap.size w V1 from by first | exact kk | exact kk.drew | exact below_drewN kk _)
  replace fF := HF.out.keep kk
  clear cA0 zA0 cA1 zA1 cA2 zA2 cA3 zA3
  clear P hW
  go_wp2_with fail
  refine (of_any _ _).mono ?_
  rintro e V3 ⟨rfl, hb⟩
  replace hA := below_get hb (show _ = some (.cells #[.int .u64 (w0 (a % m) : Nat), .int .u64 (w1 (a % m) : Nat), .int .u64 (w2 (a % m) : Nat), .int .u64 (w3 (a % m) : Nat)] 24 (0, 0)) from hA)
  replace hN := below_get hb (show _ = some (.cells #[.int .u64 (w0 (n) : Nat), .int .u64 (w1 (n) : Nat), .int .u64 (w2 (n) : Nat), .int .u64 (w3 (n) : Nat)] 24 (0, 0)) from hN)
  replace hR := below_get hb (show _ = some (.cells #[.int .u64 0, .int .u64 0, .int .u64 0, .int .u64 0] 24 (0, 0)) from hR)
  replace kk := bcl (by first | exact kk | exact kk.drew | exact below_drewN kk _) hb
  replace fF := HF.out.keep kk
  clear hb
  go_upto_region 5 with fail
  obtain ⟨V4, hW⟩ : ∃ V, V3.alloc (.cells #[.int .u64 1, .int .u64 0, .int .u64 0, .int .u64 0] 24 (0, 0)) = V := ⟨_, rfl⟩
  rw [hW]
  obtain ⟨bo, hbx⟩ : ∃ n, V3.heap.size = n := ⟨_, rfl⟩
  rw [hbx]
  have hX : V4.heap[bo]? = some (.cells #[.int .u64 1, .int .u64 0, .int .u64 0, .int .u64 0] 24 (0, 0)) := by rw [← hW, ← hbx]; exact heap_alloc_new _ _
  have lOA : w.heap.size < bo := by rw [← hbx]; exact lt_of_heap hA
  replace hA : V4.heap[w.heap.size]? = some (.cells #[.int .u64 (w0 (a % m) : Nat), .int .u64 (w1 (a % m) : Nat), .int .u64 (w2 (a % m) : Nat), .int .u64 (w3 (a % m) : Nat)] 24 (0, 0)) := by rw [← hW]; exact ak hA
  have lON : w.heap.size + 1 < bo := by rw [← hbx]; exact lt_of_heap hN
  replace hN : V4.heap[w.heap.size + 1]? = some (.cells #[.int .u64 (w0 (n) : Nat), .int .u64 (w1 (n) : Nat), .int .u64 (w2 (n) : Nat), .int .u64 (w3 (n) : Nat)] 24 (0, 0)) := by rw [← hW]; exact ak hN
  have lOR : w.heap.size + 2 < bo := by rw [← hbx]; exact lt_of_heap hR
  replace hR : V4.heap[w.heap.size + 2]? = some (.cells #[.int .u64 0, .int .u64 0, .int .u64 0, .int .u64 0] 24 (0, 0)) := by rw [← hW]; exact ak hR
  have lO : w.heap.size ≤ bo := by rw [← hbx]; exact kk.size
  replace kk : Below w.heap.size w V4 := by rw [← hW]; exact bal kk _
  have hO := hX
  replace fF := HF.out.keep kk
  clear hX hW hbx
  have cN0 : V4.cell? ⟨w.heap.size + 1, 0, none⟩ = some (.int .u64 (w0 (n) : Nat)) := by rw [cell_of_row _ _ _ _ _ _ hN]; rfl
  have zN0 := frozen_of_row _ _ 0 _ _ hN
  have cN1 : V4.cell? ⟨w.heap.size + 1, 1, none⟩ = some (.int .u64 (w1 (n) : Nat)) := by rw [cell_of_row _ _ _ _ _ _ hN]; rfl
  have zN1 := frozen_of_row _ _ 1 _ _ hN
  have cN2 : V4.cell? ⟨w.heap.size + 1, 2, none⟩ = some (.int .u64 (w2 (n) : Nat)) := by rw [cell_of_row _ _ _ _ _ _ hN]; rfl
  have zN2 := frozen_of_row _ _ 2 _ _ hN
  have cN3 : V4.cell? ⟨w.heap.size + 1, 3, none⟩ = some (.int .u64 (w3 (n) : Nat)) := by rw [cell_of_row _ _ _ _ _ _ hN]; rfl
  have zN3 := frozen_of_row _ _ 3 _ _ hN
  go_wp2_with fail
  refine (bits_any (W4.mk' hlb.out) _).mono ?_
  rintro e V5 ⟨rfl, hb⟩
  replace hA := below_get hb (show _ = some (.cells #[.int .u64 (w0 (a % m) : Nat), .int .u64 (w1 (a % m) : Nat), .int .u64 (w2 (a % m) : Nat), .int .u64 (w3 (a % m) : Nat)] 24 (0, 0)) from hA)
  replace hN := below_get hb (show _ = some (.cells #[.int .u64 (w0 (n) : Nat), .int .u64 (w1 (n) : Nat), .int .u64 (w2 (n) : Nat), .int .u64 (w3 (n) : Nat)] 24 (0, 0)) from hN)
  replace hR := below_get hb (show _ = some (.cells #[.int .u64 0, .int .u64 0, .int .u64 0, .int .u64 0] 24 (0, 0)) from hR)
  replace hO := below_get hb (show _ = some (.cells #[.int .u64 1, .int .u64 0, .int .u64 0, .int .u64 0] 24 (0, 0)) from hO)
  replace kk := bcl (by first | exact kk | exact kk.drew | exact below_drewN kk _) hb
  replace fF := HF.out.keep kk
  clear cN0 zN0 cN1 zN1 cN2 zN2 cN3 zN3
  clear hb
  have hbl := bitsN_le n
  have hw1 : IntKind.i64.wrap ((bitsN n : Nat) - 1 : Int) = ((bitsN n : Nat) - 1 : Int) := IntWalk.i64_in _ (by omega)
  have hpos : 0 < m := by have := HF.out.three; omega
  have hone : 1 % m = 1 := Nat.mod_eq_of_lt (by have := HF.out.three; omega)
  have HM := Lib.hid HF.out.lt
  have h0 : n / 2 ^ bitsN n = 0 := Nat.div_eq_of_lt (bitsN_lt hlb.out)
  go_wp2_with fail
  go_loopw [8] (fun i wr => ∃ (j : Nat), j ≤ bitsN n ∧ i = .int .i64 ((j : Int) - 1) ∧ wr.heap[w.heap.size]? = some (.cells #[.int .u64 (w0 (a % m) : Nat), .int .u64 (w1 (a % m) : Nat), .int .u64 (w2 (a % m) : Nat), .int .u64 (w3 (a % m) : Nat)] 24 (0, 0)) ∧ wr.heap[w.heap.size + 1]? = some (.cells #[.int .u64 (w0 (n) : Nat), .int .u64 (w1 (n) : Nat), .int .u64 (w2 (n) : Nat), .int .u64 (w3 (n) : Nat)] 24 (0, 0)) ∧ wr.heap[w.heap.size + 2]? = some (.cells #[.int .u64 0, .int .u64 0, .int .u64 0, .int .u64 0] 24 (0, 0)) ∧ wr.heap[bo]? = some (.cells #[.int .u64 (w0 (a ^ (n / 2 ^ j) % m) : Nat), .int .u64 (w1 (a ^ (n / 2 ^ j) % m) : Nat), .int .u64 (w2 (a ^ (n / 2 ^ j) % m) : Nat), .int .u64 (w3 (a ^ (n / 2 ^ j) % m) : Nat)] 24 (0, 0)) ∧ Below w.heap.size w wr) (fun i wr => (intOf i + 1).toNat)
  case atStart =>
    refine ⟨bitsN n, Nat.le_refl _, rfl, hA, hN, hR, ?_, kk⟩
    rw [hO, h0, Nat.pow_zero, hone]; rfl
  case round =>
    clear hA hN hR hO kk fF h0 hw1 V4 V5
    obtain ⟨j, hj, rfl, hA, hN, hR, hO, kk⟩ := hrel
    have fF := HF.out.keep kk
    by_cases hj0 : j = 0
    · subst hj0
      rw [Nat.pow_zero, Nat.div_one] at hO
      have cO0 : wr.cell? ⟨bo, 0, none⟩ = some (.int .u64 (w0 (a ^ n % m) : Nat)) := by rw [cell_of_row _ _ _ _ _ _ hO]; rfl
      have zO0 := frozen_of_row _ _ 0 _ _ hO
      have cO1 : wr.cell? ⟨bo, 1, none⟩ = some (.int .u64 (w1 (a ^ n % m) : Nat)) := by rw [cell_of_row _ _ _ _ _ _ hO]; rfl
      have zO1 := frozen_of_row _ _ 1 _ _ hO
      have cO2 : wr.cell? ⟨bo, 2, none⟩ = some (.int .u64 (w2 (a ^ n % m) : Nat)) := by rw [cell_of_row _ _ _ _ _ _ hO]; rfl
      have zO2 := frozen_of_row _ _ 2 _ _ hO
      have cO3 : wr.cell? ⟨bo, 3, none⟩ = some (.int .u64 (w3 (a ^ n % m) : Nat)) := by rw [cell_of_row _ _ _ _ _ _ hO]; rfl
      have zO3 := frozen_of_row _ _ 3 _ _ hO
      have cR0 : wr.cell? ⟨w.heap.size + 2, 0, none⟩ = some (.int .u64 0) := by rw [cell_of_row _ _ _ _ _ _ hR]; rfl
      have zR0 := frozen_of_row _ _ 0 _ _ hR
      have cR1 : wr.cell? ⟨w.heap.size + 2, 1, none⟩ = some (.int .u64 0) := by rw [cell_of_row _ _ _ _ _ _ hR]; rfl
      have zR1 := frozen_of_row _ _ 1 _ _ hR
      have cR2 : wr.cell? ⟨w.heap.size + 2, 2, none⟩ = some (.int .u64 0) := by rw [cell_of_row _ _ _ _ _ _ hR]; rfl
      have zR2 := frozen_of_row _ _ 2 _ _ hR
      have cR3 : wr.cell? ⟨w.heap.size + 2, 3, none⟩ = some (.int .u64 0) := by rw [cell_of_row _ _ _ _ _ _ hR]; rfl
      have zR3 := frozen_of_row _ _ 3 _ _ hR
      go_wp2_with fail
      have P := put4 (.int .u64 (w0 (a ^ n % m) : Nat)) (.int .u64 (w1 (a ^ n % m) : Nat)) (.int .u64 (w2 (a ^ n % m) : Nat)) (.int .u64 (w3 (a ^ n % m) : Nat)) hR
      replace P := put_hid P
      obtain ⟨V9, hV9, P⟩ := P
      rw [hV9]
      have k9 := P.below (by omega) kk
      have P9 := P.here
      have v0 : V9.cell? ⟨w.heap.size + 2, 0, none⟩ = some (.int .u64 (w0 (a ^ n % m) : Nat)) := by rw [cell_of_row _ _ _ _ _ _ P9]; rfl
      have v1 : V9.cell? ⟨w.heap.size + 2, 1, none⟩ = some (.int .u64 (w1 (a ^ n % m) : Nat)) := by rw [cell_of_row _ _ _ _ _ _ P9]; rfl
      have v2 : V9.cell? ⟨w.heap.size + 2, 2, none⟩ = some (.int .u64 (w2 (a ^ n % m) : Nat)) := by rw [cell_of_row _ _ _ _ _ _ P9]; rfl
      have v3 : V9.cell? ⟨w.heap.size + 2, 3, none⟩ = some (.int .u64 (w3 (a ^ n % m) : Nat)) := by rw [cell_of_row _ _ _ _ _ _ P9]; rfl
      refine bodyPost_ret (v := _) (by simp [results, Try.results25, go_sem, v0, v1, v2, v3]; rfl) rfl ?_
      exact ⟨rfl, k9⟩
    · obtain ⟨i, rfl⟩ : ∃ i, j = i + 1 := ⟨j - 1, by omega⟩
      obtain ⟨X, hX⟩ : ∃ x, a ^ (n / 2 ^ (i + 1)) % m = x := ⟨_, rfl⟩
      rw [hX] at hO
      have HX := Lib.hid hX
      have HXl := Lib.hid (show X < 2 ^ 256 by rw [← hX]; exact Nat.lt_trans (Nat.mod_lt _ hpos) HM.out)
      clear hX
      have hi : i < 256 := by omega
      have q1 : (0 : Int) ≤ ((i + 1 : Nat) : Int) - 1 := by omega
      have q2 : ((i + 1 : Nat) : Int) - 1 = (i : Int) := by omega
      rw [q2]
      have q3 : (0 : Int) ≤ (i : Int) := by omega
      have cO0 : wr.cell? ⟨bo, 0, none⟩ = some (.int .u64 (w0 (X) : Nat)) := by rw [cell_of_row _ _ _ _ _ _ hO]; rfl
      have zO0 := frozen_of_row _ _ 0 _ _ hO
      have cO1 : wr.cell? ⟨bo, 1, none⟩ = some (.int .u64 (w1 (X) : Nat)) := by rw [cell_of_row _ _ _ _ _ _ hO]; rfl
      have zO1 := frozen_of_row _ _ 1 _ _ hO
      have cO2 : wr.cell? ⟨bo, 2, none⟩ = some (.int .u64 (w2 (X) : Nat)) := by rw [cell_of_row _ _ _ _ _ _ hO]; rfl
      have zO2 := frozen_of_row _ _ 2 _ _ hO
      have cO3 : wr.cell? ⟨bo, 3, none⟩ = some (.int .u64 (w3 (X) : Nat)) := by rw [cell_of_row _ _ _ _ _ _ hO]; rfl
      have zO3 := frozen_of_row _ _ 3 _ _ hO
      go_wp2_with fail
      refine (mulF_any (W4.mk' HXl.out) (W4.mk' HXl.out) _ fF).mono ?_
      rintro e V6 ⟨rfl, hb⟩
      replace hA := below_get hb (show _ = some (.cells #[.int .u64 (w0 (a % m) : Nat), .int .u64 (w1 (a % m) : Nat), .int .u64 (w2 (a % m) : Nat), .int .u64 (w3 (a % m) : Nat)] 24 (0, 0)) from hA)
      replace hN := below_get hb (show _ = some (.cells #[.int .u64 (w0 (n) : Nat), .int .u64 (w1 (n) : Nat), .int .u64 (w2 (n) : Nat), .int .u64 (w3 (n) : Nat)] 24 (0, 0)) from hN)
      replace hR := below_get hb (show _ = some (.cells #[.int .u64 0, .int .u64 0, .int .u64 0, .int .u64 0] 24 (0, 0)) from hR)
      replace hO := below_get hb (show _ = some (.cells #[.int .u64 (w0 (X) : Nat), .int .u64 (w1 (X) : Nat), .int .u64 (w2 (X) : Nat), .int .u64 (w3 (X) : Nat)] 24 (0, 0)) from hO)
      replace kk := bcl (by first | exact kk | exact kk.drew | exact below_drewN kk _) hb
      replace fF := HF.out.keep kk
      clear cO0 zO0 cO1 zO1 cO2 zO2 cO3 zO3
      clear hb
      have cO0 : V6.cell? ⟨bo, 0, none⟩ = some (.int .u64 (w0 (X) : Nat)) := by rw [cell_of_row _ _ _ _ _ _ hO]; rfl
      have zO0 := frozen_of_row _ _ 0 _ _ hO
      have cO1 : V6.cell? ⟨bo, 1, none⟩ = some (.int .u64 (w1 (X) : Nat)) := by rw [cell_of_row _ _ _ _ _ _ hO]; rfl
      have zO1 := frozen_of_row _ _ 1 _ _ hO
      have cO2 : V6.cell? ⟨bo, 2, none⟩ = some (.int .u64 (w2 (X) : Nat)) := by rw [cell_of_row _ _ _ _ _ _ hO]; rfl
      have zO2 := frozen_of_row _ _ 2 _ _ hO
      have cO3 : V6.cell? ⟨bo, 3, none⟩ = some (.int .u64 (w3 (X) : Nat)) := by rw [cell_of_row _ _ _ _ _ _ hO]; rfl
      have zO3 := frozen_of_row _ _ 3 _ _ hO
      go_upto_region 9 with fail
      have P := put4 (.int .u64 (w0 (X * X % m) : Nat)) (.int .u64 (w1 (X * X % m) : Nat)) (.int .u64 (w2 (X * X % m) : Nat)) (.int .u64 (w3 (X * X % m) : Nat)) hO
      replace P := put_hid P
      obtain ⟨V7, hW, P⟩ := P
      rw [hW]
      replace hO := P.here
      replace hA := (P.there (w.heap.size) (by omega)).trans (show _ = some (.cells #[.int .u64 (w0 (a % m) : Nat), .int .u64 (w1 (a % m) : Nat), .int .u64 (w2 (a % m) : Nat), .int .u64 (w3 (a % m) : Nat)] 24 (0, 0)) from hA)
      replace hN := (P.there (w.heap.size + 1) (by omega)).trans (show _ = some (.cells #[.int .u64 (w0 (n) : Nat), .int .u64 (w1 (n) : Nat), .int .u64 (w2 (n) : Nat), .int .u64 (w3 (n) : Nat)] 24 (0, 0)) from hN)
      replace hR := (P.there (w.heap.size + 2) (by omega)).trans (show _ = some (.cells #[.int .u64 0, .int .u64 0, .int .u64 0, .int .u64 0] 24 (0, 0)) from hR)
      replace kk := P.below (by omega) (show Below w.heap.size w V6 from by first | exact kk | exact kk.drew | exact below_drewN kk _)
      replace fF := HF.out.keep kk
      clear cO0 zO0 cO1 zO1 cO2 zO2 cO3 zO3
      clear P hW
      have cN0 : V7.cell? ⟨w.heap.size + 1, 0, none⟩ = some (.int .u64 (w0 (n) : Nat)) := by rw [cell_of_row _ _ _ _ _ _ hN]; rfl
      have zN0 := frozen_of_row _ _ 0 _ _ hN
      have cN1 : V7.cell? ⟨w.heap.size + 1, 1, none⟩ = some (.int .u64 (w1 (n) : Nat)) := by rw [cell_of_row _ _ _ _ _ _ hN]; rfl
      have zN1 := frozen_of_row _ _ 1 _ _ hN
      have cN2 : V7.cell? ⟨w.heap.size + 1, 2, none⟩ = some (.int .u64 (w2 (n) : Nat)) := by rw [cell_of_row _ _ _ _ _ _ hN]; rfl
      have zN2 := frozen_of_row _ _ 2 _ _ hN
      have cN3 : V7.cell? ⟨w.heap.size + 1, 3, none⟩ = some (.int .u64 (w3 (n) : Nat)) := by rw [cell_of_row _ _ _ _ _ _ hN]; rfl
      have zN3 := frozen_of_row _ _ 3 _ _ hN
      go_wp2_with fail
      refine (bit_any (W4.mk' hlb.out) hi _).mono ?_
      rintro e V8 ⟨rfl, hb⟩
      replace hA := below_get hb (show _ = some (.cells #[.int .u64 (w0 (a % m) : Nat), .int .u64 (w1 (a % m) : Nat), .int .u64 (w2 (a % m) : Nat), .int .u64 (w3 (a % m) : Nat)] 24 (0, 0)) from hA)
      replace hN := below_get hb (show _ = some (.cells #[.int .u64 (w0 (n) : Nat), .int .u64 (w1 (n) : Nat), .int .u64 (w2 (n) : Nat), .int .u64 (w3 (n) : Nat)] 24 (0, 0)) from hN)
      replace hR := below_get hb (show _ = some (.cells #[.int .u64 0, .int .u64 0, .int .u64 0, .int .u64 0] 24 (0, 0)) from hR)
      replace hO := below_get hb (show _ = some (.cells #[.int .u64 (w0 (X * X % m) : Nat), .int .u64 (w1 (X * X % m) : Nat), .int .u64 (w2 (X * X % m) : Nat), .int .u64 (w3 (X * X % m) : Nat)] 24 (0, 0)) from hO)
      replace kk := bcl (by first | exact kk | exact kk.drew | exact below_drewN kk _) hb
      replace fF := HF.out.keep kk
      clear cN0 zN0 cN1 zN1 cN2 zN2 cN3 zN3
      clear hb
      have HP := Lib.hid (pow_bit m a n i)
      by_cases hbt : n / 2 ^ i % 2 = 1
      · have hbd : decide (n / 2 ^ i % 2 = 1) = true := decide_eq_true hbt
        have cO0 : V8.cell? ⟨bo, 0, none⟩ = some (.int .u64 (w0 (X * X % m) : Nat)) := by rw [cell_of_row _ _ _ _ _ _ hO]; rfl
        have zO0 := frozen_of_row _ _ 0 _ _ hO
        have cO1 : V8.cell? ⟨bo, 1, none⟩ = some (.int .u64 (w1 (X * X % m) : Nat)) := by rw [cell_of_row _ _ _ _ _ _ hO]; rfl
        have zO1 := frozen_of_row _ _ 1 _ _ hO
        have cO2 : V8.cell? ⟨bo, 2, none⟩ = some (.int .u64 (w2 (X * X % m) : Nat)) := by rw [cell_of_row _ _ _ _ _ _ hO]; rfl
        have zO2 := frozen_of_row _ _ 2 _ _ hO
        have cO3 : V8.cell? ⟨bo, 3, none⟩ = some (.int .u64 (w3 (X * X % m) : Nat)) := by rw [cell_of_row _ _ _ _ _ _ hO]; rfl
        have zO3 := frozen_of_row _ _ 3 _ _ hO
        have cA0 : V8.cell? ⟨w.heap.size, 0, none⟩ = some (.int .u64 (w0 (a % m) : Nat)) := by rw [cell_of_row _ _ _ _ _ _ hA]; rfl
        have zA0 := frozen_of_row _ _ 0 _ _ hA
        have cA1 : V8.cell? ⟨w.heap.size, 1, none⟩ = some (.int .u64 (w1 (a % m) : Nat)) := by rw [cell_of_row _ _ _ _ _ _ hA]; rfl
        have zA1 := frozen_of_row _ _ 1 _ _ hA
        have cA2 : V8.cell? ⟨w.heap.size, 2, none⟩ = some (.int .u64 (w2 (a % m) : Nat)) := by rw [cell_of_row _ _ _ _ _ _ hA]; rfl
        have zA2 := frozen_of_row _ _ 2 _ _ hA
        have cA3 : V8.cell? ⟨w.heap.size, 3, none⟩ = some (.int .u64 (w3 (a % m) : Nat)) := by rw [cell_of_row _ _ _ _ _ _ hA]; rfl
        have zA3 := frozen_of_row _ _ 3 _ _ hA
        go_wp2_with fail
        refine (mulF_any (W4.mk' (Nat.lt_trans (Nat.mod_lt _ hpos) HM.out)) (W4.mk' (Nat.lt_trans (Nat.mod_lt _ hpos) HM.out)) _ fF).mono ?_
        rintro e V9 ⟨rfl, hb⟩
        replace hA := below_get hb (show _ = some (.cells #[.int .u64 (w0 (a % m) : Nat), .int .u64 (w1 (a % m) : Nat), .int .u64 (w2 (a % m) : Nat), .int .u64 (w3 (a % m) : Nat)] 24 (0, 0)) from hA)
        replace hN := below_get hb (show _ = some (.cells #[.int .u64 (w0 (n) : Nat), .int .u64 (w1 (n) : Nat), .int .u64 (w2 (n) : Nat), .int .u64 (w3 (n) : Nat)] 24 (0, 0)) from hN)
        replace hR := below_get hb (show _ = some (.cells #[.int .u64 0, .int .u64 0, .int .u64 0, .int .u64 0] 24 (0, 0)) from hR)
        replace hO := below_get hb (show _ = some (.cells #[.int .u64 (w0 (X * X % m) : Nat), .int .u64 (w1 (X * X % m) : Nat), .int .u64 (w2 (X * X % m) : Nat), .int .u64 (w3 (X * X % m) : Nat)] 24 (0, 0)) from hO)
        replace kk := bcl (by first | exact kk | exact kk.drew | exact below_drewN kk _) hb
        replace fF := HF.out.keep kk
        clear cO0 zO0 cO1 zO1 cO2 zO2 cO3 zO3 cA0 zA0 cA1 zA1 cA2 zA2 cA3 zA3
        clear hb
        have cO0 : V9.cell? ⟨bo, 0, none⟩ = some (.int .u64 (w0 (X * X % m) : Nat)) := by rw [cell_of_row _ _ _ _ _ _ hO]; rfl
        have zO0 := frozen_of_row _ _ 0 _ _ hO
        have cO1 : V9.cell? ⟨bo, 1, none⟩ = some (.int .u64 (w1 (X * X % m) : Nat)) := by rw [cell_of_row _ _ _ _ _ _ hO]; rfl
        have zO1 := frozen_of_row _ _ 1 _ _ hO
        have cO2 : V9.cell? ⟨bo, 2, none⟩ = some (.int .u64 (w2 (X * X % m) : Nat)) := by rw [cell_of_row _ _ _ _ _ _ hO]; rfl
        have zO2 := frozen_of_row _ _ 2 _ _ hO
        have cO3 : V9.cell? ⟨bo, 3, none⟩ = some (.int .u64 (w3 (X * X % m) : Nat)) := by rw [cell_of_row _ _ _ _ _ _ hO]; rfl
        have zO3 := frozen_of_row _ _ 3 _ _ hO
        go_wp2_with fail
        refine ⟨⟨i, by omega, rfl, ?_, ?_, ?_, ?_, ?_⟩, ?_⟩
        · exact ((put4 _ _ _ _ hO).there _ (by omega)).trans hA
        · exact ((put4 _ _ _ _ hO).there _ (by omega)).trans hN
        · exact ((put4 _ _ _ _ hO).there _ (by omega)).trans hR
        · have e := HP.out
          rw [HX.out, if_pos hbt] at e
          rw [e, Nat.mod_mul_mod]
          exact (put4 _ _ _ _ hO).here
        · exact (put4 _ _ _ _ hO).below (by omega) kk
        · simp only [intOf]; omega
      · have hbd : decide (n / 2 ^ i % 2 = 1) = false := decide_eq_false hbt
        go_wp2_with fail
        refine ⟨⟨i, by omega, rfl, hA, hN, hR, ?_, kk⟩, ?_⟩
        · have e := HP.out
          rw [HX.out, if_neg hbt, Nat.mul_one, Nat.mod_mod] at e
          rw [e]; exact hO
        · simp only [intOf]; omega
end Go.Proofs.Ytgghopmlcpcpkaa
