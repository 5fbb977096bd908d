/- A step of the proof: what a function of the program computes, or a plain law of numbers. -/
import Derived.Test.YtgghopmlcpcpkaaPlus
import Derived.Deep.DeepCutAuto
import Derived.Deep.RegionHeld3
import Derived.Deep.RegionWith
import Derived.WalkSmall
namespace Go.Proofs.Ytgghopmlcpcpkaa
open Go.RowKit PlainK
set_option linter.unusedVariables false
set_option linter.unusedSimpArgs false
theorem low_bit (m : Nat) : bits .and .u64 (w0 m : Nat) 1 = ((m % 2 : Nat) : Int) := by
  have h := bits_and_u64_nat (w0 m) 1 (w_lt m).1 (by omega)
  rw [Nat.and_one_is_mod] at h
  have e : w0 m % 2 = m % 2 := by unfold w0; omega
  rw [e] at h
  exact h
theorem put59 {W : World} {g : Nat} {x0 x1 x2 x3 x4 x5 x6 x7 x8 : Value} {t : TypeId} (y0 y1 y2 y3 : Value) (hg : W.heap[g]? = some (.cells #[x0, x1, x2, x3, x4, x5, x6, x7, x8] t (0, 0))) :
    Put W ((((W.setCell ⟨g, 5, none⟩ y0).setCell ⟨g, 6, none⟩ y1).setCell ⟨g, 7, none⟩ y2).setCell ⟨g, 8, none⟩ y3) g (.cells #[x0, x1, x2, x3, x4, y0, y1, y2, y3] t (0, 0)) :=
  (((put1 y0 hg).trans (put1 y1 (put1 y0 hg).here)).trans (put1 y2 ((put1 y0 hg).trans (put1 y1 (put1 y0 hg).here)).here)).trans (put1 y3 (((put1 y0 hg).trans (put1 y1 (put1 y0 hg).here)).trans (put1 y2 ((put1 y0 hg).trans (put1 y1 (put1 y0 hg).here)).here)).here)
theorem dbl_fsq (m : Nat) : dbl m 512 = fsq m := by
  have h : ∀ n, n = 256 → dbl m (n + n) = 2 ^ n * 2 ^ n % m := fun n _ => by rw [dbl_eq, Nat.pow_add]
  exact h 256 rfl
def newtK (m : Nat) : Nat → Nat
  | 0 => 1
  | k + 1 => newt m (newtK m k)
theorem newt_wrap (m x : Nat) : IntKind.u64.wrap ((x : Int) * IntKind.u64.wrap (2 - IntKind.u64.wrap ((m : Int) * (x : Int)))) = (newt m x : Nat) := by
  simp only [IntKind.wrap_u64]
  unfold newt
  have e : (2 - (m : Int) * (x : Int) % 18446744073709551616) % 18446744073709551616 = (((2 + 2 ^ 64 - m * x % 2 ^ 64) % 2 ^ 64 : Nat) : Int) := by
    have e2 : (m : Int) * (x : Int) = ((m * x : Nat) : Int) := by rw [Int.natCast_mul]
    rw [e2]; generalize m * x = y; omega
  rw [e, ← Int.natCast_mul]
  omega
theorem ninv_wrap (m : Nat) : IntKind.u64.wrap (-(newtK m 6 : Nat) : Int) = (ninv m : Nat) := by
  have h : newtK m 6 = newt6 m := rfl
  have hl := newt6_lt m
  rw [h, IntKind.wrap_u64]; unfold ninv; omega
set_option maxRecDepth 10000 in
set_option maxHeartbeats 4000000 in
theorem newF_even {a0 a1 a2 a3 : Int} {m : Nat} (ha : W4 a0 a1 a2 a3 m) (w : World) (h2 : m % 2 = 0) :
   Calls Try.prog 18 #[.agg #[.int .u64 a0, .int .u64 a1, .int .u64 a2, .int .u64 a3]] w fun e w' => e = .returned (.tuple #[.pointer none, .int .i64 1]) ∧ Below w.heap.size w w' := by
  obtain ⟨rfl, rfl, rfl, rfl, la⟩ := ha
  have hlb := low_bit m
  rw [h2] at hlb
  have hlb' : bits .and .u64 (w0 m : Nat) 1 = 0 := hlb
  clear hlb la
  go_enter Try.func18, Try.ntmps18
  go_wp2_with fail
  go_quiet (fail)
  go_wp2_with fail
  refine bodyPost_ret (v := _) (by simp [results, Try.results18, go_sem]; rfl) rfl ?_
  refine ⟨rfl, ?_⟩
  exact below_drewN (bal (Below.refl _ _) _) _
set_option maxRecDepth 10000 in
set_option maxHeartbeats 4000000 in
theorem newF_one {a0 a1 a2 a3 : Int} {m : Nat} (ha : W4 a0 a1 a2 a3 m) (w : World) (h2 : m % 2 = 1) (h3 : m < 3) :
   Calls Try.prog 18 #[.agg #[.int .u64 a0, .int .u64 a1, .int .u64 a2, .int .u64 a3]] w fun e w' => e = .returned (.tuple #[.pointer none, .int .i64 1]) ∧ Below w.heap.size w w' := by
  obtain ⟨rfl, rfl, rfl, rfl, la⟩ := ha
  have hla := Lib.hid la
  have hlb := low_bit m
  rw [h2] at hlb
  have hlb' : bits .and .u64 (w0 m : Nat) 1 = 1 := hlb
  have hc : cmpI m 3 = -1 := cmp_m h3
  clear hlb la
  go_enter Try.func18, Try.ntmps18
  go_wp2_with fail
  obtain ⟨V0, hV0⟩ : ∃ V, (w.alloc (.cells #[.int .u64 (w0 (m) : Nat), .int .u64 (w1 (m) : Nat), .int .u64 (w2 (m) : Nat), .int .u64 (w3 (m) : Nat)] 24)) = V := ⟨_, rfl⟩
  rw [hV0]
  have g0 : V0.heap[w.heap.size]? = some (.cells #[.int .u64 (w0 (m) : Nat), .int .u64 (w1 (m) : Nat), .int .u64 (w2 (m) : Nat), .int .u64 (w3 (m) : Nat)] 24 (0, 0)) := by
    rw [← hV0]; simp only [alloc_at, World.size_alloc]; repeat (first | rw [if_pos trivial] | rw [if_pos (by omega)] | rw [if_neg (by omega)])
  have k0 : Below w.heap.size w V0 := by
    rw [← hV0]
    repeat (first | exact Below.refl _ _ | refine Below.drew ?_ | refine bal ?_ _)
  clear hV0
  have ca0 : V0.cell? ⟨w.heap.size, 0, none⟩ = some (.int .u64 (w0 (m) : Nat)) := by rw [cell_of_row _ _ _ _ _ _ g0]; rfl
  have ca1 : V0.cell? ⟨w.heap.size, 1, none⟩ = some (.int .u64 (w1 (m) : Nat)) := by rw [cell_of_row _ _ _ _ _ _ g0]; rfl
  have ca2 : V0.cell? ⟨w.heap.size, 2, none⟩ = some (.int .u64 (w2 (m) : Nat)) := by rw [cell_of_row _ _ _ _ _ _ g0]; rfl
  have ca3 : V0.cell? ⟨w.heap.size, 3, none⟩ = some (.int .u64 (w3 (m) : Nat)) := by rw [cell_of_row _ _ _ _ _ _ g0]; rfl
  go_region_held3 (fun w' => w'.cell? ⟨w.heap.size, 0, none⟩ = some (.int .u64 (w0 (m) : Nat)) ∧ w'.cell? ⟨w.heap.size, 1, none⟩ = some (.int .u64 (w1 (m) : Nat)) ∧ w'.cell? ⟨w.heap.size, 2, none⟩ = some (.int .u64 (w2 (m) : Nat)) ∧ w'.cell? ⟨w.heap.size, 3, none⟩ = some (.int .u64 (w3 (m) : Nat))) (first | (with_reducible exact ⟨ca0, ca1, ca2, ca3⟩) | (with_reducible exact ⟨cb0, cb1, cb2, cb3⟩) | (with_reducible exact ⟨cc0, cc1, cc2, cc3⟩) | go_keep) (first | (go_at_call 17; refine (of_any _ _).mono ?_; rintro e V1 ⟨rfl, hb⟩; (have g1 := below_get hb (show _ = some (.cells #[.int .u64 (w0 (m) : Nat), .int .u64 (w1 (m) : Nat), .int .u64 (w2 (m) : Nat), .int .u64 (w3 (m) : Nat)] 24 (0, 0)) from g0)); (have k1 := bcl (by first | exact k0 | exact k0.drew) hb); (have cb0 : V1.cell? ⟨w.heap.size, 0, none⟩ = some (.int .u64 (w0 (m) : Nat)) := by rw [cell_of_row _ _ _ _ _ _ g1]; rfl); (have cb1 : V1.cell? ⟨w.heap.size, 1, none⟩ = some (.int .u64 (w1 (m) : Nat)) := by rw [cell_of_row _ _ _ _ _ _ g1]; rfl); (have cb2 : V1.cell? ⟨w.heap.size, 2, none⟩ = some (.int .u64 (w2 (m) : Nat)) := by rw [cell_of_row _ _ _ _ _ _ g1]; rfl); (have cb3 : V1.cell? ⟨w.heap.size, 3, none⟩ = some (.int .u64 (w3 (m) : Nat)) := by rw [cell_of_row _ _ _ _ _ _ g1]; rfl); clear hb) | (go_at_call 50; refine (cmp_any (W4.mk' hla.out) (W4.small (n := 3) rfl (by decide)) _).mono ?_; rintro e V2 ⟨rfl, hb⟩; (have g2 := below_get hb g1); (have k2 := bcl k1 hb); (have cc0 : V2.cell? ⟨w.heap.size, 0, none⟩ = some (.int .u64 (w0 (m) : Nat)) := by rw [cell_of_row _ _ _ _ _ _ g2]; rfl); (have cc1 : V2.cell? ⟨w.heap.size, 1, none⟩ = some (.int .u64 (w1 (m) : Nat)) := by rw [cell_of_row _ _ _ _ _ _ g2]; rfl); (have cc2 : V2.cell? ⟨w.heap.size, 2, none⟩ = some (.int .u64 (w2 (m) : Nat)) := by rw [cell_of_row _ _ _ _ _ _ g2]; rfl); (have cc3 : V2.cell? ⟨w.heap.size, 3, none⟩ = some (.int .u64 (w3 (m) : Nat)) := by rw [cell_of_row _ _ _ _ _ _ g2]; rfl); clear hb))
  go_simp
  go_wp2_with fail
  refine bodyPost_ret (v := _) (by simp [results, Try.results18, go_sem]; rfl) rfl ?_
  exact ⟨rfl, k2⟩
set_option maxRecDepth 10000 in
set_option maxHeartbeats 4000000 in
theorem newF_any {a0 a1 a2 a3 : Int} {m : Nat} (ha : W4 a0 a1 a2 a3 m) (w : World) (h2 : m % 2 = 1) (h3 : 3 ≤ m) :
   Calls Try.prog 18 #[.agg #[.int .u64 a0, .int .u64 a1, .int .u64 a2, .int .u64 a3]] w fun e w' => ∃ g, w.heap.size ≤ g ∧ e = .returned (.tuple #[.pointer (some ⟨g, 0, none⟩), .int .i64 0]) ∧ IsF w' g m ∧ Below w.heap.size w w' := by
  obtain ⟨rfl, rfl, rfl, rfl, la⟩ := ha
  have hla := Lib.hid la
  have hlb := low_bit m
  rw [h2] at hlb
  have hlb' : bits .and .u64 (w0 m : Nat) 1 = 1 := hlb
  have hc : 0 ≤ cmpI m 3 := by unfold cmpI; rw [if_neg (by omega)]; split <;> omega
  have HO := Lib.hid h2
  have HT := Lib.hid h3
  clear hlb la h2 h3
  go_enter Try.func18, Try.ntmps18
  go_wp2_with fail
  obtain ⟨V0, hV0⟩ : ∃ V, (w.alloc (.cells #[.int .u64 (w0 (m) : Nat), .int .u64 (w1 (m) : Nat), .int .u64 (w2 (m) : Nat), .int .u64 (w3 (m) : Nat)] 24)) = V := ⟨_, rfl⟩
  rw [hV0]
  have g0 : V0.heap[w.heap.size]? = some (.cells #[.int .u64 (w0 (m) : Nat), .int .u64 (w1 (m) : Nat), .int .u64 (w2 (m) : Nat), .int .u64 (w3 (m) : Nat)] 24 (0, 0)) := by
    rw [← hV0]; simp only [alloc_at, World.size_alloc]; repeat (first | rw [if_pos trivial] | rw [if_pos (by omega)] | rw [if_neg (by omega)])
  have k0 : Below w.heap.size w V0 := by
    rw [← hV0]
    repeat (first | exact Below.refl _ _ | refine Below.drew ?_ | refine bal ?_ _)
  clear hV0
  have ca0 : V0.cell? ⟨w.heap.size, 0, none⟩ = some (.int .u64 (w0 (m) : Nat)) := by rw [cell_of_row _ _ _ _ _ _ g0]; rfl
  have ca1 : V0.cell? ⟨w.heap.size, 1, none⟩ = some (.int .u64 (w1 (m) : Nat)) := by rw [cell_of_row _ _ _ _ _ _ g0]; rfl
  have ca2 : V0.cell? ⟨w.heap.size, 2, none⟩ = some (.int .u64 (w2 (m) : Nat)) := by rw [cell_of_row _ _ _ _ _ _ g0]; rfl
  have ca3 : V0.cell? ⟨w.heap.size, 3, none⟩ = some (.int .u64 (w3 (m) : Nat)) := by rw [cell_of_row _ _ _ _ _ _ g0]; rfl
  go_region_held3 (fun w' => w'.cell? ⟨w.heap.size, 0, none⟩ = some (.int .u64 (w0 (m) : Nat)) ∧ w'.cell? ⟨w.heap.size, 1, none⟩ = some (.int .u64 (w1 (m) : Nat)) ∧ w'.cell? ⟨w.heap.size, 2, none⟩ = some (.int .u64 (w2 (m) : Nat)) ∧ w'.cell? ⟨w.heap.size, 3, none⟩ = some (.int .u64 (w3 (m) : Nat))) (first | (with_reducible exact ⟨ca0, ca1, ca2, ca3⟩) | (with_reducible exact ⟨cb0, cb1, cb2, cb3⟩) | (with_reducible exact ⟨cc0, cc1, cc2, cc3⟩) | go_keep) (first | (go_at_call 17; refine (of_any _ _).mono ?_; rintro e V1 ⟨rfl, hb⟩; (have g1 := below_get hb (show _ = some (.cells #[.int .u64 (w0 (m) : Nat), .int .u64 (w1 (m) : Nat), .int .u64 (w2 (m) : Nat), .int .u64 (w3 (m) : Nat)] 24 (0, 0)) from g0)); (have k1 := bcl (by first | exact k0 | exact k0.drew) hb); (have cb0 : V1.cell? ⟨w.heap.size, 0, none⟩ = some (.int .u64 (w0 (m) : Nat)) := by rw [cell_of_row _ _ _ _ _ _ g1]; rfl); (have cb1 : V1.cell? ⟨w.heap.size, 1, none⟩ = some (.int .u64 (w1 (m) : Nat)) := by rw [cell_of_row _ _ _ _ _ _ g1]; rfl); (have cb2 : V1.cell? ⟨w.heap.size, 2, none⟩ = some (.int .u64 (w2 (m) : Nat)) := by rw [cell_of_row _ _ _ _ _ _ g1]; rfl); (have cb3 : V1.cell? ⟨w.heap.size, 3, none⟩ = some (.int .u64 (w3 (m) : Nat)) := by rw [cell_of_row _ _ _ _ _ _ g1]; rfl); clear hb) | (go_at_call 50; refine (cmp_any (W4.mk' hla.out) (W4.small (n := 3) rfl (by decide)) _).mono ?_; rintro e V2 ⟨rfl, hb⟩; (have g2 := below_get hb g1); (have k2 := bcl k1 hb); (have cc0 : V2.cell? ⟨w.heap.size, 0, none⟩ = some (.int .u64 (w0 (m) : Nat)) := by rw [cell_of_row _ _ _ _ _ _ g2]; rfl); (have cc1 : V2.cell? ⟨w.heap.size, 1, none⟩ = some (.int .u64 (w1 (m) : Nat)) := by rw [cell_of_row _ _ _ _ _ _ g2]; rfl); (have cc2 : V2.cell? ⟨w.heap.size, 2, none⟩ = some (.int .u64 (w2 (m) : Nat)) := by rw [cell_of_row _ _ _ _ _ _ g2]; rfl); (have cc3 : V2.cell? ⟨w.heap.size, 3, none⟩ = some (.int .u64 (w3 (m) : Nat)) := by rw [cell_of_row _ _ _ _ _ _ g2]; rfl); clear hb))
  go_simp
  clear ca0 ca1 ca2 ca3 cb0 cb1 cb2 cb3
  go_wp2_with fail
  obtain ⟨V3, hV3⟩ : ∃ V, (V2.alloc (.cells #[.int .u64 (w0 (m) : Nat), .int .u64 (w1 (m) : Nat), .int .u64 (w2 (m) : Nat), .int .u64 (w3 (m) : Nat), .int .u64 0, .int .u64 0, .int .u64 0, .int .u64 0, .int .u64 0] 90 (0, 0))) = V := ⟨_, rfl⟩
  rw [hV3]
  obtain ⟨g, hg⟩ : ∃ n, V2.heap.size = n := ⟨_, rfl⟩
  rw [hg]
  have hgw : w.heap.size < g := by rw [← hg]; exact lt_of_heap g2
  have g3 : V3.heap[w.heap.size]? = some (.cells #[.int .u64 (w0 (m) : Nat), .int .u64 (w1 (m) : Nat), .int .u64 (w2 (m) : Nat), .int .u64 (w3 (m) : Nat)] 24 (0, 0)) := by rw [← hV3]; exact ak g2
  have k3 : Below w.heap.size w V3 := by rw [← hV3]; exact bal k2 _
  have f3 : V3.heap[g]? = some (.cells #[.int .u64 (w0 (m) : Nat), .int .u64 (w1 (m) : Nat), .int .u64 (w2 (m) : Nat), .int .u64 (w3 (m) : Nat), .int .u64 0, .int .u64 0, .int .u64 0, .int .u64 0, .int .u64 0] 90 (0, 0)) := by rw [← hV3, ← hg]; exact heap_alloc_new _ _
  clear hV3 hg g0 g1 g2 k0 k1 k2 cc0 cc1 cc2 cc3
  have cm0 : V3.cell? ⟨w.heap.size, 0, none⟩ = some (.int .u64 (w0 (m) : Nat)) := by rw [cell_of_row _ _ _ _ _ _ g3]; rfl
  have cm1 : V3.cell? ⟨w.heap.size, 1, none⟩ = some (.int .u64 (w1 (m) : Nat)) := by rw [cell_of_row _ _ _ _ _ _ g3]; rfl
  have cm2 : V3.cell? ⟨w.heap.size, 2, none⟩ = some (.int .u64 (w2 (m) : Nat)) := by rw [cell_of_row _ _ _ _ _ _ g3]; rfl
  have cm3 : V3.cell? ⟨w.heap.size, 3, none⟩ = some (.int .u64 (w3 (m) : Nat)) := by rw [cell_of_row _ _ _ _ _ _ g3]; rfl
  go_loopw [5, 19] (fun x i wr => ∃ (k n : Nat), k ≤ 6 ∧ i = .int .i64 k ∧ x = .int .u64 (newtK (w0 m) k : Nat) ∧ wr = V3.drewN n) (fun x i wr => 6 - (intOf i).toNat)
  case atStart => exact ⟨0, 0, by omega, rfl, rfl, rfl⟩
  case round =>
    obtain ⟨k, n, hk, rfl, rfl, rfl⟩ := hrel
    by_cases hk6 : k < 6
    · have k2 : (k : Int) < 6 := by omega
      have hw := newt_wrap (w0 m) (newtK (w0 m) k)
      go_wp2_with fail
      refine ⟨⟨k + 1, _, by omega, ?_, ?_, rfl⟩, ?_⟩
      · exact congrArg (Value.int .i64) (by omega)
      · rfl
      · simp only [intOf]; omega
    · have k2 : ¬ (k : Int) < 6 := by omega
      obtain rfl : k = 6 := by omega
      obtain ⟨V4, hV4⟩ : ∃ V, V3.drewN n = V := ⟨_, rfl⟩
      rw [hV4]
      have f4 : V4.heap[g]? = some (.cells #[.int .u64 (w0 (m) : Nat), .int .u64 (w1 (m) : Nat), .int .u64 (w2 (m) : Nat), .int .u64 (w3 (m) : Nat), .int .u64 0, .int .u64 0, .int .u64 0, .int .u64 0, .int .u64 0] 90 (0, 0)) := by rw [← hV4]; exact f3
      have k4 : Below w.heap.size w V4 := by rw [← hV4]; exact below_drewN k3 _
      clear hV4 cm0 cm1 cm2 cm3 f3 g3 k3
      have hw := ninv_wrap (w0 m)
      have e4 : V4.cell? ⟨g, 4, none⟩ = some (.int .u64 0) := by rw [cell_of_row _ _ _ _ _ _ f4]; rfl
      have e4f := frozen_of_row _ _ 4 _ _ f4
      go_wp2_with fail
      have P := put1 (i := 4) (.int .u64 (ninv (w0 m) : Nat)) f4
      obtain ⟨V5, hV5⟩ : ∃ V, World.setCell V4 ⟨g, 4, none⟩ (.int .u64 (ninv (w0 m) : Nat)) = V := ⟨_, rfl⟩
      rw [hV5] at P ⊢
      have f5 : V5.heap[g]? = some (.cells #[.int .u64 (w0 (m) : Nat), .int .u64 (w1 (m) : Nat), .int .u64 (w2 (m) : Nat), .int .u64 (w3 (m) : Nat), .int .u64 (ninv (w0 m) : Nat), .int .u64 0, .int .u64 0, .int .u64 0, .int .u64 0] 90 (0, 0)) := P.here
      have k5 := P.below (Nat.le_of_lt hgw) k4
      clear P hV5 e4 e4f f4 k4
      refine (of_any _ _).mono ?_
      rintro e V6 ⟨rfl, hb⟩
      have f6 := below_get hb f5
      have k6 := bcl k5 hb
      clear hb f5 k5
      go_wp2_with fail
      refine (reduce_any (W4.small (n := 1) rfl (by decide)) _ ⟨⟨_, _, _, _, _, f6⟩, HO.out, HT.out, hla.out⟩).mono ?_
      rintro e V7 ⟨rfl, hb⟩
      have f7 := below_get hb f6
      have k7 := bcl k6 hb
      clear hb f6 k6
      have e5 : V7.cell? ⟨g, 5, none⟩ = some (.int .u64 0) := by rw [cell_of_row _ _ _ _ _ _ f7]; rfl
      have e6 : V7.cell? ⟨g, 6, none⟩ = some (.int .u64 0) := by rw [cell_of_row _ _ _ _ _ _ f7]; rfl
      have e7 : V7.cell? ⟨g, 7, none⟩ = some (.int .u64 0) := by rw [cell_of_row _ _ _ _ _ _ f7]; rfl
      have e8 : V7.cell? ⟨g, 8, none⟩ = some (.int .u64 0) := by rw [cell_of_row _ _ _ _ _ _ f7]; rfl
      have ef0 := frozen_of_row _ _ 5 _ _ f7
      have ef1 := frozen_of_row _ _ 6 _ _ f7
      have ef2 := frozen_of_row _ _ 7 _ _ f7
      have ef3 := frozen_of_row _ _ 8 _ _ f7
      go_wp2_with fail
      have P := put59 (.int .u64 (w0 (1 % m) : Nat)) (.int .u64 (w1 (1 % m) : Nat)) (.int .u64 (w2 (1 % m) : Nat)) (.int .u64 (w3 (1 % m) : Nat)) f7
      obtain ⟨V8, hV8⟩ : ∃ V, ((((World.setCell V7 ⟨g, 5, none⟩ (.int .u64 (w0 (1 % m) : Nat))).setCell ⟨g, 6, none⟩ (.int .u64 (w1 (1 % m) : Nat))).setCell ⟨g, 7, none⟩ (.int .u64 (w2 (1 % m) : Nat))).setCell ⟨g, 8, none⟩ (.int .u64 (w3 (1 % m) : Nat))) = V := ⟨_, rfl⟩
      rw [hV8] at P ⊢
      have f8 := P.here
      have k8 := P.below (Nat.le_of_lt hgw) k7
      clear P hV8 e5 e6 e7 e8 ef0 ef1 ef2 ef3 f7 k7
      go_loopw [40] (fun i wr => ∃ (k : Nat), k ≤ 512 ∧ i = .int .i64 k ∧ wr.heap[g]? = some (.cells #[.int .u64 (w0 (m) : Nat), .int .u64 (w1 (m) : Nat), .int .u64 (w2 (m) : Nat), .int .u64 (w3 (m) : Nat), .int .u64 (ninv (w0 m) : Nat), .int .u64 (w0 (dbl m k) : Nat), .int .u64 (w1 (dbl m k) : Nat), .int .u64 (w2 (dbl m k) : Nat), .int .u64 (w3 (dbl m k) : Nat)] 90 (0, 0)) ∧ Below w.heap.size w wr) (fun i wr => 512 - (intOf i).toNat)
      case atStart => exact ⟨0, by omega, rfl, f8, k8⟩
      case round =>
        obtain ⟨k, hk, rfl, fr, kr⟩ := hrel
        clear f8 k8
        by_cases hk6 : k < 512
        · have k2 : (k : Int) < 512 := by omega
          obtain ⟨D, hD⟩ : ∃ n, dbl m k = n := ⟨_, rfl⟩
          have hDm : D < m := by rw [← hD, dbl_eq]; exact Nat.mod_lt _ (by have := HT.out; omega)
          have hD1 : dbl m (k + 1) = (D + D) % m := by rw [← hD]; rfl
          rw [hD] at fr
          have HD := Lib.hid hD1
          have HDM := Lib.hid hDm
          clear hD hD1 hDm
          go_upto_region 13 with fail
          have cs0 : wr.cell? ⟨g, 5, none⟩ = some (.int .u64 (w0 (D) : Nat)) := by rw [cell_of_row _ _ _ _ _ _ fr]; rfl
          have cs1 : wr.cell? ⟨g, 6, none⟩ = some (.int .u64 (w1 (D) : Nat)) := by rw [cell_of_row _ _ _ _ _ _ fr]; rfl
          have cs2 : wr.cell? ⟨g, 7, none⟩ = some (.int .u64 (w2 (D) : Nat)) := by rw [cell_of_row _ _ _ _ _ _ fr]; rfl
          have cs3 : wr.cell? ⟨g, 8, none⟩ = some (.int .u64 (w3 (D) : Nat)) := by rw [cell_of_row _ _ _ _ _ _ fr]; rfl
          go_region_with (go_at_call 61; refine (plus_any (W4.mk' (Nat.lt_trans HDM.out hla.out)) (W4.mk' (Nat.lt_trans HDM.out hla.out)) _ (by exact ⟨⟨_, _, _, _, _, fr⟩, HO.out, HT.out, hla.out⟩) HDM.out HDM.out).mono ?_; rintro e V9 ⟨rfl, hb⟩; (have f9 := below_get hb (show _ = some (.cells #[.int .u64 (w0 (m) : Nat), .int .u64 (w1 (m) : Nat), .int .u64 (w2 (m) : Nat), .int .u64 (w3 (m) : Nat), .int .u64 (ninv (w0 m) : Nat), .int .u64 (w0 (D) : Nat), .int .u64 (w1 (D) : Nat), .int .u64 (w2 (D) : Nat), .int .u64 (w3 (D) : Nat)] 90 (0, 0)) from fr)); (have k9 := bcl (by first | exact kr | exact kr.drew) hb); (have ct0 : V9.cell? ⟨g, 5, none⟩ = some (.int .u64 (w0 (D) : Nat)) := by rw [cell_of_row _ _ _ _ _ _ f9]; rfl); (have ct1 : V9.cell? ⟨g, 6, none⟩ = some (.int .u64 (w1 (D) : Nat)) := by rw [cell_of_row _ _ _ _ _ _ f9]; rfl); (have ct2 : V9.cell? ⟨g, 7, none⟩ = some (.int .u64 (w2 (D) : Nat)) := by rw [cell_of_row _ _ _ _ _ _ f9]; rfl); (have ct3 : V9.cell? ⟨g, 8, none⟩ = some (.int .u64 (w3 (D) : Nat)) := by rw [cell_of_row _ _ _ _ _ _ f9]; rfl); (have cf0 := frozen_of_row _ _ 5 _ _ f9); (have cf1 := frozen_of_row _ _ 6 _ _ f9); (have cf2 := frozen_of_row _ _ 7 _ _ f9); (have cf3 := frozen_of_row _ _ 8 _ _ f9); clear hb)
          all_goals go_wp2_with fail
          all_goals
            refine ⟨⟨k + 1, by omega, ?_, ?_, ?_⟩, ?_⟩
            · exact congrArg (Value.int .i64) (by omega)
            · rw [HD.out]; exact (put59 _ _ _ _ f9).here
            · first | exact (put59 _ _ _ _ f9).below (Nat.le_of_lt hgw) k9 | exact ((put59 _ _ _ _ f9).below (Nat.le_of_lt hgw) k9).drew
            · simp only [intOf]; omega
        · have k2 : ¬ (k : Int) < 512 := by omega
          obtain rfl : k = 512 := by omega
          go_wp2_with fail
          refine bodyPost_ret (v := _) (by simp [results, Try.results18, go_sem]; rfl) rfl ?_
          refine ⟨g, Nat.le_of_lt hgw, rfl, ⟨?_, HO.out, HT.out, hla.out⟩, kr⟩
          have e : dbl m 512 = fsq m := dbl_fsq m
          rw [← e]; exact fr
end Go.Proofs.Ytgghopmlcpcpkaa
