/- A step of the proof: what a function of the program computes, or a plain law of numbers. -/
import Derived.Test.YtgghopmlcpcpkaaDiv
namespace Go.Proofs.Ytgghopmlcpcpkaa
open Go.RowKit PlainK
set_option linter.unusedVariables false
set_option linter.unusedSimpArgs false

theorem add64_run00 (x : Nat) (w : World) : (callFunc 67 #[.int .u64 x, .int .u64 0, .int .u64 0]).run Try.prog w = .ok (.value (.tuple #[.int .u64 (s64 x 0 0 : Nat), .int .u64 (c64 x 0 0 : Nat)])) w := add64_run x 0 0 (by omega) w
def mhi (x y : Nat) : Nat := x * y / 18446744073709551616
def mlo (x y : Nat) : Nat := x * y % 18446744073709551616
def hsum (a x t : Nat) : Nat := mhi a x + c64 (mlo a x) t 0
def lnew (a x t k : Nat) : Nat := s64 (s64 (mlo a x) t 0) k 0
def lcar (a x t k : Nat) : Nat := hsum a x t + c64 (s64 (mlo a x) t 0) k 0
theorem mlo_lt (x y : Nat) : mlo x y < 18446744073709551616 := Nat.mod_lt _ (by decide)
theorem mhi_le {x y : Nat} (hx : x < 18446744073709551616) (hy : y < 18446744073709551616) : mhi x y ≤ 18446744073709551614 := by
  unfold mhi
  have h : x * y ≤ 18446744073709551615 * 18446744073709551615 := Nat.mul_le_mul (by omega) (by omega)
  omega
theorem l_eq (a x t k : Nat) : lnew a x t k + 18446744073709551616 * lcar a x t k = a * x + t + k ∧ lnew a x t k < 18446744073709551616 := by
  have h1 := (s64_eq (mlo a x) t 0).1
  have h2 := s64_eq (s64 (mlo a x) t 0) k 0
  have h3 := Nat.div_add_mod (a * x) 18446744073709551616
  unfold lnew lcar hsum mhi
  unfold mlo at *
  omega
theorem l_lt {a x t k : Nat} (ha : a < 18446744073709551616) (hx : x < 18446744073709551616) (ht : t < 18446744073709551616) (hk : k < 18446744073709551616) : lcar a x t k < 18446744073709551616 := by
  have h1 := (l_eq a x t k).1
  have h : a * x ≤ 18446744073709551615 * 18446744073709551615 := Nat.mul_le_mul (by omega) (by omega)
  omega
theorem mul_run (x y : Nat) (hx : big x) (hy : big y) (w : World) : Calls Try.prog 95 #[.int .u64 x, .int .u64 y] w fun e w' => e = .returned (.tuple #[.int .u64 (mhi x y : Nat), .int .u64 (mlo x y : Nat)]) ∧ w = w' :=
  (Try.bits_Mul64 x y hx hy w).mono fun _ _ ⟨h1, h2⟩ => ⟨h1, h2.symm⟩
theorem hsum_wrap {a x t : Nat} (ha : big a) (hx : big x) (ht : big t) : IntKind.u64.wrap ((mhi a x : Nat) + (c64 (mlo a x) t 0 : Nat) : Int) = (hsum a x t : Nat) := by
  have h1 := mhi_le ha hx
  have h2 := c64_le (show big (mlo a x) from mlo_lt a x) ht (Nat.zero_le 1)
  unfold hsum
  rw [IntKind.wrap_u64]
  omega
theorem lcar_wrap {a x t k : Nat} (ha : big a) (hx : big x) (ht : big t) (hk : big k) : IntKind.u64.wrap ((hsum a x t : Nat) + (c64 (s64 (mlo a x) t 0) k 0 : Nat) : Int) = (lcar a x t k : Nat) := by
  have h1 := l_lt ha hx ht hk
  unfold lcar at *
  rw [IntKind.wrap_u64]
  omega

/-- four steps: so much is added, so much goes beyond -/
theorem line_words {n a x : Nat} (hn : n < 2 ^ 256) (ha : a < 2 ^ 256) (hx : x < 18446744073709551616) :
    let k1 := lcar (w0 a) x (w0 n) 0
    let k2 := lcar (w1 a) x (w1 n) k1
    let k3 := lcar (w2 a) x (w2 n) k2
    lnew (w0 a) x (w0 n) 0 = w0 ((n + a * x) % 2 ^ 256) ∧ lnew (w1 a) x (w1 n) k1 = w1 ((n + a * x) % 2 ^ 256) ∧ lnew (w2 a) x (w2 n) k2 = w2 ((n + a * x) % 2 ^ 256) ∧ lnew (w3 a) x (w3 n) k3 = w3 ((n + a * x) % 2 ^ 256) ∧
      lcar (w3 a) x (w3 n) k3 = (n + a * x) / 2 ^ 256 := by
  intro k1 k2 k3
  have ea := ofW_w ha
  have en := ofW_w hn
  obtain ⟨p0, q0⟩ := l_eq (w0 a) x (w0 n) 0
  obtain ⟨p1, q1⟩ := l_eq (w1 a) x (w1 n) k1
  obtain ⟨p2, q2⟩ := l_eq (w2 a) x (w2 n) k2
  obtain ⟨p3, q3⟩ := l_eq (w3 a) x (w3 n) k3
  change lnew (w0 a) x (w0 n) 0 + 18446744073709551616 * k1 = _ at p0
  change lnew (w1 a) x (w1 n) k1 + 18446744073709551616 * k2 = _ at p1
  change lnew (w2 a) x (w2 n) k2 + 18446744073709551616 * k3 = _ at p2
  clear_value k1 k2 k3
  generalize lnew (w0 a) x (w0 n) 0 = s0 at *
  generalize lnew (w1 a) x (w1 n) k1 = s1 at *
  generalize lnew (w2 a) x (w2 n) k2 = s2 at *
  generalize lnew (w3 a) x (w3 n) k3 = s3 at *
  generalize lcar (w3 a) x (w3 n) k3 = k4 at *
  unfold ofW at ea en
  have eax : a * x = w0 a * x + 2 ^ 64 * (w1 a * x) + 2 ^ 128 * (w2 a * x) + 2 ^ 192 * (w3 a * x) := by
    conv => lhs; rw [← ea]
    grind
  have hs : n + a * x = ofW s0 s1 s2 s3 + 2 ^ 256 * k4 := by
    rw [eax]
    generalize w0 a * x = y0 at *
    generalize w1 a * x = y1 at *
    generalize w2 a * x = y2 at *
    generalize w3 a * x = y3 at *
    clear q0 q1 q2 q3 ha hn hx ea eax
    unfold ofW; omega
  have hl : ofW s0 s1 s2 s3 < 2 ^ 256 := (w_ofW q0 q1 q2 q3).2.2.2.2
  obtain ⟨hm, hk⟩ := add_fin hs hl
  obtain ⟨f0, f1, f2, f3⟩ := words_eq q0 q1 q2 q3 hm
  exact ⟨f0, f1, f2, f3, hk⟩

def lrest (n a x : Nat) : Nat := (n + a * x) % 2 ^ 256
def lover (n a x : Nat) : Nat := (n + a * x) / 2 ^ 256

/-- but for one block nothing has turned that was there -/
structure Only (g : Nat) (w w' : World) : Prop where
  os : w'.os = w.os
  tape : w'.tape = w.tape
  output : w'.output = w.output
  size : w.heap.size ≤ w'.heap.size
  block : ∀ k, k < w.heap.size → k ≠ g → w'.heap[k]? = w.heap[k]?
theorem Only.below {B g : Nat} {v w w' : World} (h : Only g w w') (hB : B ≤ g) (hs : B ≤ w.heap.size) (k : Below B v w) : Below B v w' :=
  k.trans ⟨h.os, h.tape, h.output, h.size, fun i hi => h.block i (by omega) (by omega)⟩
theorem Only.of_put {w v v' : World} {g : Nat} {o : Obj} (hb : Below w.heap.size w v) (hp : Put v v' g o) (h : v'.os = v.os) (h2 : v'.tape = v.tape) (h3 : v'.output = v.output) : Only g w v' :=
  ⟨h.trans hb.os, h2.trans hb.tape, h3.trans hb.output, by rw [hp.size]; exact hb.size, fun k hk hg => (hp.there k hg).trans (hb.block k hk)⟩

set_option maxHeartbeats 1000000 in
theorem line_any {a0 a1 a2 a3 : Int} {a n x g : Nat} {v4 v5 : Value} (ha : W4 a0 a1 a2 a3 a) (hn : n < 2 ^ 256) (hx : x < 18446744073709551616) (w : World) (hg : w.heap[g]? = some (.cells #[.int .u64 (w0 (n) : Nat), .int .u64 (w1 (n) : Nat), .int .u64 (w2 (n) : Nat), .int .u64 (w3 (n) : Nat), v4, v5] 121 (0, 0))) :
   Calls Try.prog 88 #[.pointer (some ⟨g, 0, none⟩), .agg #[.int .u64 a0, .int .u64 a1, .int .u64 a2, .int .u64 a3], .int .u64 x] w fun e w' =>
    e = .returned (.int .u64 (lover n a x : Nat)) ∧ w'.heap[g]? = some (.cells #[.int .u64 (w0 (lrest n a x) : Nat), .int .u64 (w1 (lrest n a x) : Nat), .int .u64 (w2 (lrest n a x) : Nat), .int .u64 (w3 (lrest n a x) : Nat), v4, v5] 121 (0, 0)) ∧ Only g w w' := by
  obtain ⟨rfl, rfl, rfl, rfl, la⟩ := ha
  obtain ⟨f0, f1, f2, f3, f4⟩ := line_words hn la hx
  obtain ⟨A0, A1, A2, A3⟩ := w_big a
  obtain ⟨N0, N1, N2, N3⟩ := w_big n
  have hX : big x := hx
  have b0 : big 0 := by unfold big; omega
  have b1 : big (lcar (w0 a) x (w0 n) 0) := l_lt A0 hx N0 b0
  have b2 := l_lt A1 hx N1 b1
  have b3 := l_lt A2 hx N2 b2
  have r0 := add64_run0
  have r00 := add64_run00
  have s0 := hsum_wrap A0 hX N0
  have s1 := hsum_wrap A1 hX N1
  have s2 := hsum_wrap A2 hX N2
  have s3 := hsum_wrap A3 hX N3
  have t0 := lcar_wrap A0 hX N0 b0
  have t1 := lcar_wrap A1 hX N1 b1
  have t2 := lcar_wrap A2 hX N2 b2
  have t3 := lcar_wrap A3 hX N3 b3
  have hlt : g < w.heap.size := by
    apply Classical.byContradiction; intro hh
    rw [Array.getElem?_eq_none (by omega)] at hg; cases hg
  have c0 : w.cell? ⟨g, 0, none⟩ = some (.int .u64 (w0 (n) : Nat)) := by rw [cell_of_row _ _ _ _ _ _ hg]; rfl
  have c1 : w.cell? ⟨g, 1, none⟩ = some (.int .u64 (w1 (n) : Nat)) := by rw [cell_of_row _ _ _ _ _ _ hg]; rfl
  have c2 : w.cell? ⟨g, 2, none⟩ = some (.int .u64 (w2 (n) : Nat)) := by rw [cell_of_row _ _ _ _ _ _ hg]; rfl
  have c3 : w.cell? ⟨g, 3, none⟩ = some (.int .u64 (w3 (n) : Nat)) := by rw [cell_of_row _ _ _ _ _ _ hg]; rfl
  have fr0 := frozen_of_row _ _ 0 _ _ hg
  have fr1 := frozen_of_row _ _ 1 _ _ hg
  have fr2 := frozen_of_row _ _ 2 _ _ hg
  have fr3 := frozen_of_row _ _ 3 _ _ hg
  have m0 := mul_run (w0 a) x A0 hX
  have m1 := mul_run (w1 a) x A1 hX
  have m2 := mul_run (w2 a) x A2 hX
  have m3 := mul_run (w3 a) x A3 hX
  have H := And.intro f0 (And.intro f1 (And.intro f2 (And.intro f3 f4)))
  have HH := Lib.hid H
  clear f0 f1 f2 f3 f4 H A0 A1 A2 A3 N0 N1 N2 N3 b0 b1 b2 b3 hX la hn hx
  have M0 := Lib.hid m0
  have M1 := Lib.hid m1
  have M2 := Lib.hid m2
  have M3 := Lib.hid m3
  clear m0 m1 m2 m3
  go_enter Try.func88, Try.ntmps88
  go_wp2_with fail
  refine wp_loop_rounds 5 ?_
  rw [rounds_succ]
  go_wp2_with fail
  refine (M0.out _).mono ?_
  rintro e V0 ⟨rfl, rfl⟩
  go_wp2_with fail
  go_region
  go_wp2_with fail
  rw [rounds_succ]
  go_wp2_with fail
  refine (M1.out _).mono ?_
  rintro e V1 ⟨rfl, rfl⟩
  go_wp2_with fail
  go_region
  go_wp2_with fail
  rw [rounds_succ]
  go_wp2_with fail
  refine (M2.out _).mono ?_
  rintro e V2 ⟨rfl, rfl⟩
  go_wp2_with fail
  go_region
  go_wp2_with fail
  rw [rounds_succ]
  go_wp2_with fail
  refine (M3.out _).mono ?_
  rintro e V3 ⟨rfl, rfl⟩
  go_wp2_with fail
  go_region
  go_wp2_with fail
  rw [rounds_succ]
  go_wp2_with fail
  go_ret
  obtain ⟨f0, f1, f2, f3, f4⟩ := HH.out
  have P := put46 (.int .u64 (w0 (lrest n a x) : Nat)) (.int .u64 (w1 (lrest n a x) : Nat)) (.int .u64 (w2 (lrest n a x) : Nat)) (.int .u64 (w3 (lrest n a x) : Nat)) hg
  have hP := P.size
  refine ⟨?_, ?_, ?_⟩
  · exact congrArg (fun z : Nat => Ending.returned (.int .u64 (z : Int))) f4
  · have e := Below.heap_alloc _ (.cells #[.int .u64 (w0 (a) : Nat), .int .u64 (w1 (a) : Nat), .int .u64 (w2 (a) : Nat), .int .u64 (w3 (a) : Nat)] 24) g (show g < _ from by rw [hP]; exact hlt)
    rw [P.here] at e
    unfold lrest at e
    rw [← f0, ← f1, ← f2, ← f3] at e
    unfold lrest
    rw [← f0, ← f1, ← f2, ← f3]
    exact e
  · unfold lrest at P hP
    rw [← f0, ← f1, ← f2, ← f3] at P hP
    refine ⟨rfl, rfl, rfl, ?_, ?_⟩
    · show w.heap.size ≤ (World.alloc _ _).heap.size
      rw [World.size_alloc]
      exact Nat.le_succ_of_le (Nat.le_of_eq hP.symm)
    · intro k hk hkg
      exact (Below.heap_alloc _ _ k (Nat.lt_of_lt_of_le hk (Nat.le_of_eq hP.symm))).trans (P.there k hkg)
end Go.Proofs.Ytgghopmlcpcpkaa
