/- Powers with exponents of a few bits are products, powers of sums of exponents are products of powers; without conditions. -/
import Derived.Test.YtgghopmlcpcpkaaNumM
import Derived.Test.YtgghopmlcpcpkaaInvM
import Derived.Test.YtgghopmlcpcpkaaLivesM
import Derived.Test.YtgghopmlcpcpkaaHeldT
import Derived.Test.YtgghopmlcpcpkaaHeldU
import Derived.Test.YtgghopmlcpcpkaaHeldV
import Derived.Test.YtgghopmlcpcpkaaFrame
namespace Go.Proofs.Ytgghopmlcpcpkaa.PResiduePowers
open Go.RowKit PlainK Go.Proofs.YtgghopmlcpcpkaaW.PrintWords Go.Proofs.YtgghopmlcpcpkaaW.PrintLast Go.Proofs.YtgghopmlcpcpkaaW.PrintMore
set_option linter.unusedVariables false
set_option linter.unusedSimpArgs false
theorem prod_bigP {x y k : Nat} (hk : k + k ≤ bigK) (hx : x < 2 ^ k) (hy : y < 2 ^ k) : x * y < 2 ^ bigK := by
  have h : x * y < 2 ^ k * 2 ^ k := Nat.mul_lt_mul'' hx hy
  rw [← Nat.pow_add] at h
  exact Nat.lt_of_lt_of_le h (Nat.pow_le_pow_right (by decide) hk)
theorem one_bigP {x : Nat} (hx : x < 2 ^ 256) : x < 2 ^ bigK := Nat.lt_of_lt_of_le hx (Nat.pow_le_pow_right (by decide) (by decide))
/-- the lowest bit set -/
def up1 (m : Nat) : Nat := m / 2 * 2 + 1
theorem or_one (x : Nat) : x ||| 1 = x / 2 * 2 + 1 := by
  have h : ∀ a : Nat, 2 * a + 1 = 2 * a ||| 1 := fun a => Nat.two_pow_add_eq_or_of_lt (i := 1) (b := 1) (by decide) a
  rcases Nat.mod_two_eq_zero_or_one x with h0 | h0
  · have e : x = 2 * (x / 2) := by omega
    have h1 := h (x / 2)
    rw [← e] at h1
    omega
  · have e : x = 2 * (x / 2) + 1 := by omega
    have h1 := h (x / 2)
    rw [← e] at h1
    have : x ||| 1 = x := by
      conv => lhs; rw [h1]
      rw [Nat.or_assoc, Nat.or_self, ← h1]
    omega
theorem or_cell (m : Nat) : bits .or .u64 ((w0 m : Nat) : Int) 1 = ((w0 (up1 m) : Nat) : Int) := by
  have h := bits_or_u64_nat (w0 m) 1 (by have := (w_lt m).1; omega) (by decide)
  rw [show ((1 : Nat) : Int) = 1 from rfl] at h
  rw [h, or_one]
  congr 1
  unfold w0 up1; omega
theorem up1_row (m : Nat) : (#[.int .u64 (w0 (m) : Nat), .int .u64 (w1 (m) : Nat), .int .u64 (w2 (m) : Nat), .int .u64 (w3 (m) : Nat)] : Array Value).setIfInBounds 0 (.int .u64 (w0 (up1 m) : Nat)) = #[.int .u64 (w0 (up1 m) : Nat), .int .u64 (w1 (up1 m) : Nat), .int .u64 (w2 (up1 m) : Nat), .int .u64 (w3 (up1 m) : Nat)] := by
  have h1 : w1 (up1 m) = w1 m := by unfold w1 up1; omega
  have h2 : w2 (up1 m) = w2 m := by unfold w2 up1; omega
  have h3 : w3 (up1 m) = w3 m := by unfold w3 up1; omega
  rw [h1, h2, h3]; rfl
theorem row_three : (#[.int .u64 (w0 (1) : Nat), .int .u64 (w1 (1) : Nat), .int .u64 (w2 (1) : Nat), .int .u64 (w3 (1) : Nat)] : Array Value).setIfInBounds 0 (.int .u64 3) = #[.int .u64 (w0 (3) : Nat), .int .u64 (w1 (3) : Nat), .int .u64 (w2 (3) : Nat), .int .u64 (w3 (3) : Nat)] := rfl
theorem up1_lt {m : Nat} (h : m < 2 ^ 256) : up1 m < 2 ^ 256 := by unfold up1; omega
theorem up1_odd (m : Nat) : up1 m % 2 = 1 := by unfold up1; omega
theorem pow_step (m a i : Nat) : powm m a i * a % m = powm m a (i + 1) := by
  unfold powm; rw [Nat.mod_mul_mod, Nat.pow_succ]
theorem pow_zero' (m a : Nat) : redm m 1 = powm m a 0 := by unfold redm powm; rw [Nat.pow_zero]
theorem pow_sum (m a p q : Nat) : powm m a (p + q) = mulm m (powm m a p) (powm m a q) := by
  unfold powm mulm; rw [Nat.pow_add, ← Nat.mul_mod]
set_option maxRecDepth 10000 in
set_option maxHeartbeats 8000000 in
theorem pows_any {d0 d1 d2 d3 a0 a1 a2 a3 b0 b1 b2 b3 c0 c1 c2 c3 x : Int} {m a p q : Nat} (hm : W4 d0 d1 d2 d3 m) (ha : W4 a0 a1 a2 a3 a) (hx : (Lit.int .u8 x).wf = true) (hb : W4 b0 b1 b2 b3 p) (hc : W4 c0 c1 c2 c3 q) (w : World) :
   Calls Try.prog 3 #[.agg #[.int .u64 d0, .int .u64 d1, .int .u64 d2, .int .u64 d3], .agg #[.int .u64 a0, .int .u64 a1, .int .u64 a2, .int .u64 a3], .int .u8 x, .agg #[.int .u64 b0, .int .u64 b1, .int .u64 b2, .int .u64 b3], .agg #[.int .u64 c0, .int .u64 c1, .int .u64 c2, .int .u64 c3]] w fun e w' => e = .returned (.bool true) ∧ Below w.heap.size w w' := by
  obtain ⟨rfl, rfl, rfl, rfl, lm⟩ := hm
  obtain ⟨rfl, rfl, rfl, rfl, la⟩ := ha
  obtain ⟨rfl, rfl, rfl, rfl, lb⟩ := hb
  obtain ⟨rfl, rfl, rfl, rfl, lc⟩ := hc
  have hM0 := Lib.hid lm
  have hla := Lib.hid la
  have hlb := Lib.hid lb
  have hlc := Lib.hid lc
  clear lm la lb lc
  obtain ⟨k, rfl, hk⟩ : ∃ k : Nat, x = (k : Int) ∧ k < 256 := by
    simp [Lit.wf, IntKind.min, IntKind.max, IntKind.signed, IntKind.bits] at hx
    exact ⟨x.toNat, by omega, by omega⟩
  clear hx
  obtain ⟨c, hc⟩ : ∃ c, k % 21 = c := ⟨_, rfl⟩
  have tc1 : Int.tmod (k : Int) 21 = (c : Int) := by rw [Int.tmod_eq_emod_of_nonneg (by omega)]; omega
  have tc2 : (k : Int) % 21 = (c : Int) := by omega
  have HC := Lib.hid (show c ≤ 20 by omega)
  clear hc hk
  go_enter Try.func3, Try.ntmps3
  go_upto_region 1 with fail
  obtain ⟨V0, hW⟩ : ∃ V, (((w.alloc (.cells #[.int .u64 (w0 (m) : Nat), .int .u64 (w1 (m) : Nat), .int .u64 (w2 (m) : Nat), .int .u64 (w3 (m) : Nat)] 24)).alloc (.cells #[.int .u64 (w0 (a) : Nat), .int .u64 (w1 (a) : Nat), .int .u64 (w2 (a) : Nat), .int .u64 (w3 (a) : Nat)] 24)).alloc (.cells #[.int .u64 (w0 (p) : Nat), .int .u64 (w1 (p) : Nat), .int .u64 (w2 (p) : Nat), .int .u64 (w3 (p) : Nat)] 24)).alloc (.cells #[.int .u64 (w0 (q) : Nat), .int .u64 (w1 (q) : Nat), .int .u64 (w2 (q) : Nat), .int .u64 (w3 (q) : Nat)] 24) = V := ⟨_, rfl⟩
  rw [hW]
  have hM : V0.heap[w.heap.size]? = some (.cells #[.int .u64 (w0 (m) : Nat), .int .u64 (w1 (m) : Nat), .int .u64 (w2 (m) : Nat), .int .u64 (w3 (m) : Nat)] 24 (0, 0)) := by
    rw [← hW]; simp only [alloc_at, World.size_alloc]; repeat (first | rw [if_pos trivial] | rw [if_pos (by omega)] | rw [if_neg (by omega)])
  have hA : V0.heap[w.heap.size + 1]? = some (.cells #[.int .u64 (w0 (a) : Nat), .int .u64 (w1 (a) : Nat), .int .u64 (w2 (a) : Nat), .int .u64 (w3 (a) : Nat)] 24 (0, 0)) := by
    rw [← hW]; simp only [alloc_at, World.size_alloc]; repeat (first | rw [if_pos trivial] | rw [if_pos (by omega)] | rw [if_neg (by omega)])
  have hE1 : V0.heap[w.heap.size + 2]? = some (.cells #[.int .u64 (w0 (p) : Nat), .int .u64 (w1 (p) : Nat), .int .u64 (w2 (p) : Nat), .int .u64 (w3 (p) : Nat)] 24 (0, 0)) := by
    rw [← hW]; simp only [alloc_at, World.size_alloc]; repeat (first | rw [if_pos trivial] | rw [if_pos (by omega)] | rw [if_neg (by omega)])
  have hE2 : V0.heap[w.heap.size + 3]? = some (.cells #[.int .u64 (w0 (q) : Nat), .int .u64 (w1 (q) : Nat), .int .u64 (w2 (q) : Nat), .int .u64 (w3 (q) : Nat)] 24 (0, 0)) := by
    rw [← hW]; simp only [alloc_at, World.size_alloc]; repeat (first | rw [if_pos trivial] | rw [if_pos (by omega)] | rw [if_neg (by omega)])
  have kk : Below w.heap.size w V0 := by
    rw [← hW]
    repeat (first | exact Below.refl _ _ | refine Below.drew ?_ | refine bal ?_ _)
  clear hW
  go_wp2_with fail
  refine (lives_any _).mono ?_
  rintro e V1 ⟨rfl, hb⟩
  replace hM := below_get hb hM
  replace hA := below_get hb hA
  replace hE1 := below_get hb hE1
  replace hE2 := below_get hb hE2
  replace kk := bcl (by first | exact kk | exact kk.drew | exact below_drewN kk _) hb
  clear hb
  have t0 := or_cell m
  obtain ⟨cM0, cM1, cM2, cM3⟩ := row4c hM
  obtain ⟨zM0, zM1, zM2, zM3⟩ := row4z hM
  go_upto_region 4 with fail
  clear t0
  have P := put1 (i := 0) (.int .u64 (w0 (up1 m) : Nat)) hM
  rw [up1_row m] at P
  replace P := put_hid P
  obtain ⟨V2, hV2, P⟩ := P
  rw [hV2]
  replace hM := P.here
  replace hA := (P.there _ (by omega)).trans hA
  replace hE1 := (P.there _ (by omega)).trans hE1
  replace hE2 := (P.there _ (by omega)).trans hE2
  replace kk := P.below (by omega) kk
  clear P hV2
  have hM1 := Lib.hid (up1_lt hM0.out)
  have hodd := Lib.hid (up1_odd m)
  obtain ⟨u, hu⟩ : ∃ u, up1 m = u := ⟨_, rfl⟩
  rw [hu] at hM hM1 hodd
  clear hu hM0
  by_cases h1 : u = 1
  · have q1 := eql_t (W4.mk' hM1.out) (W4.small (x := 1) (n := 1) rfl (by decide)) h1
    have H1 := Lib.hid h1
    clear h1
    obtain ⟨cM0, cM1, cM2, cM3⟩ := row4c hM
    obtain ⟨zM0, zM1, zM2, zM3⟩ := row4z hM
    try clear cM0 cM1 cM2 cM3
    obtain ⟨cM0, cM1, cM2, cM3⟩ := row4c hM
    go_region_held3 (fun w' => w'.cell? ⟨w.heap.size, 0, none⟩ = some (.int .u64 (w0 (u) : Nat)) ∧ w'.cell? ⟨w.heap.size, 1, none⟩ = some (.int .u64 (w1 (u) : Nat)) ∧ w'.cell? ⟨w.heap.size, 2, none⟩ = some (.int .u64 (w2 (u) : Nat)) ∧ w'.cell? ⟨w.heap.size, 3, none⟩ = some (.int .u64 (w3 (u) : Nat))) (first | (with_reducible exact ⟨cM0, cM1, cM2, cM3⟩) | go_keep) (first | (go_at_call 17; refine (of_any _ _).mono ?_; rintro e W ⟨rfl, hb⟩; (first | replace hM := below_get hb hM | replace hM := below_get hb (ak hM)); (first | replace hA := below_get hb hA | replace hA := below_get hb (ak hA)); (first | replace hE1 := below_get hb hE1 | replace hE1 := below_get hb (ak hE1)); (first | replace hE2 := below_get hb hE2 | replace hE2 := below_get hb (ak hE2)); (replace kk := bcl (by first | exact kk | exact kk.drew | exact bal kk _ | exact (bal kk _).drew) hb); (try clear cM0 cM1 cM2 cM3); (obtain ⟨cM0, cM1, cM2, cM3⟩ := row4c hM); clear hb))
    go_simp
    clear q1
    obtain ⟨cM0, cM1, cM2, cM3⟩ := row4c hM
    obtain ⟨zM0, zM1, zM2, zM3⟩ := row4z hM
    go_upto_region 6 with fail
    have P := put1 (i := 0) (.int .u64 3) hM
    rw [H1.out, row_three] at P
    replace P := put_hid P
    obtain ⟨V3, hV3, P⟩ := P
    rw [hV3]
    replace hM := P.here
    replace hA := (P.there _ (by omega)).trans hA
    replace hE1 := (P.there _ (by omega)).trans hE1
    replace hE2 := (P.there _ (by omega)).trans hE2
    replace kk := P.below (by omega) kk
    clear P hV3 hM1 hodd H1
    obtain ⟨t, ht⟩ : ∃ u, (3 : Nat) = u := ⟨_, rfl⟩
    rw [ht] at hM
    have hM1 := Lib.hid (show t < 2 ^ 256 by omega)
    have hodd := Lib.hid (show t % 2 = 1 by omega)
    have h3 : 3 ≤ t := by omega
    clear ht
    have lz := lt_of_heap hE2
    obtain ⟨cM0, cM1, cM2, cM3⟩ := row4c hM
    obtain ⟨zM0, zM1, zM2, zM3⟩ := row4z hM
    go_wp2_with fail
    refine (newF_any (W4.mk' hM1.out) _ hodd.out h3).mono ?_
    rintro e V4 ⟨g, hg, rfl, hF, hb⟩
    replace hM := below_get hb hM
    replace hA := below_get hb hA
    replace hE1 := below_get hb hE1
    replace hE2 := below_get hb hE2
    replace kk := bcl (by first | exact kk | exact kk.drew | exact below_drewN kk _) hb
    clear cM0 zM0 cM1 zM1 cM2 zM2 cM3 zM3
    clear hb
    have lg : w.heap.size + 4 ≤ g := by omega
    clear lz
    have hgM := hg
    have HF := Lib.hid hF
    have hQ := hF.blk
    have fF := hF
    clear hF
    have hpos : 0 < t := by omega
    have HM := hM1
    clear hM1 hodd h3
    go_wp2_with fail
    refine (of_any _ _).mono ?_
    rintro e V5 ⟨rfl, hb⟩
    replace hM := below_get hb hM
    replace hA := below_get hb hA
    replace hE1 := below_get hb hE1
    replace hE2 := below_get hb hE2
    replace hQ := below_get hb hQ
    replace kk := bcl (by first | exact kk | exact kk.drew | exact below_drewN kk _) hb
    replace fF := IsF.of HF.out hQ
    clear hb
    go_wp2_with fail
    refine (redG_any (W4.small (x := 1) (n := 1) rfl (by decide)) _ fF).mono ?_
    rintro e V6 ⟨rfl, hb⟩
    replace hM := below_get hb hM
    replace hA := below_get hb hA
    replace hE1 := below_get hb hE1
    replace hE2 := below_get hb hE2
    replace hQ := below_get hb hQ
    replace kk := bcl (by first | exact kk | exact kk.drew | exact below_drewN kk _) hb
    replace fF := IsF.of HF.out hQ
    clear hb
    go_upto_region 11 with fail
    rw [pow_zero' t a]
    obtain ⟨V7, hW⟩ : ∃ V, V6.alloc (.cells #[.int .u64 (w0 (powm t a 0) : Nat), .int .u64 (w1 (powm t a 0) : Nat), .int .u64 (w2 (powm t a 0) : Nat), .int .u64 (w3 (powm t a 0) : Nat)] 24 (0, 0)) = V := ⟨_, rfl⟩
    rw [hW]
    obtain ⟨b13, hbx⟩ : ∃ n, V6.heap.size = n := ⟨_, rfl⟩
    rw [hbx]
    have hNEW : V7.heap[b13]? = some (.cells #[.int .u64 (w0 (powm t a 0) : Nat), .int .u64 (w1 (powm t a 0) : Nat), .int .u64 (w2 (powm t a 0) : Nat), .int .u64 (w3 (powm t a 0) : Nat)] 24 (0, 0)) := by rw [← hW, ← hbx]; exact heap_alloc_new _ _
    have lOM : w.heap.size < b13 := by rw [← hbx]; exact lt_of_heap hM
    replace hM : V7.heap[w.heap.size]? = some (.cells #[.int .u64 (w0 (t) : Nat), .int .u64 (w1 (t) : Nat), .int .u64 (w2 (t) : Nat), .int .u64 (w3 (t) : Nat)] 24 (0, 0)) := by rw [← hW]; exact ak hM
    have lOA : w.heap.size + 1 < b13 := by rw [← hbx]; exact lt_of_heap hA
    replace hA : V7.heap[w.heap.size + 1]? = some (.cells #[.int .u64 (w0 (a) : Nat), .int .u64 (w1 (a) : Nat), .int .u64 (w2 (a) : Nat), .int .u64 (w3 (a) : Nat)] 24 (0, 0)) := by rw [← hW]; exact ak hA
    have lOE1 : w.heap.size + 2 < b13 := by rw [← hbx]; exact lt_of_heap hE1
    replace hE1 : V7.heap[w.heap.size + 2]? = some (.cells #[.int .u64 (w0 (p) : Nat), .int .u64 (w1 (p) : Nat), .int .u64 (w2 (p) : Nat), .int .u64 (w3 (p) : Nat)] 24 (0, 0)) := by rw [← hW]; exact ak hE1
    have lOE2 : w.heap.size + 3 < b13 := by rw [← hbx]; exact lt_of_heap hE2
    replace hE2 : V7.heap[w.heap.size + 3]? = some (.cells #[.int .u64 (w0 (q) : Nat), .int .u64 (w1 (q) : Nat), .int .u64 (w2 (q) : Nat), .int .u64 (w3 (q) : Nat)] 24 (0, 0)) := by rw [← hW]; exact ak hE2
    have lOQ : g < b13 := by rw [← hbx]; exact lt_of_heap hQ
    replace hQ : V7.heap[g]? = some (.cells #[.int .u64 (w0 (t) : Nat), .int .u64 (w1 (t) : Nat), .int .u64 (w2 (t) : Nat), .int .u64 (w3 (t) : Nat), .int .u64 (finv1 (t) : Nat), .int .u64 (w0 (fsq (t)) : Nat), .int .u64 (w1 (fsq (t)) : Nat), .int .u64 (w2 (fsq (t)) : Nat), .int .u64 (w3 (fsq (t)) : Nat)] 90 (0, 0)) := by rw [← hW]; exact ak hQ
    have lO : w.heap.size ≤ b13 := by rw [← hbx]; exact kk.size
    replace kk : Below w.heap.size w V7 := by rw [← hW]; exact bal kk _
    have hO := hNEW
    replace fF := IsF.of HF.out hQ
    clear hNEW hW hbx
    go_wp2_with fail
    have L : ∀ {x : Nat}, x % t < 2 ^ 256 := fun {x} => Nat.lt_trans (Nat.mod_lt x hpos) HM.out
    have HL := Lib.hid (show ∀ n, powm t a n < 2 ^ 256 from fun n => L)
    clear L
    go_loopw [39] (fun i wr => ∃ (j : Nat), j ≤ c ∧ i = .int .u8 (j : Int) ∧ wr.heap[w.heap.size]? = some (.cells #[.int .u64 (w0 (t) : Nat), .int .u64 (w1 (t) : Nat), .int .u64 (w2 (t) : Nat), .int .u64 (w3 (t) : Nat)] 24 (0, 0)) ∧ wr.heap[w.heap.size + 1]? = some (.cells #[.int .u64 (w0 (a) : Nat), .int .u64 (w1 (a) : Nat), .int .u64 (w2 (a) : Nat), .int .u64 (w3 (a) : Nat)] 24 (0, 0)) ∧ wr.heap[w.heap.size + 2]? = some (.cells #[.int .u64 (w0 (p) : Nat), .int .u64 (w1 (p) : Nat), .int .u64 (w2 (p) : Nat), .int .u64 (w3 (p) : Nat)] 24 (0, 0)) ∧ wr.heap[w.heap.size + 3]? = some (.cells #[.int .u64 (w0 (q) : Nat), .int .u64 (w1 (q) : Nat), .int .u64 (w2 (q) : Nat), .int .u64 (w3 (q) : Nat)] 24 (0, 0)) ∧ wr.heap[b13]? = some (.cells #[.int .u64 (w0 (powm t a j) : Nat), .int .u64 (w1 (powm t a j) : Nat), .int .u64 (w2 (powm t a j) : Nat), .int .u64 (w3 (powm t a j) : Nat)] 24 (0, 0)) ∧ IsF wr g t ∧ Below w.heap.size w wr) (fun i wr => (c - intOf i).toNat)
    case atStart => exact ⟨0, by omega, rfl, hM, hA, hE1, hE2, hO, fF, kk⟩
    case round =>
      clear hM hA hE1 hE2 hO fF kk hQ
      obtain ⟨j, hj, rfl, hM, hA, hE1, hE2, hO, fF, kk⟩ := hrel
      have hQ := fF.blk
      by_cases hjc : j < c
      · have j1 : (j : Int) < (c : Int) := by omega
        have j2 : IntKind.u8.wrap ((j : Int) + 1) = (j : Int) + 1 := IntWalk.u8_in _ (by have := HC.out; omega)
        have PB := Lib.hid (HL.out j)
        have HB := Lib.hid (prod_bigP (k := 256) (by decide) (HL.out j) hla.out)
        have PB2 := Lib.hid (one_bigP (HL.out j))
        have PA2 := Lib.hid (one_bigP hla.out)
        go_upto_region 13 with fail
        obtain ⟨S0, hS0⟩ : ∃ S : World → Prop, S = (fun w' => w'.heap[w.heap.size]? = some (.cells #[.int .u64 (w0 (t) : Nat), .int .u64 (w1 (t) : Nat), .int .u64 (w2 (t) : Nat), .int .u64 (w3 (t) : Nat)] 24 (0, 0)) ∧ w'.heap[w.heap.size + 1]? = some (.cells #[.int .u64 (w0 (a) : Nat), .int .u64 (w1 (a) : Nat), .int .u64 (w2 (a) : Nat), .int .u64 (w3 (a) : Nat)] 24 (0, 0)) ∧ w'.heap[b13]? = some (.cells #[.int .u64 (w0 (powm t a j) : Nat), .int .u64 (w1 (powm t a j) : Nat), .int .u64 (w2 (powm t a j) : Nat), .int .u64 (w3 (powm t a j) : Nat)] 24 (0, 0))) := ⟨_, rfl⟩
        refine startT (S := S0) 8 (by kernel_rfl) (by rw [hS0]; exact ⟨hM, hA, hO⟩) (fun hHeld => ?_)
        refine takeT (i := 0) (d := some 41) (v := ?_) _ rfl rfl (by rfl) (by kernel_rfl) (by decide) (by kernel_rfl) (by kernel_rfl) (by kernel_rfl) (fun _ _ _ h => h) (by assumption) (by kernel_rfl) ?_ ?_
        rotate_left
        · (intro w' hSw; (rw [hS0] at hSw); (have hSw' := hSw); (first | (obtain ⟨svM, svA, svO⟩ := hSw'; obtain ⟨cvM0, cvM1, cvM2, cvM3⟩ := row4c svM; obtain ⟨cvA0, cvA1, cvA2, cvA3⟩ := row4c svA; obtain ⟨cvO0, cvO1, cvO2, cvO3⟩ := row4c svO; go_simp)); try (with_reducible rfl))
        try simp only [Act.put, List.setIfInBounds_toArray, List.set_cons_zero, List.set_cons_succ]
        refine takeT (i := 2) (d := some 43) (v := ?_) _ rfl rfl (by rfl) (by kernel_rfl) (by decide) (by kernel_rfl) (by kernel_rfl) (by kernel_rfl) (fun _ _ _ h => h) (by assumption) (by kernel_rfl) ?_ ?_
        rotate_left
        · (intro w' hSw; (rw [hS0] at hSw); (have hSw' := hSw); (first | (obtain ⟨svM, svA, svO⟩ := hSw'; obtain ⟨cvM0, cvM1, cvM2, cvM3⟩ := row4c svM; obtain ⟨cvA0, cvA1, cvA2, cvA3⟩ := row4c svA; obtain ⟨cvO0, cvO1, cvO2, cvO3⟩ := row4c svO; go_simp)); try (with_reducible rfl))
        try simp only [Act.put, List.setIfInBounds_toArray, List.set_cons_zero, List.set_cons_succ]
        refine takeT (i := 5) (d := some 46) (v := ?_) _ rfl rfl (by rfl) (by kernel_rfl) (by decide) (by kernel_rfl) (by kernel_rfl) (by kernel_rfl) (fun _ _ _ h => h) (by assumption) (by kernel_rfl) ?_ ?_
        rotate_left
        · (intro w' hSw; (rw [hS0] at hSw); (have hSw' := hSw); (first | (obtain ⟨svM, svA, svO⟩ := hSw'; obtain ⟨cvM0, cvM1, cvM2, cvM3⟩ := row4c svM; obtain ⟨cvA0, cvA1, cvA2, cvA3⟩ := row4c svA; obtain ⟨cvO0, cvO1, cvO2, cvO3⟩ := row4c svO; go_simp)); try (with_reducible rfl))
        try simp only [Act.put, List.setIfInBounds_toArray, List.set_cons_zero, List.set_cons_succ]
        refine callT (i := 1) _ rfl (by rfl) (by kernel_rfl) (fun K hK => ?_)
        go_simp
        refine (num_of PB.out _).mono ?_
        rintro e V81 ⟨vhN1, rfl, hN1, hb⟩
        (try replace hN2 := NumV.below (by first | exact hN2 | exact hN2.drew) hb)
        (try replace hN3 := NumV.below (by first | exact hN3 | exact hN3.drew) hb)
        (try replace hN4 := NumV.below (by first | exact hN4 | exact hN4.drew) hb)
        replace hM := below_get hb hM
        replace hA := below_get hb hA
        replace hE1 := below_get hb hE1
        replace hE2 := below_get hb hE2
        replace hO := below_get hb hO
        replace hQ := below_get hb hQ
        replace kk := bcl (by first | exact kk | exact kk.drew | exact below_drewN kk _) hb
        replace fF := IsF.of HF.out hQ
        clear hb
        refine hK.out _ _ (Or.inr (by rw [hS0]; exact ⟨hM, hA, hO⟩)) ?_
        clear hK K
        try simp only [Act.put, List.setIfInBounds_toArray, List.set_cons_zero, List.set_cons_succ]
        refine callT (i := 3) _ rfl (by rfl) (by kernel_rfl) (fun K hK => ?_)
        go_simp
        refine (num_of hla.out _).mono ?_
        rintro e V82 ⟨vhN2, rfl, hN2, hb⟩
        (try replace hN1 := NumV.below (by first | exact hN1 | exact hN1.drew) hb)
        (try replace hN3 := NumV.below (by first | exact hN3 | exact hN3.drew) hb)
        (try replace hN4 := NumV.below (by first | exact hN4 | exact hN4.drew) hb)
        replace hM := below_get hb hM
        replace hA := below_get hb hA
        replace hE1 := below_get hb hE1
        replace hE2 := below_get hb hE2
        replace hO := below_get hb hO
        replace hQ := below_get hb hQ
        replace kk := bcl (by first | exact kk | exact kk.drew | exact below_drewN kk _) hb
        replace fF := IsF.of HF.out hQ
        clear hb
        refine hK.out _ _ (Or.inr (by rw [hS0]; exact ⟨hM, hA, hO⟩)) ?_
        clear hK K
        try simp only [Act.put, List.setIfInBounds_toArray, List.set_cons_zero, List.set_cons_succ]
        refine callT (i := 4) _ rfl (by rfl) (by kernel_rfl) (fun K hK => ?_)
        go_simp
        refine (num_mul (by first | exact hN1 | exact hN1.drew) (by first | exact hN2 | exact hN2.drew) PB2.out PA2.out).mono ?_
        rintro e V83 ⟨vhN3, rfl, hN3, hb⟩
        (try replace hN1 := NumV.below (by first | exact hN1 | exact hN1.drew) hb)
        (try replace hN2 := NumV.below (by first | exact hN2 | exact hN2.drew) hb)
        (try replace hN4 := NumV.below (by first | exact hN4 | exact hN4.drew) hb)
        replace hM := below_get hb hM
        replace hA := below_get hb hA
        replace hE1 := below_get hb hE1
        replace hE2 := below_get hb hE2
        replace hO := below_get hb hO
        replace hQ := below_get hb hQ
        replace kk := bcl (by first | exact kk | exact kk.drew | exact below_drewN kk _) hb
        replace fF := IsF.of HF.out hQ
        clear hb
        refine hK.out _ _ (Or.inr (by rw [hS0]; exact ⟨hM, hA, hO⟩)) ?_
        clear hK K
        try simp only [Act.put, List.setIfInBounds_toArray, List.set_cons_zero, List.set_cons_succ]
        refine callT (i := 6) _ rfl (by rfl) (by kernel_rfl) (fun K hK => ?_)
        go_simp
        refine (num_of HM.out _).mono ?_
        rintro e V84 ⟨vhN4, rfl, hN4, hb⟩
        (try replace hN1 := NumV.below (by first | exact hN1 | exact hN1.drew) hb)
        (try replace hN2 := NumV.below (by first | exact hN2 | exact hN2.drew) hb)
        (try replace hN3 := NumV.below (by first | exact hN3 | exact hN3.drew) hb)
        replace hM := below_get hb hM
        replace hA := below_get hb hA
        replace hE1 := below_get hb hE1
        replace hE2 := below_get hb hE2
        replace hO := below_get hb hO
        replace hQ := below_get hb hQ
        replace kk := bcl (by first | exact kk | exact kk.drew | exact below_drewN kk _) hb
        replace fF := IsF.of HF.out hQ
        clear hb
        refine hK.out _ _ (Or.inr (by rw [hS0]; exact ⟨hM, hA, hO⟩)) ?_
        clear hK K
        try simp only [Act.put, List.setIfInBounds_toArray, List.set_cons_zero, List.set_cons_succ]
        refine callT (i := 7) _ rfl (by rfl) (by kernel_rfl) (fun K hK => ?_)
        go_simp
        refine (num_mod (by first | exact hN3 | exact hN3.drew) (by first | exact hN4 | exact hN4.drew) hpos HB.out HM.out).mono ?_
        rintro e V85 ⟨rfl, hb⟩
        (try replace hN1 := NumV.below (by first | exact hN1 | exact hN1.drew) hb)
        (try replace hN2 := NumV.below (by first | exact hN2 | exact hN2.drew) hb)
        (try replace hN3 := NumV.below (by first | exact hN3 | exact hN3.drew) hb)
        (try replace hN4 := NumV.below (by first | exact hN4 | exact hN4.drew) hb)
        replace hM := below_get hb hM
        replace hA := below_get hb hA
        replace hE1 := below_get hb hE1
        replace hE2 := below_get hb hE2
        replace hO := below_get hb hO
        replace hQ := below_get hb hQ
        replace kk := bcl (by first | exact kk | exact kk.drew | exact below_drewN kk _) hb
        replace fF := IsF.of HF.out hQ
        clear hb
        refine hK.out _ _ (Or.inr (by rw [hS0]; exact ⟨hM, hA, hO⟩)) ?_
        clear hK K
        try simp only [Act.put, List.setIfInBounds_toArray, List.set_cons_zero, List.set_cons_succ]
        refine callT (i := 8) _ rfl (by rfl) (by kernel_rfl) (fun K hK => ?_)
        obtain ⟨cO0, cO1, cO2, cO3⟩ := row4c hO
        obtain ⟨zO0, zO1, zO2, zO3⟩ := row4z hO
        go_simp
        have P := put4 (.int .u64 (w0 (powm t a j * a % t) : Nat)) (.int .u64 (w1 (powm t a j * a % t) : Nat)) (.int .u64 (w2 (powm t a j * a % t) : Nat)) (.int .u64 (w3 (powm t a j * a % t) : Nat)) hO
        replace P := put_hid P
        obtain ⟨V8, hW, P⟩ := P
        rw [hW]
        replace hO := P.here
        replace hM := (P.there (w.heap.size) (by omega)).trans (show _ = some (.cells #[.int .u64 (w0 (t) : Nat), .int .u64 (w1 (t) : Nat), .int .u64 (w2 (t) : Nat), .int .u64 (w3 (t) : Nat)] 24 (0, 0)) from hM)
        replace hA := (P.there (w.heap.size + 1) (by omega)).trans (show _ = some (.cells #[.int .u64 (w0 (a) : Nat), .int .u64 (w1 (a) : Nat), .int .u64 (w2 (a) : Nat), .int .u64 (w3 (a) : Nat)] 24 (0, 0)) from hA)
        replace hE1 := (P.there (w.heap.size + 2) (by omega)).trans (show _ = some (.cells #[.int .u64 (w0 (p) : Nat), .int .u64 (w1 (p) : Nat), .int .u64 (w2 (p) : Nat), .int .u64 (w3 (p) : Nat)] 24 (0, 0)) from hE1)
        replace hE2 := (P.there (w.heap.size + 3) (by omega)).trans (show _ = some (.cells #[.int .u64 (w0 (q) : Nat), .int .u64 (w1 (q) : Nat), .int .u64 (w2 (q) : Nat), .int .u64 (w3 (q) : Nat)] 24 (0, 0)) from hE2)
        replace hQ := (P.there (g) (by omega)).trans (show _ = some (.cells #[.int .u64 (w0 (t) : Nat), .int .u64 (w1 (t) : Nat), .int .u64 (w2 (t) : Nat), .int .u64 (w3 (t) : Nat), .int .u64 (finv1 (t) : Nat), .int .u64 (w0 (fsq (t)) : Nat), .int .u64 (w1 (fsq (t)) : Nat), .int .u64 (w2 (fsq (t)) : Nat), .int .u64 (w3 (fsq (t)) : Nat)] 90 (0, 0)) from hQ)
        replace kk := P.below (by omega) (show Below w.heap.size w V85 from by first | exact kk | exact kk.drew | exact below_drewN kk _)
        replace fF := IsF.of HF.out hQ
        clear cO0 zO0 cO1 zO1 cO2 zO2 cO3 zO3
        clear P hW
        refine hK.out _ _ (Or.inl (by kernel_rfl)) ?_
        clear hK K
        try simp only [Act.put, List.setIfInBounds_toArray, List.set_cons_zero, List.set_cons_succ]
        refine doneT (by kernel_rfl) ?_ _
        clear hHeld hS0 S0
        go_simp
        clear hN1 hN2 hN3 hN4
        go_wp2_with fail
        rw [pow_step t a j] at hO
        refine ⟨⟨j + 1, by omega, congrArg (Value.int .u8) (by omega), hM, hA, hE1, hE2, hO, fF, kk⟩, ?_⟩
        simp only [intOf]; omega
      · have j1 : ¬ (j : Int) < (c : Int) := by omega
        obtain rfl : j = c := by omega
        clear hjc hj
        go_upto_region 15 with fail
        obtain ⟨S0, hS0⟩ : ∃ S : World → Prop, S = (fun w' => w'.heap[w.heap.size + 3]? = some (.cells #[.int .u64 (w0 (q) : Nat), .int .u64 (w1 (q) : Nat), .int .u64 (w2 (q) : Nat), .int .u64 (w3 (q) : Nat)] 24 (0, 0))) := ⟨_, rfl⟩
        refine startT (S := S0) 5 (by kernel_rfl) (by rw [hS0]; exact hE2) (fun hHeld => ?_)
        refine takeT (i := 2) (d := some 52) (v := ?_) _ rfl rfl (by rfl) (by kernel_rfl) (by decide) (by kernel_rfl) (by kernel_rfl) (by kernel_rfl) (fun _ _ _ h => h) (by assumption) (by kernel_rfl) ?_ ?_
        rotate_left
        · (intro w' hSw; (rw [hS0] at hSw); (have hSw' := hSw); (first | (have svE2 := hSw'; obtain ⟨cvE20, cvE21, cvE22, cvE23⟩ := row4c svE2; go_simp)); try (with_reducible rfl))
        try simp only [Act.put, List.setIfInBounds_toArray, List.set_cons_zero, List.set_cons_succ]
        obtain ⟨cE10, cE11, cE12, cE13⟩ := row4c hE1
        obtain ⟨zE10, zE11, zE12, zE13⟩ := row4z hE1
        refine callT (i := 0) _ rfl (by rfl) (by kernel_rfl) (fun K hK => ?_)
        go_simp
        refine hK.out _ _ (Or.inr (by rw [hS0]; exact hE2)) ?_
        clear hK K
        try simp only [Act.put, List.setIfInBounds_toArray, List.set_cons_zero, List.set_cons_succ]
        refine callT (i := 1) _ rfl (by rfl) (by kernel_rfl) (fun K hK => ?_)
        go_simp
        refine (right2_any (W4.mk' hlb.out) _).mono ?_
        rintro e V91 ⟨rfl, hb⟩
        replace hM := below_get hb hM
        replace hA := below_get hb hA
        replace hE1 := below_get hb hE1
        replace hE2 := below_get hb hE2
        replace hO := below_get hb hO
        replace hQ := below_get hb hQ
        replace kk := bcl (by first | exact kk | exact kk.drew | exact below_drewN kk _) hb
        replace fF := IsF.of HF.out hQ
        clear cE10 zE10 cE11 zE11 cE12 zE12 cE13 zE13
        clear hb
        refine hK.out _ _ (Or.inr (by rw [hS0]; exact hE2)) ?_
        clear hK K
        try simp only [Act.put, List.setIfInBounds_toArray, List.set_cons_zero, List.set_cons_succ]
        refine callT (i := 3) _ rfl (by rfl) (by kernel_rfl) (fun K hK => ?_)
        go_simp
        refine (right2_any (W4.mk' hlc.out) _).mono ?_
        rintro e V92 ⟨rfl, hb⟩
        replace hM := below_get hb hM
        replace hA := below_get hb hA
        replace hE1 := below_get hb hE1
        replace hE2 := below_get hb hE2
        replace hO := below_get hb hO
        replace hQ := below_get hb hQ
        replace kk := bcl (by first | exact kk | exact kk.drew | exact below_drewN kk _) hb
        replace fF := IsF.of HF.out hQ
        clear hb
        refine hK.out _ _ (Or.inr (by rw [hS0]; exact hE2)) ?_
        clear hK K
        try simp only [Act.put, List.setIfInBounds_toArray, List.set_cons_zero, List.set_cons_succ]
        refine callT (i := 4) _ rfl (by rfl) (by kernel_rfl) (fun K hK => ?_)
        obtain ⟨cE10, cE11, cE12, cE13⟩ := row4c hE1
        obtain ⟨zE10, zE11, zE12, zE13⟩ := row4z hE1
        go_simp
        have P := put4 (.int .u64 (w0 (p / 4) : Nat)) (.int .u64 (w1 (p / 4) : Nat)) (.int .u64 (w2 (p / 4) : Nat)) (.int .u64 (w3 (p / 4) : Nat)) hE1
        replace P := put_hid P
        obtain ⟨V9b, hW, P⟩ := P
        rw [hW]
        replace hE1 := P.here
        replace hM := (P.there (w.heap.size) (by omega)).trans (show _ = some (.cells #[.int .u64 (w0 (t) : Nat), .int .u64 (w1 (t) : Nat), .int .u64 (w2 (t) : Nat), .int .u64 (w3 (t) : Nat)] 24 (0, 0)) from hM)
        replace hA := (P.there (w.heap.size + 1) (by omega)).trans (show _ = some (.cells #[.int .u64 (w0 (a) : Nat), .int .u64 (w1 (a) : Nat), .int .u64 (w2 (a) : Nat), .int .u64 (w3 (a) : Nat)] 24 (0, 0)) from hA)
        replace hE2 := (P.there (w.heap.size + 3) (by omega)).trans (show _ = some (.cells #[.int .u64 (w0 (q) : Nat), .int .u64 (w1 (q) : Nat), .int .u64 (w2 (q) : Nat), .int .u64 (w3 (q) : Nat)] 24 (0, 0)) from hE2)
        replace hO := (P.there (b13) (by omega)).trans (show _ = some (.cells #[.int .u64 (w0 (powm t a j) : Nat), .int .u64 (w1 (powm t a j) : Nat), .int .u64 (w2 (powm t a j) : Nat), .int .u64 (w3 (powm t a j) : Nat)] 24 (0, 0)) from hO)
        replace hQ := (P.there (g) (by omega)).trans (show _ = some (.cells #[.int .u64 (w0 (t) : Nat), .int .u64 (w1 (t) : Nat), .int .u64 (w2 (t) : Nat), .int .u64 (w3 (t) : Nat), .int .u64 (finv1 (t) : Nat), .int .u64 (w0 (fsq (t)) : Nat), .int .u64 (w1 (fsq (t)) : Nat), .int .u64 (w2 (fsq (t)) : Nat), .int .u64 (w3 (fsq (t)) : Nat)] 90 (0, 0)) from hQ)
        replace kk := P.below (by omega) (show Below w.heap.size w V92 from by first | exact kk | exact kk.drew | exact below_drewN kk _)
        replace fF := IsF.of HF.out hQ
        clear cE10 zE10 cE11 zE11 cE12 zE12 cE13 zE13
        clear P hW
        refine hK.out _ _ (Or.inr (by rw [hS0]; exact hE2)) ?_
        clear hK K
        try simp only [Act.put, List.setIfInBounds_toArray, List.set_cons_zero, List.set_cons_succ]
        refine callT (i := 5) _ rfl (by rfl) (by kernel_rfl) (fun K hK => ?_)
        obtain ⟨cE20, cE21, cE22, cE23⟩ := row4c hE2
        obtain ⟨zE20, zE21, zE22, zE23⟩ := row4z hE2
        go_simp
        have P := put4 (.int .u64 (w0 (q / 4) : Nat)) (.int .u64 (w1 (q / 4) : Nat)) (.int .u64 (w2 (q / 4) : Nat)) (.int .u64 (w3 (q / 4) : Nat)) hE2
        replace P := put_hid P
        obtain ⟨V9, hW, P⟩ := P
        rw [hW]
        replace hE2 := P.here
        replace hM := (P.there (w.heap.size) (by omega)).trans (show _ = some (.cells #[.int .u64 (w0 (t) : Nat), .int .u64 (w1 (t) : Nat), .int .u64 (w2 (t) : Nat), .int .u64 (w3 (t) : Nat)] 24 (0, 0)) from hM)
        replace hA := (P.there (w.heap.size + 1) (by omega)).trans (show _ = some (.cells #[.int .u64 (w0 (a) : Nat), .int .u64 (w1 (a) : Nat), .int .u64 (w2 (a) : Nat), .int .u64 (w3 (a) : Nat)] 24 (0, 0)) from hA)
        replace hE1 := (P.there (w.heap.size + 2) (by omega)).trans (show _ = some (.cells #[.int .u64 (w0 (p / 4) : Nat), .int .u64 (w1 (p / 4) : Nat), .int .u64 (w2 (p / 4) : Nat), .int .u64 (w3 (p / 4) : Nat)] 24 (0, 0)) from hE1)
        replace hO := (P.there (b13) (by omega)).trans (show _ = some (.cells #[.int .u64 (w0 (powm t a j) : Nat), .int .u64 (w1 (powm t a j) : Nat), .int .u64 (w2 (powm t a j) : Nat), .int .u64 (w3 (powm t a j) : Nat)] 24 (0, 0)) from hO)
        replace hQ := (P.there (g) (by omega)).trans (show _ = some (.cells #[.int .u64 (w0 (t) : Nat), .int .u64 (w1 (t) : Nat), .int .u64 (w2 (t) : Nat), .int .u64 (w3 (t) : Nat), .int .u64 (finv1 (t) : Nat), .int .u64 (w0 (fsq (t)) : Nat), .int .u64 (w1 (fsq (t)) : Nat), .int .u64 (w2 (fsq (t)) : Nat), .int .u64 (w3 (fsq (t)) : Nat)] 90 (0, 0)) from hQ)
        replace kk := P.below (by omega) (show Below w.heap.size w V9b from by first | exact kk | exact kk.drew | exact below_drewN kk _)
        replace fF := IsF.of HF.out hQ
        clear cE20 zE20 cE21 zE21 cE22 zE22 cE23 zE23
        clear P hW
        refine hK.out _ _ (Or.inl (by kernel_rfl)) ?_
        clear hK K
        try simp only [Act.put, List.setIfInBounds_toArray, List.set_cons_zero, List.set_cons_succ]
        refine doneT (by kernel_rfl) ?_ _
        clear hHeld hS0 S0
        go_simp
        have h4p := Lib.hid (show p / 4 < 2 ^ 256 by have := hlb.out; omega)
        have h4q := Lib.hid (show q / 4 < 2 ^ 256 by have := hlc.out; omega)
        have hsum := Lib.hid (show addm (p / 4) (q / 4) = p / 4 + q / 4 by have h1 := hlb.out; have h2 := hlc.out; unfold addm; omega)
        have hsl := Lib.hid (show p / 4 + q / 4 < 2 ^ 256 by have h1 := hlb.out; have h2 := hlc.out; omega)
        obtain ⟨cE10, cE11, cE12, cE13⟩ := row4c hE1
        obtain ⟨zE10, zE11, zE12, zE13⟩ := row4z hE1
        obtain ⟨cE20, cE21, cE22, cE23⟩ := row4c hE2
        obtain ⟨zE20, zE21, zE22, zE23⟩ := row4z hE2
        go_wp2_with fail
        refine (add_any (W4.mk' h4p.out) (W4.mk' h4q.out) _).mono ?_
        rintro e V10 ⟨rfl, hb⟩
        replace hM := below_get hb hM
        replace hA := below_get hb hA
        replace hE1 := below_get hb hE1
        replace hE2 := below_get hb hE2
        replace hO := below_get hb hO
        replace hQ := below_get hb hQ
        replace kk := bcl (by first | exact kk | exact kk.drew | exact below_drewN kk _) hb
        replace fF := IsF.of HF.out hQ
        clear cE10 zE10 cE11 zE11 cE12 zE12 cE13 zE13 cE20 zE20 cE21 zE21 cE22 zE22 cE23 zE23
        clear hb
        rw [hsum.out]
        go_upto_region 17 with fail
        obtain ⟨V11, hW⟩ : ∃ V, V10.alloc (.cells #[.int .u64 (w0 (p / 4 + q / 4) : Nat), .int .u64 (w1 (p / 4 + q / 4) : Nat), .int .u64 (w2 (p / 4 + q / 4) : Nat), .int .u64 (w3 (p / 4 + q / 4) : Nat)] 24 (0, 0)) = V := ⟨_, rfl⟩
        rw [hW]
        obtain ⟨b14, hbx⟩ : ∃ n, V10.heap.size = n := ⟨_, rfl⟩
        rw [hbx]
        have hNEW : V11.heap[b14]? = some (.cells #[.int .u64 (w0 (p / 4 + q / 4) : Nat), .int .u64 (w1 (p / 4 + q / 4) : Nat), .int .u64 (w2 (p / 4 + q / 4) : Nat), .int .u64 (w3 (p / 4 + q / 4) : Nat)] 24 (0, 0)) := by rw [← hW, ← hbx]; exact heap_alloc_new _ _
        have lSMM : w.heap.size < b14 := by rw [← hbx]; exact lt_of_heap hM
        replace hM : V11.heap[w.heap.size]? = some (.cells #[.int .u64 (w0 (t) : Nat), .int .u64 (w1 (t) : Nat), .int .u64 (w2 (t) : Nat), .int .u64 (w3 (t) : Nat)] 24 (0, 0)) := by rw [← hW]; exact ak hM
        have lSMA : w.heap.size + 1 < b14 := by rw [← hbx]; exact lt_of_heap hA
        replace hA : V11.heap[w.heap.size + 1]? = some (.cells #[.int .u64 (w0 (a) : Nat), .int .u64 (w1 (a) : Nat), .int .u64 (w2 (a) : Nat), .int .u64 (w3 (a) : Nat)] 24 (0, 0)) := by rw [← hW]; exact ak hA
        have lSME1 : w.heap.size + 2 < b14 := by rw [← hbx]; exact lt_of_heap hE1
        replace hE1 : V11.heap[w.heap.size + 2]? = some (.cells #[.int .u64 (w0 (p / 4) : Nat), .int .u64 (w1 (p / 4) : Nat), .int .u64 (w2 (p / 4) : Nat), .int .u64 (w3 (p / 4) : Nat)] 24 (0, 0)) := by rw [← hW]; exact ak hE1
        have lSME2 : w.heap.size + 3 < b14 := by rw [← hbx]; exact lt_of_heap hE2
        replace hE2 : V11.heap[w.heap.size + 3]? = some (.cells #[.int .u64 (w0 (q / 4) : Nat), .int .u64 (w1 (q / 4) : Nat), .int .u64 (w2 (q / 4) : Nat), .int .u64 (w3 (q / 4) : Nat)] 24 (0, 0)) := by rw [← hW]; exact ak hE2
        have lSMO : b13 < b14 := by rw [← hbx]; exact lt_of_heap hO
        replace hO : V11.heap[b13]? = some (.cells #[.int .u64 (w0 (powm t a j) : Nat), .int .u64 (w1 (powm t a j) : Nat), .int .u64 (w2 (powm t a j) : Nat), .int .u64 (w3 (powm t a j) : Nat)] 24 (0, 0)) := by rw [← hW]; exact ak hO
        have lSMQ : g < b14 := by rw [← hbx]; exact lt_of_heap hQ
        replace hQ : V11.heap[g]? = some (.cells #[.int .u64 (w0 (t) : Nat), .int .u64 (w1 (t) : Nat), .int .u64 (w2 (t) : Nat), .int .u64 (w3 (t) : Nat), .int .u64 (finv1 (t) : Nat), .int .u64 (w0 (fsq (t)) : Nat), .int .u64 (w1 (fsq (t)) : Nat), .int .u64 (w2 (fsq (t)) : Nat), .int .u64 (w3 (fsq (t)) : Nat)] 90 (0, 0)) := by rw [← hW]; exact ak hQ
        have lSM : w.heap.size ≤ b14 := by rw [← hbx]; exact kk.size
        replace kk : Below w.heap.size w V11 := by rw [← hW]; exact bal kk _
        have hSM := hNEW
        replace fF := IsF.of HF.out hQ
        clear hNEW hW hbx
        have j3 : IntKind.u64.wrap (j : Int) = (j : Int) := IntWalk.u64_in _ (by have := HC.out; omega)
        have hcl := Lib.hid (show j < 18446744073709551616 by have := HC.out; omega)
        have q5 := eqlG (HL.out j) (HL.out j) rfl
        have q6 := eqlG (HL.out (p / 4 + q / 4)) (show mulm t (powm t a (p / 4)) (powm t a (q / 4)) < 2 ^ 256 from Nat.lt_trans (Nat.mod_lt _ hpos) HM.out) (pow_sum t a (p / 4) (q / 4))
        have G1 := Lib.hid (HL.out (p / 4))
        have G2 := Lib.hid (HL.out (q / 4))
        obtain ⟨cA0, cA1, cA2, cA3⟩ := row4c hA
        obtain ⟨zA0, zA1, zA2, zA3⟩ := row4z hA
        obtain ⟨cO0, cO1, cO2, cO3⟩ := row4c hO
        obtain ⟨zO0, zO1, zO2, zO3⟩ := row4z hO
        obtain ⟨cSM0, cSM1, cSM2, cSM3⟩ := row4c hSM
        obtain ⟨zSM0, zSM1, zSM2, zSM3⟩ := row4z hSM
        obtain ⟨cE10, cE11, cE12, cE13⟩ := row4c hE1
        obtain ⟨zE10, zE11, zE12, zE13⟩ := row4z hE1
        obtain ⟨cE20, cE21, cE22, cE23⟩ := row4c hE2
        obtain ⟨zE20, zE21, zE22, zE23⟩ := row4z hE2
        have fFd : IsF (World.drew V11) (g) (t) := ⟨fF.blk, fF.odd, fF.three, fF.lt⟩
        try clear cA0 cA1 cA2 cA3
        obtain ⟨cA0, cA1, cA2, cA3⟩ := row4c hA
        try clear cO0 cO1 cO2 cO3
        obtain ⟨cO0, cO1, cO2, cO3⟩ := row4c hO
        try clear cSM0 cSM1 cSM2 cSM3
        obtain ⟨cSM0, cSM1, cSM2, cSM3⟩ := row4c hSM
        try clear cE10 cE11 cE12 cE13
        obtain ⟨cE10, cE11, cE12, cE13⟩ := row4c hE1
        try clear cE20 cE21 cE22 cE23
        obtain ⟨cE20, cE21, cE22, cE23⟩ := row4c hE2
        go_region_held3 (fun w' => w'.cell? ⟨w.heap.size + 1, 0, none⟩ = some (.int .u64 (w0 (a) : Nat)) ∧ w'.cell? ⟨w.heap.size + 1, 1, none⟩ = some (.int .u64 (w1 (a) : Nat)) ∧ w'.cell? ⟨w.heap.size + 1, 2, none⟩ = some (.int .u64 (w2 (a) : Nat)) ∧ w'.cell? ⟨w.heap.size + 1, 3, none⟩ = some (.int .u64 (w3 (a) : Nat)) ∧ w'.cell? ⟨b13, 0, none⟩ = some (.int .u64 (w0 (powm t a j) : Nat)) ∧ w'.cell? ⟨b13, 1, none⟩ = some (.int .u64 (w1 (powm t a j) : Nat)) ∧ w'.cell? ⟨b13, 2, none⟩ = some (.int .u64 (w2 (powm t a j) : Nat)) ∧ w'.cell? ⟨b13, 3, none⟩ = some (.int .u64 (w3 (powm t a j) : Nat)) ∧ w'.cell? ⟨b14, 0, none⟩ = some (.int .u64 (w0 (p / 4 + q / 4) : Nat)) ∧ w'.cell? ⟨b14, 1, none⟩ = some (.int .u64 (w1 (p / 4 + q / 4) : Nat)) ∧ w'.cell? ⟨b14, 2, none⟩ = some (.int .u64 (w2 (p / 4 + q / 4) : Nat)) ∧ w'.cell? ⟨b14, 3, none⟩ = some (.int .u64 (w3 (p / 4 + q / 4) : Nat)) ∧ w'.cell? ⟨w.heap.size + 2, 0, none⟩ = some (.int .u64 (w0 (p / 4) : Nat)) ∧ w'.cell? ⟨w.heap.size + 2, 1, none⟩ = some (.int .u64 (w1 (p / 4) : Nat)) ∧ w'.cell? ⟨w.heap.size + 2, 2, none⟩ = some (.int .u64 (w2 (p / 4) : Nat)) ∧ w'.cell? ⟨w.heap.size + 2, 3, none⟩ = some (.int .u64 (w3 (p / 4) : Nat)) ∧ w'.cell? ⟨w.heap.size + 3, 0, none⟩ = some (.int .u64 (w0 (q / 4) : Nat)) ∧ w'.cell? ⟨w.heap.size + 3, 1, none⟩ = some (.int .u64 (w1 (q / 4) : Nat)) ∧ w'.cell? ⟨w.heap.size + 3, 2, none⟩ = some (.int .u64 (w2 (q / 4) : Nat)) ∧ w'.cell? ⟨w.heap.size + 3, 3, none⟩ = some (.int .u64 (w3 (q / 4) : Nat))) (first | (with_reducible exact ⟨cA0, cA1, cA2, cA3, cO0, cO1, cO2, cO3, cSM0, cSM1, cSM2, cSM3, cE10, cE11, cE12, cE13, cE20, cE21, cE22, cE23⟩) | go_keep) (first | (go_at_call 17; refine (of_any _ _).mono ?_; rintro e W ⟨rfl, hb⟩; (first | replace hM := below_get hb hM | replace hM := below_get hb (ak hM)); (first | replace hA := below_get hb hA | replace hA := below_get hb (ak hA)); (first | replace hE1 := below_get hb hE1 | replace hE1 := below_get hb (ak hE1)); (first | replace hE2 := below_get hb hE2 | replace hE2 := below_get hb (ak hE2)); (first | replace hO := below_get hb hO | replace hO := below_get hb (ak hO)); (first | replace hQ := below_get hb hQ | replace hQ := below_get hb (ak hQ)); (first | replace hSM := below_get hb hSM | replace hSM := below_get hb (ak hSM)); (replace kk := bcl (by first | exact kk | exact kk.drew | exact bal kk _ | exact (bal kk _).drew) hb); (replace fF := IsF.of HF.out hQ); (try clear cA0 cA1 cA2 cA3); (obtain ⟨cA0, cA1, cA2, cA3⟩ := row4c hA); (try clear cO0 cO1 cO2 cO3); (obtain ⟨cO0, cO1, cO2, cO3⟩ := row4c hO); (try clear cSM0 cSM1 cSM2 cSM3); (obtain ⟨cSM0, cSM1, cSM2, cSM3⟩ := row4c hSM); (try clear cE10 cE11 cE12 cE13); (obtain ⟨cE10, cE11, cE12, cE13⟩ := row4c hE1); (try clear cE20 cE21 cE22 cE23); (obtain ⟨cE20, cE21, cE22, cE23⟩ := row4c hE2); clear hb) | (go_at_call 25; with_reducible refine (powG_any (W4.mk' hla.out) (W4.small (x := (j : Int)) (n := j) rfl hcl.out) _ (show IsF _ (g) (t) from (by first | exact fF | exact fFd | exact ⟨fF.blk, fF.odd, fF.three, fF.lt⟩ | exact ⟨ak fF.blk, fF.odd, fF.three, fF.lt⟩ | exact ⟨ak (ak fF.blk), fF.odd, fF.three, fF.lt⟩))).mono ?_; rintro e W ⟨rfl, hb⟩; (first | replace hM := below_get hb hM | replace hM := below_get hb (ak hM)); (first | replace hA := below_get hb hA | replace hA := below_get hb (ak hA)); (first | replace hE1 := below_get hb hE1 | replace hE1 := below_get hb (ak hE1)); (first | replace hE2 := below_get hb hE2 | replace hE2 := below_get hb (ak hE2)); (first | replace hO := below_get hb hO | replace hO := below_get hb (ak hO)); (first | replace hQ := below_get hb hQ | replace hQ := below_get hb (ak hQ)); (first | replace hSM := below_get hb hSM | replace hSM := below_get hb (ak hSM)); (replace kk := bcl (by first | exact kk | exact kk.drew | exact bal kk _ | exact (bal kk _).drew) hb); (replace fF := IsF.of HF.out hQ); (try clear cA0 cA1 cA2 cA3); (obtain ⟨cA0, cA1, cA2, cA3⟩ := row4c hA); (try clear cO0 cO1 cO2 cO3); (obtain ⟨cO0, cO1, cO2, cO3⟩ := row4c hO); (try clear cSM0 cSM1 cSM2 cSM3); (obtain ⟨cSM0, cSM1, cSM2, cSM3⟩ := row4c hSM); (try clear cE10 cE11 cE12 cE13); (obtain ⟨cE10, cE11, cE12, cE13⟩ := row4c hE1); (try clear cE20 cE21 cE22 cE23); (obtain ⟨cE20, cE21, cE22, cE23⟩ := row4c hE2); clear hb) | (go_at_call 25; with_reducible refine (powG_any (W4.mk' hla.out) (W4.mk' hsl.out) _ (show IsF _ (g) (t) from (by first | exact fF | exact fFd | exact ⟨fF.blk, fF.odd, fF.three, fF.lt⟩ | exact ⟨ak fF.blk, fF.odd, fF.three, fF.lt⟩ | exact ⟨ak (ak fF.blk), fF.odd, fF.three, fF.lt⟩))).mono ?_; rintro e W ⟨rfl, hb⟩; (first | replace hM := below_get hb hM | replace hM := below_get hb (ak hM)); (first | replace hA := below_get hb hA | replace hA := below_get hb (ak hA)); (first | replace hE1 := below_get hb hE1 | replace hE1 := below_get hb (ak hE1)); (first | replace hE2 := below_get hb hE2 | replace hE2 := below_get hb (ak hE2)); (first | replace hO := below_get hb hO | replace hO := below_get hb (ak hO)); (first | replace hQ := below_get hb hQ | replace hQ := below_get hb (ak hQ)); (first | replace hSM := below_get hb hSM | replace hSM := below_get hb (ak hSM)); (replace kk := bcl (by first | exact kk | exact kk.drew | exact bal kk _ | exact (bal kk _).drew) hb); (replace fF := IsF.of HF.out hQ); (try clear cA0 cA1 cA2 cA3); (obtain ⟨cA0, cA1, cA2, cA3⟩ := row4c hA); (try clear cO0 cO1 cO2 cO3); (obtain ⟨cO0, cO1, cO2, cO3⟩ := row4c hO); (try clear cSM0 cSM1 cSM2 cSM3); (obtain ⟨cSM0, cSM1, cSM2, cSM3⟩ := row4c hSM); (try clear cE10 cE11 cE12 cE13); (obtain ⟨cE10, cE11, cE12, cE13⟩ := row4c hE1); (try clear cE20 cE21 cE22 cE23); (obtain ⟨cE20, cE21, cE22, cE23⟩ := row4c hE2); clear hb) | (go_at_call 25; with_reducible refine (powG_any (W4.mk' hla.out) (W4.mk' h4p.out) _ (show IsF _ (g) (t) from (by first | exact fF | exact fFd | exact ⟨fF.blk, fF.odd, fF.three, fF.lt⟩ | exact ⟨ak fF.blk, fF.odd, fF.three, fF.lt⟩ | exact ⟨ak (ak fF.blk), fF.odd, fF.three, fF.lt⟩))).mono ?_; rintro e W ⟨rfl, hb⟩; (first | replace hM := below_get hb hM | replace hM := below_get hb (ak hM)); (first | replace hA := below_get hb hA | replace hA := below_get hb (ak hA)); (first | replace hE1 := below_get hb hE1 | replace hE1 := below_get hb (ak hE1)); (first | replace hE2 := below_get hb hE2 | replace hE2 := below_get hb (ak hE2)); (first | replace hO := below_get hb hO | replace hO := below_get hb (ak hO)); (first | replace hQ := below_get hb hQ | replace hQ := below_get hb (ak hQ)); (first | replace hSM := below_get hb hSM | replace hSM := below_get hb (ak hSM)); (replace kk := bcl (by first | exact kk | exact kk.drew | exact bal kk _ | exact (bal kk _).drew) hb); (replace fF := IsF.of HF.out hQ); (try clear cA0 cA1 cA2 cA3); (obtain ⟨cA0, cA1, cA2, cA3⟩ := row4c hA); (try clear cO0 cO1 cO2 cO3); (obtain ⟨cO0, cO1, cO2, cO3⟩ := row4c hO); (try clear cSM0 cSM1 cSM2 cSM3); (obtain ⟨cSM0, cSM1, cSM2, cSM3⟩ := row4c hSM); (try clear cE10 cE11 cE12 cE13); (obtain ⟨cE10, cE11, cE12, cE13⟩ := row4c hE1); (try clear cE20 cE21 cE22 cE23); (obtain ⟨cE20, cE21, cE22, cE23⟩ := row4c hE2); clear hb) | (go_at_call 25; with_reducible refine (powG_any (W4.mk' hla.out) (W4.mk' h4q.out) _ (show IsF _ (g) (t) from (by first | exact fF | exact fFd | exact ⟨fF.blk, fF.odd, fF.three, fF.lt⟩ | exact ⟨ak fF.blk, fF.odd, fF.three, fF.lt⟩ | exact ⟨ak (ak fF.blk), fF.odd, fF.three, fF.lt⟩))).mono ?_; rintro e W ⟨rfl, hb⟩; (first | replace hM := below_get hb hM | replace hM := below_get hb (ak hM)); (first | replace hA := below_get hb hA | replace hA := below_get hb (ak hA)); (first | replace hE1 := below_get hb hE1 | replace hE1 := below_get hb (ak hE1)); (first | replace hE2 := below_get hb hE2 | replace hE2 := below_get hb (ak hE2)); (first | replace hO := below_get hb hO | replace hO := below_get hb (ak hO)); (first | replace hQ := below_get hb hQ | replace hQ := below_get hb (ak hQ)); (first | replace hSM := below_get hb hSM | replace hSM := below_get hb (ak hSM)); (replace kk := bcl (by first | exact kk | exact kk.drew | exact bal kk _ | exact (bal kk _).drew) hb); (replace fF := IsF.of HF.out hQ); (try clear cA0 cA1 cA2 cA3); (obtain ⟨cA0, cA1, cA2, cA3⟩ := row4c hA); (try clear cO0 cO1 cO2 cO3); (obtain ⟨cO0, cO1, cO2, cO3⟩ := row4c hO); (try clear cSM0 cSM1 cSM2 cSM3); (obtain ⟨cSM0, cSM1, cSM2, cSM3⟩ := row4c hSM); (try clear cE10 cE11 cE12 cE13); (obtain ⟨cE10, cE11, cE12, cE13⟩ := row4c hE1); (try clear cE20 cE21 cE22 cE23); (obtain ⟨cE20, cE21, cE22, cE23⟩ := row4c hE2); clear hb) | (go_at_call 26; with_reducible refine (mulG_any (W4.mk' G1.out) (W4.mk' G2.out) _ (show IsF _ (g) (t) from (by first | exact fF | exact fFd | exact ⟨fF.blk, fF.odd, fF.three, fF.lt⟩ | exact ⟨ak fF.blk, fF.odd, fF.three, fF.lt⟩ | exact ⟨ak (ak fF.blk), fF.odd, fF.three, fF.lt⟩))).mono ?_; rintro e W ⟨rfl, hb⟩; (first | replace hM := below_get hb hM | replace hM := below_get hb (ak hM)); (first | replace hA := below_get hb hA | replace hA := below_get hb (ak hA)); (first | replace hE1 := below_get hb hE1 | replace hE1 := below_get hb (ak hE1)); (first | replace hE2 := below_get hb hE2 | replace hE2 := below_get hb (ak hE2)); (first | replace hO := below_get hb hO | replace hO := below_get hb (ak hO)); (first | replace hQ := below_get hb hQ | replace hQ := below_get hb (ak hQ)); (first | replace hSM := below_get hb hSM | replace hSM := below_get hb (ak hSM)); (replace kk := bcl (by first | exact kk | exact kk.drew | exact bal kk _ | exact (bal kk _).drew) hb); (replace fF := IsF.of HF.out hQ); (try clear cA0 cA1 cA2 cA3); (obtain ⟨cA0, cA1, cA2, cA3⟩ := row4c hA); (try clear cO0 cO1 cO2 cO3); (obtain ⟨cO0, cO1, cO2, cO3⟩ := row4c hO); (try clear cSM0 cSM1 cSM2 cSM3); (obtain ⟨cSM0, cSM1, cSM2, cSM3⟩ := row4c hSM); (try clear cE10 cE11 cE12 cE13); (obtain ⟨cE10, cE11, cE12, cE13⟩ := row4c hE1); (try clear cE20 cE21 cE22 cE23); (obtain ⟨cE20, cE21, cE22, cE23⟩ := row4c hE2); clear hb))
        go_simp
        go_wp2_with fail
        refine bodyPost_ret (v := _) (by simp [results, Try.results3, go_sem]; rfl) rfl ?_
        exact ⟨rfl, kk⟩
  · have q1 := eql_f (W4.mk' hM1.out) (W4.small (x := 1) (n := 1) rfl (by decide)) h1
    have h3 : 3 ≤ u := by have := hodd.out; omega
    obtain ⟨cM0, cM1, cM2, cM3⟩ := row4c hM
    obtain ⟨zM0, zM1, zM2, zM3⟩ := row4z hM
    try clear cM0 cM1 cM2 cM3
    obtain ⟨cM0, cM1, cM2, cM3⟩ := row4c hM
    go_region_held3 (fun w' => w'.cell? ⟨w.heap.size, 0, none⟩ = some (.int .u64 (w0 (u) : Nat)) ∧ w'.cell? ⟨w.heap.size, 1, none⟩ = some (.int .u64 (w1 (u) : Nat)) ∧ w'.cell? ⟨w.heap.size, 2, none⟩ = some (.int .u64 (w2 (u) : Nat)) ∧ w'.cell? ⟨w.heap.size, 3, none⟩ = some (.int .u64 (w3 (u) : Nat))) (first | (with_reducible exact ⟨cM0, cM1, cM2, cM3⟩) | go_keep) (first | (go_at_call 17; refine (of_any _ _).mono ?_; rintro e W ⟨rfl, hb⟩; (first | replace hM := below_get hb hM | replace hM := below_get hb (ak hM)); (first | replace hA := below_get hb hA | replace hA := below_get hb (ak hA)); (first | replace hE1 := below_get hb hE1 | replace hE1 := below_get hb (ak hE1)); (first | replace hE2 := below_get hb hE2 | replace hE2 := below_get hb (ak hE2)); (replace kk := bcl (by first | exact kk | exact kk.drew | exact bal kk _ | exact (bal kk _).drew) hb); (try clear cM0 cM1 cM2 cM3); (obtain ⟨cM0, cM1, cM2, cM3⟩ := row4c hM); clear hb))
    go_simp
    go_upto_region 6 with fail
    clear q1 h1
    have lz := lt_of_heap hE2
    obtain ⟨cM0, cM1, cM2, cM3⟩ := row4c hM
    obtain ⟨zM0, zM1, zM2, zM3⟩ := row4z hM
    go_wp2_with fail
    refine (newF_any (W4.mk' hM1.out) _ hodd.out h3).mono ?_
    rintro e V4 ⟨g, hg, rfl, hF, hb⟩
    replace hM := below_get hb hM
    replace hA := below_get hb hA
    replace hE1 := below_get hb hE1
    replace hE2 := below_get hb hE2
    replace kk := bcl (by first | exact kk | exact kk.drew | exact below_drewN kk _) hb
    clear cM0 zM0 cM1 zM1 cM2 zM2 cM3 zM3
    clear hb
    have lg : w.heap.size + 4 ≤ g := by omega
    clear lz
    have hgM := hg
    have HF := Lib.hid hF
    have hQ := hF.blk
    have fF := hF
    clear hF
    have hpos : 0 < u := by omega
    have HM := hM1
    clear hM1 hodd h3
    go_wp2_with fail
    refine (of_any _ _).mono ?_
    rintro e V5 ⟨rfl, hb⟩
    replace hM := below_get hb hM
    replace hA := below_get hb hA
    replace hE1 := below_get hb hE1
    replace hE2 := below_get hb hE2
    replace hQ := below_get hb hQ
    replace kk := bcl (by first | exact kk | exact kk.drew | exact below_drewN kk _) hb
    replace fF := IsF.of HF.out hQ
    clear hb
    go_wp2_with fail
    refine (redG_any (W4.small (x := 1) (n := 1) rfl (by decide)) _ fF).mono ?_
    rintro e V6 ⟨rfl, hb⟩
    replace hM := below_get hb hM
    replace hA := below_get hb hA
    replace hE1 := below_get hb hE1
    replace hE2 := below_get hb hE2
    replace hQ := below_get hb hQ
    replace kk := bcl (by first | exact kk | exact kk.drew | exact below_drewN kk _) hb
    replace fF := IsF.of HF.out hQ
    clear hb
    go_upto_region 11 with fail
    rw [pow_zero' u a]
    obtain ⟨V7, hW⟩ : ∃ V, V6.alloc (.cells #[.int .u64 (w0 (powm u a 0) : Nat), .int .u64 (w1 (powm u a 0) : Nat), .int .u64 (w2 (powm u a 0) : Nat), .int .u64 (w3 (powm u a 0) : Nat)] 24 (0, 0)) = V := ⟨_, rfl⟩
    rw [hW]
    obtain ⟨b13, hbx⟩ : ∃ n, V6.heap.size = n := ⟨_, rfl⟩
    rw [hbx]
    have hNEW : V7.heap[b13]? = some (.cells #[.int .u64 (w0 (powm u a 0) : Nat), .int .u64 (w1 (powm u a 0) : Nat), .int .u64 (w2 (powm u a 0) : Nat), .int .u64 (w3 (powm u a 0) : Nat)] 24 (0, 0)) := by rw [← hW, ← hbx]; exact heap_alloc_new _ _
    have lOM : w.heap.size < b13 := by rw [← hbx]; exact lt_of_heap hM
    replace hM : V7.heap[w.heap.size]? = some (.cells #[.int .u64 (w0 (u) : Nat), .int .u64 (w1 (u) : Nat), .int .u64 (w2 (u) : Nat), .int .u64 (w3 (u) : Nat)] 24 (0, 0)) := by rw [← hW]; exact ak hM
    have lOA : w.heap.size + 1 < b13 := by rw [← hbx]; exact lt_of_heap hA
    replace hA : V7.heap[w.heap.size + 1]? = some (.cells #[.int .u64 (w0 (a) : Nat), .int .u64 (w1 (a) : Nat), .int .u64 (w2 (a) : Nat), .int .u64 (w3 (a) : Nat)] 24 (0, 0)) := by rw [← hW]; exact ak hA
    have lOE1 : w.heap.size + 2 < b13 := by rw [← hbx]; exact lt_of_heap hE1
    replace hE1 : V7.heap[w.heap.size + 2]? = some (.cells #[.int .u64 (w0 (p) : Nat), .int .u64 (w1 (p) : Nat), .int .u64 (w2 (p) : Nat), .int .u64 (w3 (p) : Nat)] 24 (0, 0)) := by rw [← hW]; exact ak hE1
    have lOE2 : w.heap.size + 3 < b13 := by rw [← hbx]; exact lt_of_heap hE2
    replace hE2 : V7.heap[w.heap.size + 3]? = some (.cells #[.int .u64 (w0 (q) : Nat), .int .u64 (w1 (q) : Nat), .int .u64 (w2 (q) : Nat), .int .u64 (w3 (q) : Nat)] 24 (0, 0)) := by rw [← hW]; exact ak hE2
    have lOQ : g < b13 := by rw [← hbx]; exact lt_of_heap hQ
    replace hQ : V7.heap[g]? = some (.cells #[.int .u64 (w0 (u) : Nat), .int .u64 (w1 (u) : Nat), .int .u64 (w2 (u) : Nat), .int .u64 (w3 (u) : Nat), .int .u64 (finv1 (u) : Nat), .int .u64 (w0 (fsq (u)) : Nat), .int .u64 (w1 (fsq (u)) : Nat), .int .u64 (w2 (fsq (u)) : Nat), .int .u64 (w3 (fsq (u)) : Nat)] 90 (0, 0)) := by rw [← hW]; exact ak hQ
    have lO : w.heap.size ≤ b13 := by rw [← hbx]; exact kk.size
    replace kk : Below w.heap.size w V7 := by rw [← hW]; exact bal kk _
    have hO := hNEW
    replace fF := IsF.of HF.out hQ
    clear hNEW hW hbx
    go_wp2_with fail
    have L : ∀ {x : Nat}, x % u < 2 ^ 256 := fun {x} => Nat.lt_trans (Nat.mod_lt x hpos) HM.out
    have HL := Lib.hid (show ∀ n, powm u a n < 2 ^ 256 from fun n => L)
    clear L
    go_loopw [39] (fun i wr => ∃ (j : Nat), j ≤ c ∧ i = .int .u8 (j : Int) ∧ wr.heap[w.heap.size]? = some (.cells #[.int .u64 (w0 (u) : Nat), .int .u64 (w1 (u) : Nat), .int .u64 (w2 (u) : Nat), .int .u64 (w3 (u) : Nat)] 24 (0, 0)) ∧ wr.heap[w.heap.size + 1]? = some (.cells #[.int .u64 (w0 (a) : Nat), .int .u64 (w1 (a) : Nat), .int .u64 (w2 (a) : Nat), .int .u64 (w3 (a) : Nat)] 24 (0, 0)) ∧ wr.heap[w.heap.size + 2]? = some (.cells #[.int .u64 (w0 (p) : Nat), .int .u64 (w1 (p) : Nat), .int .u64 (w2 (p) : Nat), .int .u64 (w3 (p) : Nat)] 24 (0, 0)) ∧ wr.heap[w.heap.size + 3]? = some (.cells #[.int .u64 (w0 (q) : Nat), .int .u64 (w1 (q) : Nat), .int .u64 (w2 (q) : Nat), .int .u64 (w3 (q) : Nat)] 24 (0, 0)) ∧ wr.heap[b13]? = some (.cells #[.int .u64 (w0 (powm u a j) : Nat), .int .u64 (w1 (powm u a j) : Nat), .int .u64 (w2 (powm u a j) : Nat), .int .u64 (w3 (powm u a j) : Nat)] 24 (0, 0)) ∧ IsF wr g u ∧ Below w.heap.size w wr) (fun i wr => (c - intOf i).toNat)
    case atStart => exact ⟨0, by omega, rfl, hM, hA, hE1, hE2, hO, fF, kk⟩
    case round =>
      clear hM hA hE1 hE2 hO fF kk hQ
      obtain ⟨j, hj, rfl, hM, hA, hE1, hE2, hO, fF, kk⟩ := hrel
      have hQ := fF.blk
      by_cases hjc : j < c
      · have j1 : (j : Int) < (c : Int) := by omega
        have j2 : IntKind.u8.wrap ((j : Int) + 1) = (j : Int) + 1 := IntWalk.u8_in _ (by have := HC.out; omega)
        have PB := Lib.hid (HL.out j)
        have HB := Lib.hid (prod_bigP (k := 256) (by decide) (HL.out j) hla.out)
        have PB2 := Lib.hid (one_bigP (HL.out j))
        have PA2 := Lib.hid (one_bigP hla.out)
        go_upto_region 13 with fail
        obtain ⟨S0, hS0⟩ : ∃ S : World → Prop, S = (fun w' => w'.heap[w.heap.size]? = some (.cells #[.int .u64 (w0 (u) : Nat), .int .u64 (w1 (u) : Nat), .int .u64 (w2 (u) : Nat), .int .u64 (w3 (u) : Nat)] 24 (0, 0)) ∧ w'.heap[w.heap.size + 1]? = some (.cells #[.int .u64 (w0 (a) : Nat), .int .u64 (w1 (a) : Nat), .int .u64 (w2 (a) : Nat), .int .u64 (w3 (a) : Nat)] 24 (0, 0)) ∧ w'.heap[b13]? = some (.cells #[.int .u64 (w0 (powm u a j) : Nat), .int .u64 (w1 (powm u a j) : Nat), .int .u64 (w2 (powm u a j) : Nat), .int .u64 (w3 (powm u a j) : Nat)] 24 (0, 0))) := ⟨_, rfl⟩
        refine startT (S := S0) 8 (by kernel_rfl) (by rw [hS0]; exact ⟨hM, hA, hO⟩) (fun hHeld => ?_)
        refine takeT (i := 0) (d := some 41) (v := ?_) _ rfl rfl (by rfl) (by kernel_rfl) (by decide) (by kernel_rfl) (by kernel_rfl) (by kernel_rfl) (fun _ _ _ h => h) (by assumption) (by kernel_rfl) ?_ ?_
        rotate_left
        · (intro w' hSw; (rw [hS0] at hSw); (have hSw' := hSw); (first | (obtain ⟨svM, svA, svO⟩ := hSw'; obtain ⟨cvM0, cvM1, cvM2, cvM3⟩ := row4c svM; obtain ⟨cvA0, cvA1, cvA2, cvA3⟩ := row4c svA; obtain ⟨cvO0, cvO1, cvO2, cvO3⟩ := row4c svO; go_simp)); try (with_reducible rfl))
        try simp only [Act.put, List.setIfInBounds_toArray, List.set_cons_zero, List.set_cons_succ]
        refine takeT (i := 2) (d := some 43) (v := ?_) _ rfl rfl (by rfl) (by kernel_rfl) (by decide) (by kernel_rfl) (by kernel_rfl) (by kernel_rfl) (fun _ _ _ h => h) (by assumption) (by kernel_rfl) ?_ ?_
        rotate_left
        · (intro w' hSw; (rw [hS0] at hSw); (have hSw' := hSw); (first | (obtain ⟨svM, svA, svO⟩ := hSw'; obtain ⟨cvM0, cvM1, cvM2, cvM3⟩ := row4c svM; obtain ⟨cvA0, cvA1, cvA2, cvA3⟩ := row4c svA; obtain ⟨cvO0, cvO1, cvO2, cvO3⟩ := row4c svO; go_simp)); try (with_reducible rfl))
        try simp only [Act.put, List.setIfInBounds_toArray, List.set_cons_zero, List.set_cons_succ]
        refine takeT (i := 5) (d := some 46) (v := ?_) _ rfl rfl (by rfl) (by kernel_rfl) (by decide) (by kernel_rfl) (by kernel_rfl) (by kernel_rfl) (fun _ _ _ h => h) (by assumption) (by kernel_rfl) ?_ ?_
        rotate_left
        · (intro w' hSw; (rw [hS0] at hSw); (have hSw' := hSw); (first | (obtain ⟨svM, svA, svO⟩ := hSw'; obtain ⟨cvM0, cvM1, cvM2, cvM3⟩ := row4c svM; obtain ⟨cvA0, cvA1, cvA2, cvA3⟩ := row4c svA; obtain ⟨cvO0, cvO1, cvO2, cvO3⟩ := row4c svO; go_simp)); try (with_reducible rfl))
        try simp only [Act.put, List.setIfInBounds_toArray, List.set_cons_zero, List.set_cons_succ]
        refine callT (i := 1) _ rfl (by rfl) (by kernel_rfl) (fun K hK => ?_)
        go_simp
        refine (num_of PB.out _).mono ?_
        rintro e V81 ⟨vhN1, rfl, hN1, hb⟩
        (try replace hN2 := NumV.below (by first | exact hN2 | exact hN2.drew) hb)
        (try replace hN3 := NumV.below (by first | exact hN3 | exact hN3.drew) hb)
        (try replace hN4 := NumV.below (by first | exact hN4 | exact hN4.drew) hb)
        replace hM := below_get hb hM
        replace hA := below_get hb hA
        replace hE1 := below_get hb hE1
        replace hE2 := below_get hb hE2
        replace hO := below_get hb hO
        replace hQ := below_get hb hQ
        replace kk := bcl (by first | exact kk | exact kk.drew | exact below_drewN kk _) hb
        replace fF := IsF.of HF.out hQ
        clear hb
        refine hK.out _ _ (Or.inr (by rw [hS0]; exact ⟨hM, hA, hO⟩)) ?_
        clear hK K
        try simp only [Act.put, List.setIfInBounds_toArray, List.set_cons_zero, List.set_cons_succ]
        refine callT (i := 3) _ rfl (by rfl) (by kernel_rfl) (fun K hK => ?_)
        go_simp
        refine (num_of hla.out _).mono ?_
        rintro e V82 ⟨vhN2, rfl, hN2, hb⟩
        (try replace hN1 := NumV.below (by first | exact hN1 | exact hN1.drew) hb)
        (try replace hN3 := NumV.below (by first | exact hN3 | exact hN3.drew) hb)
        (try replace hN4 := NumV.below (by first | exact hN4 | exact hN4.drew) hb)
        replace hM := below_get hb hM
        replace hA := below_get hb hA
        replace hE1 := below_get hb hE1
        replace hE2 := below_get hb hE2
        replace hO := below_get hb hO
        replace hQ := below_get hb hQ
        replace kk := bcl (by first | exact kk | exact kk.drew | exact below_drewN kk _) hb
        replace fF := IsF.of HF.out hQ
        clear hb
        refine hK.out _ _ (Or.inr (by rw [hS0]; exact ⟨hM, hA, hO⟩)) ?_
        clear hK K
        try simp only [Act.put, List.setIfInBounds_toArray, List.set_cons_zero, List.set_cons_succ]
        refine callT (i := 4) _ rfl (by rfl) (by kernel_rfl) (fun K hK => ?_)
        go_simp
        refine (num_mul (by first | exact hN1 | exact hN1.drew) (by first | exact hN2 | exact hN2.drew) PB2.out PA2.out).mono ?_
        rintro e V83 ⟨vhN3, rfl, hN3, hb⟩
        (try replace hN1 := NumV.below (by first | exact hN1 | exact hN1.drew) hb)
        (try replace hN2 := NumV.below (by first | exact hN2 | exact hN2.drew) hb)
        (try replace hN4 := NumV.below (by first | exact hN4 | exact hN4.drew) hb)
        replace hM := below_get hb hM
        replace hA := below_get hb hA
        replace hE1 := below_get hb hE1
        replace hE2 := below_get hb hE2
        replace hO := below_get hb hO
        replace hQ := below_get hb hQ
        replace kk := bcl (by first | exact kk | exact kk.drew | exact below_drewN kk _) hb
        replace fF := IsF.of HF.out hQ
        clear hb
        refine hK.out _ _ (Or.inr (by rw [hS0]; exact ⟨hM, hA, hO⟩)) ?_
        clear hK K
        try simp only [Act.put, List.setIfInBounds_toArray, List.set_cons_zero, List.set_cons_succ]
        refine callT (i := 6) _ rfl (by rfl) (by kernel_rfl) (fun K hK => ?_)
        go_simp
        refine (num_of HM.out _).mono ?_
        rintro e V84 ⟨vhN4, rfl, hN4, hb⟩
        (try replace hN1 := NumV.below (by first | exact hN1 | exact hN1.drew) hb)
        (try replace hN2 := NumV.below (by first | exact hN2 | exact hN2.drew) hb)
        (try replace hN3 := NumV.below (by first | exact hN3 | exact hN3.drew) hb)
        replace hM := below_get hb hM
        replace hA := below_get hb hA
        replace hE1 := below_get hb hE1
        replace hE2 := below_get hb hE2
        replace hO := below_get hb hO
        replace hQ := below_get hb hQ
        replace kk := bcl (by first | exact kk | exact kk.drew | exact below_drewN kk _) hb
        replace fF := IsF.of HF.out hQ
        clear hb
        refine hK.out _ _ (Or.inr (by rw [hS0]; exact ⟨hM, hA, hO⟩)) ?_
        clear hK K
        try simp only [Act.put, List.setIfInBounds_toArray, List.set_cons_zero, List.set_cons_succ]
        refine callT (i := 7) _ rfl (by rfl) (by kernel_rfl) (fun K hK => ?_)
        go_simp
        refine (num_mod (by first | exact hN3 | exact hN3.drew) (by first | exact hN4 | exact hN4.drew) hpos HB.out HM.out).mono ?_
        rintro e V85 ⟨rfl, hb⟩
        (try replace hN1 := NumV.below (by first | exact hN1 | exact hN1.drew) hb)
        (try replace hN2 := NumV.below (by first | exact hN2 | exact hN2.drew) hb)
        (try replace hN3 := NumV.below (by first | exact hN3 | exact hN3.drew) hb)
        (try replace hN4 := NumV.below (by first | exact hN4 | exact hN4.drew) hb)
        replace hM := below_get hb hM
        replace hA := below_get hb hA
        replace hE1 := below_get hb hE1
        replace hE2 := below_get hb hE2
        replace hO := below_get hb hO
        replace hQ := below_get hb hQ
        replace kk := bcl (by first | exact kk | exact kk.drew | exact below_drewN kk _) hb
        replace fF := IsF.of HF.out hQ
        clear hb
        refine hK.out _ _ (Or.inr (by rw [hS0]; exact ⟨hM, hA, hO⟩)) ?_
        clear hK K
        try simp only [Act.put, List.setIfInBounds_toArray, List.set_cons_zero, List.set_cons_succ]
        refine callT (i := 8) _ rfl (by rfl) (by kernel_rfl) (fun K hK => ?_)
        obtain ⟨cO0, cO1, cO2, cO3⟩ := row4c hO
        obtain ⟨zO0, zO1, zO2, zO3⟩ := row4z hO
        go_simp
        have P := put4 (.int .u64 (w0 (powm u a j * a % u) : Nat)) (.int .u64 (w1 (powm u a j * a % u) : Nat)) (.int .u64 (w2 (powm u a j * a % u) : Nat)) (.int .u64 (w3 (powm u a j * a % u) : Nat)) hO
        replace P := put_hid P
        obtain ⟨V8, hW, P⟩ := P
        rw [hW]
        replace hO := P.here
        replace hM := (P.there (w.heap.size) (by omega)).trans (show _ = some (.cells #[.int .u64 (w0 (u) : Nat), .int .u64 (w1 (u) : Nat), .int .u64 (w2 (u) : Nat), .int .u64 (w3 (u) : Nat)] 24 (0, 0)) from hM)
        replace hA := (P.there (w.heap.size + 1) (by omega)).trans (show _ = some (.cells #[.int .u64 (w0 (a) : Nat), .int .u64 (w1 (a) : Nat), .int .u64 (w2 (a) : Nat), .int .u64 (w3 (a) : Nat)] 24 (0, 0)) from hA)
        replace hE1 := (P.there (w.heap.size + 2) (by omega)).trans (show _ = some (.cells #[.int .u64 (w0 (p) : Nat), .int .u64 (w1 (p) : Nat), .int .u64 (w2 (p) : Nat), .int .u64 (w3 (p) : Nat)] 24 (0, 0)) from hE1)
        replace hE2 := (P.there (w.heap.size + 3) (by omega)).trans (show _ = some (.cells #[.int .u64 (w0 (q) : Nat), .int .u64 (w1 (q) : Nat), .int .u64 (w2 (q) : Nat), .int .u64 (w3 (q) : Nat)] 24 (0, 0)) from hE2)
        replace hQ := (P.there (g) (by omega)).trans (show _ = some (.cells #[.int .u64 (w0 (u) : Nat), .int .u64 (w1 (u) : Nat), .int .u64 (w2 (u) : Nat), .int .u64 (w3 (u) : Nat), .int .u64 (finv1 (u) : Nat), .int .u64 (w0 (fsq (u)) : Nat), .int .u64 (w1 (fsq (u)) : Nat), .int .u64 (w2 (fsq (u)) : Nat), .int .u64 (w3 (fsq (u)) : Nat)] 90 (0, 0)) from hQ)
        replace kk := P.below (by omega) (show Below w.heap.size w V85 from by first | exact kk | exact kk.drew | exact below_drewN kk _)
        replace fF := IsF.of HF.out hQ
        clear cO0 zO0 cO1 zO1 cO2 zO2 cO3 zO3
        clear P hW
        refine hK.out _ _ (Or.inl (by kernel_rfl)) ?_
        clear hK K
        try simp only [Act.put, List.setIfInBounds_toArray, List.set_cons_zero, List.set_cons_succ]
        refine doneT (by kernel_rfl) ?_ _
        clear hHeld hS0 S0
        go_simp
        clear hN1 hN2 hN3 hN4
        go_wp2_with fail
        rw [pow_step u a j] at hO
        refine ⟨⟨j + 1, by omega, congrArg (Value.int .u8) (by omega), hM, hA, hE1, hE2, hO, fF, kk⟩, ?_⟩
        simp only [intOf]; omega
      · have j1 : ¬ (j : Int) < (c : Int) := by omega
        obtain rfl : j = c := by omega
        clear hjc hj
        go_upto_region 15 with fail
        obtain ⟨S0, hS0⟩ : ∃ S : World → Prop, S = (fun w' => w'.heap[w.heap.size + 3]? = some (.cells #[.int .u64 (w0 (q) : Nat), .int .u64 (w1 (q) : Nat), .int .u64 (w2 (q) : Nat), .int .u64 (w3 (q) : Nat)] 24 (0, 0))) := ⟨_, rfl⟩
        refine startT (S := S0) 5 (by kernel_rfl) (by rw [hS0]; exact hE2) (fun hHeld => ?_)
        refine takeT (i := 2) (d := some 52) (v := ?_) _ rfl rfl (by rfl) (by kernel_rfl) (by decide) (by kernel_rfl) (by kernel_rfl) (by kernel_rfl) (fun _ _ _ h => h) (by assumption) (by kernel_rfl) ?_ ?_
        rotate_left
        · (intro w' hSw; (rw [hS0] at hSw); (have hSw' := hSw); (first | (have svE2 := hSw'; obtain ⟨cvE20, cvE21, cvE22, cvE23⟩ := row4c svE2; go_simp)); try (with_reducible rfl))
        try simp only [Act.put, List.setIfInBounds_toArray, List.set_cons_zero, List.set_cons_succ]
        obtain ⟨cE10, cE11, cE12, cE13⟩ := row4c hE1
        obtain ⟨zE10, zE11, zE12, zE13⟩ := row4z hE1
        refine callT (i := 0) _ rfl (by rfl) (by kernel_rfl) (fun K hK => ?_)
        go_simp
        refine hK.out _ _ (Or.inr (by rw [hS0]; exact hE2)) ?_
        clear hK K
        try simp only [Act.put, List.setIfInBounds_toArray, List.set_cons_zero, List.set_cons_succ]
        refine callT (i := 1) _ rfl (by rfl) (by kernel_rfl) (fun K hK => ?_)
        go_simp
        refine (right2_any (W4.mk' hlb.out) _).mono ?_
        rintro e V91 ⟨rfl, hb⟩
        replace hM := below_get hb hM
        replace hA := below_get hb hA
        replace hE1 := below_get hb hE1
        replace hE2 := below_get hb hE2
        replace hO := below_get hb hO
        replace hQ := below_get hb hQ
        replace kk := bcl (by first | exact kk | exact kk.drew | exact below_drewN kk _) hb
        replace fF := IsF.of HF.out hQ
        clear cE10 zE10 cE11 zE11 cE12 zE12 cE13 zE13
        clear hb
        refine hK.out _ _ (Or.inr (by rw [hS0]; exact hE2)) ?_
        clear hK K
        try simp only [Act.put, List.setIfInBounds_toArray, List.set_cons_zero, List.set_cons_succ]
        refine callT (i := 3) _ rfl (by rfl) (by kernel_rfl) (fun K hK => ?_)
        go_simp
        refine (right2_any (W4.mk' hlc.out) _).mono ?_
        rintro e V92 ⟨rfl, hb⟩
        replace hM := below_get hb hM
        replace hA := below_get hb hA
        replace hE1 := below_get hb hE1
        replace hE2 := below_get hb hE2
        replace hO := below_get hb hO
        replace hQ := below_get hb hQ
        replace kk := bcl (by first | exact kk | exact kk.drew | exact below_drewN kk _) hb
        replace fF := IsF.of HF.out hQ
        clear hb
        refine hK.out _ _ (Or.inr (by rw [hS0]; exact hE2)) ?_
        clear hK K
        try simp only [Act.put, List.setIfInBounds_toArray, List.set_cons_zero, List.set_cons_succ]
        refine callT (i := 4) _ rfl (by rfl) (by kernel_rfl) (fun K hK => ?_)
        obtain ⟨cE10, cE11, cE12, cE13⟩ := row4c hE1
        obtain ⟨zE10, zE11, zE12, zE13⟩ := row4z hE1
        go_simp
        have P := put4 (.int .u64 (w0 (p / 4) : Nat)) (.int .u64 (w1 (p / 4) : Nat)) (.int .u64 (w2 (p / 4) : Nat)) (.int .u64 (w3 (p / 4) : Nat)) hE1
        replace P := put_hid P
        obtain ⟨V9b, hW, P⟩ := P
        rw [hW]
        replace hE1 := P.here
        replace hM := (P.there (w.heap.size) (by omega)).trans (show _ = some (.cells #[.int .u64 (w0 (u) : Nat), .int .u64 (w1 (u) : Nat), .int .u64 (w2 (u) : Nat), .int .u64 (w3 (u) : Nat)] 24 (0, 0)) from hM)
        replace hA := (P.there (w.heap.size + 1) (by omega)).trans (show _ = some (.cells #[.int .u64 (w0 (a) : Nat), .int .u64 (w1 (a) : Nat), .int .u64 (w2 (a) : Nat), .int .u64 (w3 (a) : Nat)] 24 (0, 0)) from hA)
        replace hE2 := (P.there (w.heap.size + 3) (by omega)).trans (show _ = some (.cells #[.int .u64 (w0 (q) : Nat), .int .u64 (w1 (q) : Nat), .int .u64 (w2 (q) : Nat), .int .u64 (w3 (q) : Nat)] 24 (0, 0)) from hE2)
        replace hO := (P.there (b13) (by omega)).trans (show _ = some (.cells #[.int .u64 (w0 (powm u a j) : Nat), .int .u64 (w1 (powm u a j) : Nat), .int .u64 (w2 (powm u a j) : Nat), .int .u64 (w3 (powm u a j) : Nat)] 24 (0, 0)) from hO)
        replace hQ := (P.there (g) (by omega)).trans (show _ = some (.cells #[.int .u64 (w0 (u) : Nat), .int .u64 (w1 (u) : Nat), .int .u64 (w2 (u) : Nat), .int .u64 (w3 (u) : Nat), .int .u64 (finv1 (u) : Nat), .int .u64 (w0 (fsq (u)) : Nat), .int .u64 (w1 (fsq (u)) : Nat), .int .u64 (w2 (fsq (u)) : Nat), .int .u64 (w3 (fsq (u)) : Nat)] 90 (0, 0)) from hQ)
        replace kk := P.below (by omega) (show Below w.heap.size w V92 from by first | exact kk | exact kk.drew | exact below_drewN kk _)
        replace fF := IsF.of HF.out hQ
        clear cE10 zE10 cE11 zE11 cE12 zE12 cE13 zE13
        clear P hW
        refine hK.out _ _ (Or.inr (by rw [hS0]; exact hE2)) ?_
        clear hK K
        try simp only [Act.put, List.setIfInBounds_toArray, List.set_cons_zero, List.set_cons_succ]
        refine callT (i := 5) _ rfl (by rfl) (by kernel_rfl) (fun K hK => ?_)
        obtain ⟨cE20, cE21, cE22, cE23⟩ := row4c hE2
        obtain ⟨zE20, zE21, zE22, zE23⟩ := row4z hE2
        go_simp
        have P := put4 (.int .u64 (w0 (q / 4) : Nat)) (.int .u64 (w1 (q / 4) : Nat)) (.int .u64 (w2 (q / 4) : Nat)) (.int .u64 (w3 (q / 4) : Nat)) hE2
        replace P := put_hid P
        obtain ⟨V9, hW, P⟩ := P
        rw [hW]
        replace hE2 := P.here
        replace hM := (P.there (w.heap.size) (by omega)).trans (show _ = some (.cells #[.int .u64 (w0 (u) : Nat), .int .u64 (w1 (u) : Nat), .int .u64 (w2 (u) : Nat), .int .u64 (w3 (u) : Nat)] 24 (0, 0)) from hM)
        replace hA := (P.there (w.heap.size + 1) (by omega)).trans (show _ = some (.cells #[.int .u64 (w0 (a) : Nat), .int .u64 (w1 (a) : Nat), .int .u64 (w2 (a) : Nat), .int .u64 (w3 (a) : Nat)] 24 (0, 0)) from hA)
        replace hE1 := (P.there (w.heap.size + 2) (by omega)).trans (show _ = some (.cells #[.int .u64 (w0 (p / 4) : Nat), .int .u64 (w1 (p / 4) : Nat), .int .u64 (w2 (p / 4) : Nat), .int .u64 (w3 (p / 4) : Nat)] 24 (0, 0)) from hE1)
        replace hO := (P.there (b13) (by omega)).trans (show _ = some (.cells #[.int .u64 (w0 (powm u a j) : Nat), .int .u64 (w1 (powm u a j) : Nat), .int .u64 (w2 (powm u a j) : Nat), .int .u64 (w3 (powm u a j) : Nat)] 24 (0, 0)) from hO)
        replace hQ := (P.there (g) (by omega)).trans (show _ = some (.cells #[.int .u64 (w0 (u) : Nat), .int .u64 (w1 (u) : Nat), .int .u64 (w2 (u) : Nat), .int .u64 (w3 (u) : Nat), .int .u64 (finv1 (u) : Nat), .int .u64 (w0 (fsq (u)) : Nat), .int .u64 (w1 (fsq (u)) : Nat), .int .u64 (w2 (fsq (u)) : Nat), .int .u64 (w3 (fsq (u)) : Nat)] 90 (0, 0)) from hQ)
        replace kk := P.below (by omega) (show Below w.heap.size w V9b from by first | exact kk | exact kk.drew | exact below_drewN kk _)
        replace fF := IsF.of HF.out hQ
        clear cE20 zE20 cE21 zE21 cE22 zE22 cE23 zE23
        clear P hW
        refine hK.out _ _ (Or.inl (by kernel_rfl)) ?_
        clear hK K
        try simp only [Act.put, List.setIfInBounds_toArray, List.set_cons_zero, List.set_cons_succ]
        refine doneT (by kernel_rfl) ?_ _
        clear hHeld hS0 S0
        go_simp
        have h4p := Lib.hid (show p / 4 < 2 ^ 256 by have := hlb.out; omega)
        have h4q := Lib.hid (show q / 4 < 2 ^ 256 by have := hlc.out; omega)
        have hsum := Lib.hid (show addm (p / 4) (q / 4) = p / 4 + q / 4 by have h1 := hlb.out; have h2 := hlc.out; unfold addm; omega)
        have hsl := Lib.hid (show p / 4 + q / 4 < 2 ^ 256 by have h1 := hlb.out; have h2 := hlc.out; omega)
        obtain ⟨cE10, cE11, cE12, cE13⟩ := row4c hE1
        obtain ⟨zE10, zE11, zE12, zE13⟩ := row4z hE1
        obtain ⟨cE20, cE21, cE22, cE23⟩ := row4c hE2
        obtain ⟨zE20, zE21, zE22, zE23⟩ := row4z hE2
        go_wp2_with fail
        refine (add_any (W4.mk' h4p.out) (W4.mk' h4q.out) _).mono ?_
        rintro e V10 ⟨rfl, hb⟩
        replace hM := below_get hb hM
        replace hA := below_get hb hA
        replace hE1 := below_get hb hE1
        replace hE2 := below_get hb hE2
        replace hO := below_get hb hO
        replace hQ := below_get hb hQ
        replace kk := bcl (by first | exact kk | exact kk.drew | exact below_drewN kk _) hb
        replace fF := IsF.of HF.out hQ
        clear cE10 zE10 cE11 zE11 cE12 zE12 cE13 zE13 cE20 zE20 cE21 zE21 cE22 zE22 cE23 zE23
        clear hb
        rw [hsum.out]
        go_upto_region 17 with fail
        obtain ⟨V11, hW⟩ : ∃ V, V10.alloc (.cells #[.int .u64 (w0 (p / 4 + q / 4) : Nat), .int .u64 (w1 (p / 4 + q / 4) : Nat), .int .u64 (w2 (p / 4 + q / 4) : Nat), .int .u64 (w3 (p / 4 + q / 4) : Nat)] 24 (0, 0)) = V := ⟨_, rfl⟩
        rw [hW]
        obtain ⟨b14, hbx⟩ : ∃ n, V10.heap.size = n := ⟨_, rfl⟩
        rw [hbx]
        have hNEW : V11.heap[b14]? = some (.cells #[.int .u64 (w0 (p / 4 + q / 4) : Nat), .int .u64 (w1 (p / 4 + q / 4) : Nat), .int .u64 (w2 (p / 4 + q / 4) : Nat), .int .u64 (w3 (p / 4 + q / 4) : Nat)] 24 (0, 0)) := by rw [← hW, ← hbx]; exact heap_alloc_new _ _
        have lSMM : w.heap.size < b14 := by rw [← hbx]; exact lt_of_heap hM
        replace hM : V11.heap[w.heap.size]? = some (.cells #[.int .u64 (w0 (u) : Nat), .int .u64 (w1 (u) : Nat), .int .u64 (w2 (u) : Nat), .int .u64 (w3 (u) : Nat)] 24 (0, 0)) := by rw [← hW]; exact ak hM
        have lSMA : w.heap.size + 1 < b14 := by rw [← hbx]; exact lt_of_heap hA
        replace hA : V11.heap[w.heap.size + 1]? = some (.cells #[.int .u64 (w0 (a) : Nat), .int .u64 (w1 (a) : Nat), .int .u64 (w2 (a) : Nat), .int .u64 (w3 (a) : Nat)] 24 (0, 0)) := by rw [← hW]; exact ak hA
        have lSME1 : w.heap.size + 2 < b14 := by rw [← hbx]; exact lt_of_heap hE1
        replace hE1 : V11.heap[w.heap.size + 2]? = some (.cells #[.int .u64 (w0 (p / 4) : Nat), .int .u64 (w1 (p / 4) : Nat), .int .u64 (w2 (p / 4) : Nat), .int .u64 (w3 (p / 4) : Nat)] 24 (0, 0)) := by rw [← hW]; exact ak hE1
        have lSME2 : w.heap.size + 3 < b14 := by rw [← hbx]; exact lt_of_heap hE2
        replace hE2 : V11.heap[w.heap.size + 3]? = some (.cells #[.int .u64 (w0 (q / 4) : Nat), .int .u64 (w1 (q / 4) : Nat), .int .u64 (w2 (q / 4) : Nat), .int .u64 (w3 (q / 4) : Nat)] 24 (0, 0)) := by rw [← hW]; exact ak hE2
        have lSMO : b13 < b14 := by rw [← hbx]; exact lt_of_heap hO
        replace hO : V11.heap[b13]? = some (.cells #[.int .u64 (w0 (powm u a j) : Nat), .int .u64 (w1 (powm u a j) : Nat), .int .u64 (w2 (powm u a j) : Nat), .int .u64 (w3 (powm u a j) : Nat)] 24 (0, 0)) := by rw [← hW]; exact ak hO
        have lSMQ : g < b14 := by rw [← hbx]; exact lt_of_heap hQ
        replace hQ : V11.heap[g]? = some (.cells #[.int .u64 (w0 (u) : Nat), .int .u64 (w1 (u) : Nat), .int .u64 (w2 (u) : Nat), .int .u64 (w3 (u) : Nat), .int .u64 (finv1 (u) : Nat), .int .u64 (w0 (fsq (u)) : Nat), .int .u64 (w1 (fsq (u)) : Nat), .int .u64 (w2 (fsq (u)) : Nat), .int .u64 (w3 (fsq (u)) : Nat)] 90 (0, 0)) := by rw [← hW]; exact ak hQ
        have lSM : w.heap.size ≤ b14 := by rw [← hbx]; exact kk.size
        replace kk : Below w.heap.size w V11 := by rw [← hW]; exact bal kk _
        have hSM := hNEW
        replace fF := IsF.of HF.out hQ
        clear hNEW hW hbx
        have j3 : IntKind.u64.wrap (j : Int) = (j : Int) := IntWalk.u64_in _ (by have := HC.out; omega)
        have hcl := Lib.hid (show j < 18446744073709551616 by have := HC.out; omega)
        have q5 := eqlG (HL.out j) (HL.out j) rfl
        have q6 := eqlG (HL.out (p / 4 + q / 4)) (show mulm u (powm u a (p / 4)) (powm u a (q / 4)) < 2 ^ 256 from Nat.lt_trans (Nat.mod_lt _ hpos) HM.out) (pow_sum u a (p / 4) (q / 4))
        have G1 := Lib.hid (HL.out (p / 4))
        have G2 := Lib.hid (HL.out (q / 4))
        obtain ⟨cA0, cA1, cA2, cA3⟩ := row4c hA
        obtain ⟨zA0, zA1, zA2, zA3⟩ := row4z hA
        obtain ⟨cO0, cO1, cO2, cO3⟩ := row4c hO
        obtain ⟨zO0, zO1, zO2, zO3⟩ := row4z hO
        obtain ⟨cSM0, cSM1, cSM2, cSM3⟩ := row4c hSM
        obtain ⟨zSM0, zSM1, zSM2, zSM3⟩ := row4z hSM
        obtain ⟨cE10, cE11, cE12, cE13⟩ := row4c hE1
        obtain ⟨zE10, zE11, zE12, zE13⟩ := row4z hE1
        obtain ⟨cE20, cE21, cE22, cE23⟩ := row4c hE2
        obtain ⟨zE20, zE21, zE22, zE23⟩ := row4z hE2
        have fFd : IsF (World.drew V11) (g) (u) := ⟨fF.blk, fF.odd, fF.three, fF.lt⟩
        try clear cA0 cA1 cA2 cA3
        obtain ⟨cA0, cA1, cA2, cA3⟩ := row4c hA
        try clear cO0 cO1 cO2 cO3
        obtain ⟨cO0, cO1, cO2, cO3⟩ := row4c hO
        try clear cSM0 cSM1 cSM2 cSM3
        obtain ⟨cSM0, cSM1, cSM2, cSM3⟩ := row4c hSM
        try clear cE10 cE11 cE12 cE13
        obtain ⟨cE10, cE11, cE12, cE13⟩ := row4c hE1
        try clear cE20 cE21 cE22 cE23
        obtain ⟨cE20, cE21, cE22, cE23⟩ := row4c hE2
        go_region_held3 (fun w' => w'.cell? ⟨w.heap.size + 1, 0, none⟩ = some (.int .u64 (w0 (a) : Nat)) ∧ w'.cell? ⟨w.heap.size + 1, 1, none⟩ = some (.int .u64 (w1 (a) : Nat)) ∧ w'.cell? ⟨w.heap.size + 1, 2, none⟩ = some (.int .u64 (w2 (a) : Nat)) ∧ w'.cell? ⟨w.heap.size + 1, 3, none⟩ = some (.int .u64 (w3 (a) : Nat)) ∧ w'.cell? ⟨b13, 0, none⟩ = some (.int .u64 (w0 (powm u a j) : Nat)) ∧ w'.cell? ⟨b13, 1, none⟩ = some (.int .u64 (w1 (powm u a j) : Nat)) ∧ w'.cell? ⟨b13, 2, none⟩ = some (.int .u64 (w2 (powm u a j) : Nat)) ∧ w'.cell? ⟨b13, 3, none⟩ = some (.int .u64 (w3 (powm u a j) : Nat)) ∧ w'.cell? ⟨b14, 0, none⟩ = some (.int .u64 (w0 (p / 4 + q / 4) : Nat)) ∧ w'.cell? ⟨b14, 1, none⟩ = some (.int .u64 (w1 (p / 4 + q / 4) : Nat)) ∧ w'.cell? ⟨b14, 2, none⟩ = some (.int .u64 (w2 (p / 4 + q / 4) : Nat)) ∧ w'.cell? ⟨b14, 3, none⟩ = some (.int .u64 (w3 (p / 4 + q / 4) : Nat)) ∧ w'.cell? ⟨w.heap.size + 2, 0, none⟩ = some (.int .u64 (w0 (p / 4) : Nat)) ∧ w'.cell? ⟨w.heap.size + 2, 1, none⟩ = some (.int .u64 (w1 (p / 4) : Nat)) ∧ w'.cell? ⟨w.heap.size + 2, 2, none⟩ = some (.int .u64 (w2 (p / 4) : Nat)) ∧ w'.cell? ⟨w.heap.size + 2, 3, none⟩ = some (.int .u64 (w3 (p / 4) : Nat)) ∧ w'.cell? ⟨w.heap.size + 3, 0, none⟩ = some (.int .u64 (w0 (q / 4) : Nat)) ∧ w'.cell? ⟨w.heap.size + 3, 1, none⟩ = some (.int .u64 (w1 (q / 4) : Nat)) ∧ w'.cell? ⟨w.heap.size + 3, 2, none⟩ = some (.int .u64 (w2 (q / 4) : Nat)) ∧ w'.cell? ⟨w.heap.size + 3, 3, none⟩ = some (.int .u64 (w3 (q / 4) : Nat))) (first | (with_reducible exact ⟨cA0, cA1, cA2, cA3, cO0, cO1, cO2, cO3, cSM0, cSM1, cSM2, cSM3, cE10, cE11, cE12, cE13, cE20, cE21, cE22, cE23⟩) | go_keep) (first | (go_at_call 17; refine (of_any _ _).mono ?_; rintro e W ⟨rfl, hb⟩; (first | replace hM := below_get hb hM | replace hM := below_get hb (ak hM)); (first | replace hA := below_get hb hA | replace hA := below_get hb (ak hA)); (first | replace hE1 := below_get hb hE1 | replace hE1 := below_get hb (ak hE1)); (first | replace hE2 := below_get hb hE2 | replace hE2 := below_get hb (ak hE2)); (first | replace hO := below_get hb hO | replace hO := below_get hb (ak hO)); (first | replace hQ := below_get hb hQ | replace hQ := below_get hb (ak hQ)); (first | replace hSM := below_get hb hSM | replace hSM := below_get hb (ak hSM)); (replace kk := bcl (by first | exact kk | exact kk.drew | exact bal kk _ | exact (bal kk _).drew) hb); (replace fF := IsF.of HF.out hQ); (try clear cA0 cA1 cA2 cA3); (obtain ⟨cA0, cA1, cA2, cA3⟩ := row4c hA); (try clear cO0 cO1 cO2 cO3); (obtain ⟨cO0, cO1, cO2, cO3⟩ := row4c hO); (try clear cSM0 cSM1 cSM2 cSM3); (obtain ⟨cSM0, cSM1, cSM2, cSM3⟩ := row4c hSM); (try clear cE10 cE11 cE12 cE13); (obtain ⟨cE10, cE11, cE12, cE13⟩ := row4c hE1); (try clear cE20 cE21 cE22 cE23); (obtain ⟨cE20, cE21, cE22, cE23⟩ := row4c hE2); clear hb) | (go_at_call 25; with_reducible refine (powG_any (W4.mk' hla.out) (W4.small (x := (j : Int)) (n := j) rfl hcl.out) _ (show IsF _ (g) (u) from (by first | exact fF | exact fFd | exact ⟨fF.blk, fF.odd, fF.three, fF.lt⟩ | exact ⟨ak fF.blk, fF.odd, fF.three, fF.lt⟩ | exact ⟨ak (ak fF.blk), fF.odd, fF.three, fF.lt⟩))).mono ?_; rintro e W ⟨rfl, hb⟩; (first | replace hM := below_get hb hM | replace hM := below_get hb (ak hM)); (first | replace hA := below_get hb hA | replace hA := below_get hb (ak hA)); (first | replace hE1 := below_get hb hE1 | replace hE1 := below_get hb (ak hE1)); (first | replace hE2 := below_get hb hE2 | replace hE2 := below_get hb (ak hE2)); (first | replace hO := below_get hb hO | replace hO := below_get hb (ak hO)); (first | replace hQ := below_get hb hQ | replace hQ := below_get hb (ak hQ)); (first | replace hSM := below_get hb hSM | replace hSM := below_get hb (ak hSM)); (replace kk := bcl (by first | exact kk | exact kk.drew | exact bal kk _ | exact (bal kk _).drew) hb); (replace fF := IsF.of HF.out hQ); (try clear cA0 cA1 cA2 cA3); (obtain ⟨cA0, cA1, cA2, cA3⟩ := row4c hA); (try clear cO0 cO1 cO2 cO3); (obtain ⟨cO0, cO1, cO2, cO3⟩ := row4c hO); (try clear cSM0 cSM1 cSM2 cSM3); (obtain ⟨cSM0, cSM1, cSM2, cSM3⟩ := row4c hSM); (try clear cE10 cE11 cE12 cE13); (obtain ⟨cE10, cE11, cE12, cE13⟩ := row4c hE1); (try clear cE20 cE21 cE22 cE23); (obtain ⟨cE20, cE21, cE22, cE23⟩ := row4c hE2); clear hb) | (go_at_call 25; with_reducible refine (powG_any (W4.mk' hla.out) (W4.mk' hsl.out) _ (show IsF _ (g) (u) from (by first | exact fF | exact fFd | exact ⟨fF.blk, fF.odd, fF.three, fF.lt⟩ | exact ⟨ak fF.blk, fF.odd, fF.three, fF.lt⟩ | exact ⟨ak (ak fF.blk), fF.odd, fF.three, fF.lt⟩))).mono ?_; rintro e W ⟨rfl, hb⟩; (first | replace hM := below_get hb hM | replace hM := below_get hb (ak hM)); (first | replace hA := below_get hb hA | replace hA := below_get hb (ak hA)); (first | replace hE1 := below_get hb hE1 | replace hE1 := below_get hb (ak hE1)); (first | replace hE2 := below_get hb hE2 | replace hE2 := below_get hb (ak hE2)); (first | replace hO := below_get hb hO | replace hO := below_get hb (ak hO)); (first | replace hQ := below_get hb hQ | replace hQ := below_get hb (ak hQ)); (first | replace hSM := below_get hb hSM | replace hSM := below_get hb (ak hSM)); (replace kk := bcl (by first | exact kk | exact kk.drew | exact bal kk _ | exact (bal kk _).drew) hb); (replace fF := IsF.of HF.out hQ); (try clear cA0 cA1 cA2 cA3); (obtain ⟨cA0, cA1, cA2, cA3⟩ := row4c hA); (try clear cO0 cO1 cO2 cO3); (obtain ⟨cO0, cO1, cO2, cO3⟩ := row4c hO); (try clear cSM0 cSM1 cSM2 cSM3); (obtain ⟨cSM0, cSM1, cSM2, cSM3⟩ := row4c hSM); (try clear cE10 cE11 cE12 cE13); (obtain ⟨cE10, cE11, cE12, cE13⟩ := row4c hE1); (try clear cE20 cE21 cE22 cE23); (obtain ⟨cE20, cE21, cE22, cE23⟩ := row4c hE2); clear hb) | (go_at_call 25; with_reducible refine (powG_any (W4.mk' hla.out) (W4.mk' h4p.out) _ (show IsF _ (g) (u) from (by first | exact fF | exact fFd | exact ⟨fF.blk, fF.odd, fF.three, fF.lt⟩ | exact ⟨ak fF.blk, fF.odd, fF.three, fF.lt⟩ | exact ⟨ak (ak fF.blk), fF.odd, fF.three, fF.lt⟩))).mono ?_; rintro e W ⟨rfl, hb⟩; (first | replace hM := below_get hb hM | replace hM := below_get hb (ak hM)); (first | replace hA := below_get hb hA | replace hA := below_get hb (ak hA)); (first | replace hE1 := below_get hb hE1 | replace hE1 := below_get hb (ak hE1)); (first | replace hE2 := below_get hb hE2 | replace hE2 := below_get hb (ak hE2)); (first | replace hO := below_get hb hO | replace hO := below_get hb (ak hO)); (first | replace hQ := below_get hb hQ | replace hQ := below_get hb (ak hQ)); (first | replace hSM := below_get hb hSM | replace hSM := below_get hb (ak hSM)); (replace kk := bcl (by first | exact kk | exact kk.drew | exact bal kk _ | exact (bal kk _).drew) hb); (replace fF := IsF.of HF.out hQ); (try clear cA0 cA1 cA2 cA3); (obtain ⟨cA0, cA1, cA2, cA3⟩ := row4c hA); (try clear cO0 cO1 cO2 cO3); (obtain ⟨cO0, cO1, cO2, cO3⟩ := row4c hO); (try clear cSM0 cSM1 cSM2 cSM3); (obtain ⟨cSM0, cSM1, cSM2, cSM3⟩ := row4c hSM); (try clear cE10 cE11 cE12 cE13); (obtain ⟨cE10, cE11, cE12, cE13⟩ := row4c hE1); (try clear cE20 cE21 cE22 cE23); (obtain ⟨cE20, cE21, cE22, cE23⟩ := row4c hE2); clear hb) | (go_at_call 25; with_reducible refine (powG_any (W4.mk' hla.out) (W4.mk' h4q.out) _ (show IsF _ (g) (u) from (by first | exact fF | exact fFd | exact ⟨fF.blk, fF.odd, fF.three, fF.lt⟩ | exact ⟨ak fF.blk, fF.odd, fF.three, fF.lt⟩ | exact ⟨ak (ak fF.blk), fF.odd, fF.three, fF.lt⟩))).mono ?_; rintro e W ⟨rfl, hb⟩; (first | replace hM := below_get hb hM | replace hM := below_get hb (ak hM)); (first | replace hA := below_get hb hA | replace hA := below_get hb (ak hA)); (first | replace hE1 := below_get hb hE1 | replace hE1 := below_get hb (ak hE1)); (first | replace hE2 := below_get hb hE2 | replace hE2 := below_get hb (ak hE2)); (first | replace hO := below_get hb hO | replace hO := below_get hb (ak hO)); (first | replace hQ := below_get hb hQ | replace hQ := below_get hb (ak hQ)); (first | replace hSM := below_get hb hSM | replace hSM := below_get hb (ak hSM)); (replace kk := bcl (by first | exact kk | exact kk.drew | exact bal kk _ | exact (bal kk _).drew) hb); (replace fF := IsF.of HF.out hQ); (try clear cA0 cA1 cA2 cA3); (obtain ⟨cA0, cA1, cA2, cA3⟩ := row4c hA); (try clear cO0 cO1 cO2 cO3); (obtain ⟨cO0, cO1, cO2, cO3⟩ := row4c hO); (try clear cSM0 cSM1 cSM2 cSM3); (obtain ⟨cSM0, cSM1, cSM2, cSM3⟩ := row4c hSM); (try clear cE10 cE11 cE12 cE13); (obtain ⟨cE10, cE11, cE12, cE13⟩ := row4c hE1); (try clear cE20 cE21 cE22 cE23); (obtain ⟨cE20, cE21, cE22, cE23⟩ := row4c hE2); clear hb) | (go_at_call 26; with_reducible refine (mulG_any (W4.mk' G1.out) (W4.mk' G2.out) _ (show IsF _ (g) (u) from (by first | exact fF | exact fFd | exact ⟨fF.blk, fF.odd, fF.three, fF.lt⟩ | exact ⟨ak fF.blk, fF.odd, fF.three, fF.lt⟩ | exact ⟨ak (ak fF.blk), fF.odd, fF.three, fF.lt⟩))).mono ?_; rintro e W ⟨rfl, hb⟩; (first | replace hM := below_get hb hM | replace hM := below_get hb (ak hM)); (first | replace hA := below_get hb hA | replace hA := below_get hb (ak hA)); (first | replace hE1 := below_get hb hE1 | replace hE1 := below_get hb (ak hE1)); (first | replace hE2 := below_get hb hE2 | replace hE2 := below_get hb (ak hE2)); (first | replace hO := below_get hb hO | replace hO := below_get hb (ak hO)); (first | replace hQ := below_get hb hQ | replace hQ := below_get hb (ak hQ)); (first | replace hSM := below_get hb hSM | replace hSM := below_get hb (ak hSM)); (replace kk := bcl (by first | exact kk | exact kk.drew | exact bal kk _ | exact (bal kk _).drew) hb); (replace fF := IsF.of HF.out hQ); (try clear cA0 cA1 cA2 cA3); (obtain ⟨cA0, cA1, cA2, cA3⟩ := row4c hA); (try clear cO0 cO1 cO2 cO3); (obtain ⟨cO0, cO1, cO2, cO3⟩ := row4c hO); (try clear cSM0 cSM1 cSM2 cSM3); (obtain ⟨cSM0, cSM1, cSM2, cSM3⟩ := row4c hSM); (try clear cE10 cE11 cE12 cE13); (obtain ⟨cE10, cE11, cE12, cE13⟩ := row4c hE1); (try clear cE20 cE21 cE22 cE23); (obtain ⟨cE20, cE21, cE22, cE23⟩ := row4c hE2); clear hb))
        go_simp
        go_wp2_with fail
        refine bodyPost_ret (v := _) (by simp [results, Try.results3, go_sem]; rfl) rfl ?_
        exact ⟨rfl, kk⟩
end Go.Proofs.Ytgghopmlcpcpkaa.PResiduePowers
namespace Go.Proofs.Ytgghopmlcpcpkaa
open Go.ChangeShapes Go.WideShapes Go.ChangeAt Go.RowKit PlainK
set_option linter.unusedVariables false
set_option linter.unusedSimpArgs false
set_option maxHeartbeats 1000000 in
set_option maxRecDepth 100000 in
theorem residuePowers_lifted (os : Os) (started : os.Started) (H : Type) (enc : TypeId × Value → H) :
    ReturnsInHanded {} Try.checked os 3 .any (Rows.residuePowersSpec.pre6 enc Try.prog Try.f3 Rows.residuePowersRow.domain false) (Rows.residuePowersSpec.post enc Try.prog Try.f3 false true false false) := by
  refine returnsInHanded_of_change (C := Try.checked) Try.own started (by kernel_rfl) Try.func3
    (ChangeSpec.witness6 (enc := enc) (C := Try.checked) false ⟨#[], #[.agg #[.int .u64 0, .int .u64 0, .int .u64 0, .int .u64 0], .agg #[.int .u64 0, .int .u64 0, .int .u64 0, .int .u64 0], .int .u8 0, .agg #[.int .u64 0, .int .u64 0, .int .u64 0, .int .u64 0], .agg #[.int .u64 0, .int .u64 0, .int .u64 0, .int .u64 0]], []⟩ 8 (by kernel_rfl) (by kernel_rfl) (by kernel_rfl) (by kernel_rfl)) ?_
  intro W base args ds gs before hval0 hW hcnd _
  have hval : ∀ (j : Nat) t v, Try.f3.params[j]? = some t → args[j]? = some v → Value.okWide Try.prog W .any base t v := hval0
  have hW' := hW
  obtain ⟨p, q, hA0, hV, rfl, hfz, hnd⟩ := hW
  have hA : DataW.TrodAll enc Try.prog W 0 (fun _ => true) true Try.f3.params.toList args.toList ds p := hA0
  rw [Try.params3] at hA hval
  obtain ⟨v0, vs0, d0, ds0, p0, q0, hargs, rfl, rfl, h0, r0⟩ := trodAll_cons hA
  obtain ⟨v1, vs1, d1, ds1, p1, q1, rfl, rfl, rfl, h1, r1⟩ := trodAll_cons r0
  obtain ⟨v2, vs2, d2, ds2, p2, q2, rfl, rfl, rfl, h2, r2⟩ := trodAll_cons r1
  obtain ⟨v3, vs3, d3, ds3, p3, q3, rfl, rfl, rfl, h3, r3⟩ := trodAll_cons r2
  obtain ⟨v4, vs4, d4, ds4, p4, q4, rfl, rfl, rfl, h4, r4⟩ := trodAll_cons r3
  obtain ⟨rfl, rfl, rfl⟩ := trodAll_nil r4
  obtain rfl : args = #[v0, v1, v2, v3, v4] := by cases args; simp_all
  obtain ⟨rfl, rfl⟩ := trodVars_none hV
  obtain ⟨x00, x01, x02, x03, rfl, rfl, rfl, y00, y01, y02, y03⟩ := open_arr4 (hval 0 24 v0 rfl rfl) h0
  obtain ⟨n0, hn0⟩ := W4.of_wf y00 y01 y02 y03
  obtain ⟨x10, x11, x12, x13, rfl, rfl, rfl, y10, y11, y12, y13⟩ := open_arr4 (hval 1 24 v1 rfl rfl) h1
  obtain ⟨n1, hn1⟩ := W4.of_wf y10 y11 y12 y13
  obtain ⟨x2, rfl, rfl, rfl, y2⟩ := open_int Try.underlying5 (hval 2 5 v2 rfl rfl) h2
  obtain ⟨x30, x31, x32, x33, rfl, rfl, rfl, y30, y31, y32, y33⟩ := open_arr4 (hval 3 24 v3 rfl rfl) h3
  obtain ⟨n3, hn3⟩ := W4.of_wf y30 y31 y32 y33
  obtain ⟨x40, x41, x42, x43, rfl, rfl, rfl, y40, y41, y42, y43⟩ := open_arr4 (hval 4 24 v4 rfl rfl) h4
  obtain ⟨n4, hn4⟩ := W4.of_wf y40 y41 y42 y43
  clear hA0 hval0
  simp only [List.append_nil] at hW'
  refine (PResiduePowers.pows_any hn0 hn1 y2 hn3 hn4 W).mono fun e W' ⟨he, hg⟩ => ?_
  subst he
  exact ⟨_, rfl, post_law (pa := []) (pv := []) hW' (fun _ _ _ => (trodAll_cons_mk (shut_bool Try.underlying4 _) trodAll_mk0)) (fun sp _ => (trodAll_cons_mk (shut_arr4 y00 y01 y02 y03) (trodAll_cons_mk (shut_arr4 y10 y11 y12 y13) (trodAll_cons_mk (shut_int Try.underlying5 y2) (trodAll_cons_mk (shut_arr4 y30 y31 y32 y33) (trodAll_cons_mk (shut_arr4 y40 y41 y42 y43) trodAll_mk0)))))) (fun _ _ => rfl) rfl (hg.frame _)⟩

theorem residuePowers_proved : Rows.ResiduePowersSaid :=
  OpenClaim.holds_of_wide 3 Try.f3 rfl rfl rfl rfl rfl rfl rfl ⟨rfl, rfl, rfl, rfl, rfl⟩ rfl rfl rfl rfl rfl (by kernel_rfl) Try.func3 (by kernel_rfl)
    (of_decide_eq_true (by kernel_rfl)) (by unfold Func.isWrapper; first | (rw [if_pos (by decide +kernel)]; kernel_rfl) | (rw [if_neg (by decide +kernel)]; exact ⟨rfl, rfl⟩))
    (fun os started H enc _ => residuePowers_lifted os started H enc)
#print axioms residuePowers_proved
end Go.Proofs.Ytgghopmlcpcpkaa
