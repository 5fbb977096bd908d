/- The walk of the law on a point's bytes. -/
import Derived.Test.YtgghopmlcpcpkaaBitM
import Derived.Test.YtgghopmlcpcpkaaHeldT
import Derived.Test.YtgghopmlcpcpkaaRowLib
import Derived.Test.YtgghopmlcpcpkaaHeldV
import Derived.Test.YtgghopmlcpcpkaaPtM
import Derived.Deep.AppendLies
import Derived.Test.YtgghopmlcpcpkaaSomeM
import Derived.StillTailTactics
namespace Go.Proofs.Ytgghopmlcpcpkaa
open Go.RowKit PlainK
set_option linter.unusedVariables false
set_option linter.unusedSimpArgs false
/-! rows of 32 bytes, by their function -/
theorem putRow {W : World} {g : Nat} {old cs : Array Value} {t : TypeId} (hg : W.heap[g]? = some (.cells old t (0, 0))) : Put W (W.setRow g cs) g (.cells cs t (0, 0)) :=
  ⟨setRow_heap W g old cs t _ hg, fun k hk => setRow_other W g k cs hk, setRow_size W g cs,
   fun hB h => h.trans ⟨rfl, rfl, rfl, by rw [setRow_size]; exact Nat.le_refl _, fun k hk => setRow_other W g k cs (by omega)⟩⟩
def bC (x : Nat) : Value := .int .u8 (x : Nat)
def bA (f : Nat → Nat) : Array Value := ((List.range 32).map fun i => bC (f i)).toArray
theorem bA_size (f : Nat → Nat) : (bA f).size = 32 := by simp [bA]
theorem bA_get (f : Nat → Nat) {i : Nat} (hi : i < 32) : (bA f)[i]? = some (bC (f i)) := by simp [bA, hi]
theorem bA_none (f : Nat → Nat) {i : Nat} (hi : ¬ i < 32) : (bA f)[i]? = none := by simp [bA]; omega
theorem bA_one (f : Nat → Nat) : (bA f).all (·.oneCell') = true := by
  rw [Array.all_eq_true_iff_forall_mem]
  intro v hv
  simp [bA] at hv
  obtain ⟨i, _, rfl⟩ := hv
  rfl
theorem bA_ext {f g : Nat → Nat} (h : ∀ i, i < 32 → f i = g i) : bA f = bA g := by
  apply Array.ext_getElem?
  intro i
  by_cases hi : i < 32
  · rw [bA_get f hi, bA_get g hi, h i hi]
  · rw [bA_none f hi, bA_none g hi]
theorem bA_set {f g : Nat → Nat} {k x : Nat} (hk : k < 32) (hx : g k = x) (h : ∀ i, i < 32 → i ≠ k → f i = g i) : (bA f).setIfInBounds k (bC x) = bA g := by
  apply Array.ext_getElem?
  intro i
  rw [Array.getElem?_setIfInBounds]
  by_cases hi : i < 32
  · by_cases e : k = i
    · subst e
      rw [if_pos rfl, if_pos (by rw [bA_size]; exact hk), bA_get g hi, hx]
    · rw [if_neg e, bA_get f hi, bA_get g hi, h i hi (Ne.symm e)]
  · rw [if_neg (by omega), bA_none f hi, bA_none g hi]
theorem bA_zero : (#[.int .u8 0, .int .u8 0, .int .u8 0, .int .u8 0, .int .u8 0, .int .u8 0, .int .u8 0, .int .u8 0, .int .u8 0, .int .u8 0, .int .u8 0, .int .u8 0, .int .u8 0, .int .u8 0, .int .u8 0, .int .u8 0, .int .u8 0, .int .u8 0, .int .u8 0, .int .u8 0, .int .u8 0, .int .u8 0, .int .u8 0, .int .u8 0, .int .u8 0, .int .u8 0, .int .u8 0, .int .u8 0, .int .u8 0, .int .u8 0, .int .u8 0, .int .u8 0] : Array Value) = bA (fun _ => 0) := by kernel_rfl
theorem row_cell {V : World} {b : Nat} {f : Nat → Nat} {t : TypeId} (h : V.heap[b]? = some (.cells (bA f) t (0, 0))) {i : Nat} (hi : i < 32) : V.cell? ⟨b, i, none⟩ = some (.int .u8 (f i : Nat)) := by
  rw [cell_of_row _ _ _ _ _ _ h]; exact bA_get f hi
theorem row_free {V : World} {b : Nat} {f : Nat → Nat} {t : TypeId} (h : V.heap[b]? = some (.cells (bA f) t (0, 0))) (i : Nat) : V.frozen? ⟨b, i, none⟩ = false := frozen_of_row _ _ i _ _ h
theorem info67 : (Try.prog.info? 67).map (·.size) = some 32 := by kernel_rfl
theorem bA_info (f : Nat → Nat) : (Try.prog.info? 67).map (·.size) = some (bA f).size := by rw [bA_size]; exact info67
section
variable {ops : Array Oper} {rest : List Oper} {o : Oper} {a : Act} {w : World} {Q : Exit → Act → World → Prop} {K : Act → World → Prop}
/-- a whole row of 32 bytes is read -/
theorem ld67 {x : Operand} (ho : o.op = .load 67 x) {g : Nat} (hx : a.eval x = .pointer (some ⟨g, 0, none⟩)) {f : Nat → Nat} {t : TypeId} (hg : w.heap[g]? = some (.cells (bA f) t (0, 0)))
    (h : K (a.put o.dst (.agg (bA f))) w) : o.wp Try.prog a w K Q := wp_load_row 67 x ho g hx t (bA f) (0, 0) _ hg Try.underlying67 rfl (bA_info f) h
theorem st67 {x y : Operand} (ho : o.op = .store 67 x y) {g : Nat} (hx : a.eval x = .pointer (some ⟨g, 0, none⟩)) {f f0 : Nat → Nat} (hy : a.eval y = .agg (bA f)) {t : TypeId} (hg : w.heap[g]? = some (.cells (bA f0) t (0, 0)))
    (h : K (a.put o.dst undef) (w.setRow g (bA f))) : o.wp Try.prog a w K Q := wp_store_row 67 x y ho g (bA f) hx hy t (bA f0) hg (bA_info f) (by rw [bA_size, bA_size]) (bA_one f) h
theorem ld67l (hgd : o.guard = none) {x : Operand} (ho : o.op = .load 67 x) {g : Nat} (hx : a.eval x = .pointer (some ⟨g, 0, none⟩)) {f : Nat → Nat} {t : TypeId} (hg : w.heap[g]? = some (.cells (bA f) t (0, 0)))
    (h : wpList Try.prog ops Q rest (a.put o.dst (.agg (bA f))) w) : wpList Try.prog ops Q (o :: rest) a w := wpList_load_row hgd 67 x ho g hx t (bA f) (0, 0) _ hg Try.underlying67 rfl (bA_info f) h
theorem st67l (hgd : o.guard = none) {x y : Operand} (ho : o.op = .store 67 x y) {g : Nat} (hx : a.eval x = .pointer (some ⟨g, 0, none⟩)) {f f0 : Nat → Nat} (hy : a.eval y = .agg (bA f)) {t : TypeId} (hg : w.heap[g]? = some (.cells (bA f0) t (0, 0)))
    (h : wpList Try.prog ops Q rest (a.put o.dst undef) (w.setRow g (bA f))) : wpList Try.prog ops Q (o :: rest) a w := wpList_store_row hgd 67 x y ho g (bA f) hx hy t (bA f0) hg (bA_info f) (by rw [bA_size, bA_size]) (bA_one f) h
end
/-! the bytes of a number -/
def byt (n i : Nat) : Nat := n / 2 ^ (8 * i) % 256
theorem mod_div_mod (m s : Nat) (h : s + 8 ≤ 64) : m % 2 ^ 64 / 2 ^ s % 2 ^ 8 = m / 2 ^ s % 2 ^ 8 := by
  apply Nat.eq_of_testBit_eq
  intro i
  simp only [Nat.testBit_mod_two_pow, Nat.testBit_div_two_pow]
  by_cases hi : i < 8
  · have : s + i < 64 := by omega
    simp [hi, this, Nat.add_comm i s]
  · simp [hi]
theorem wAt_mod {a i : Nat} (hi : i < 4) : wAt a i = a / 2 ^ (64 * i) % 2 ^ 64 := by
  have : i = 0 ∨ i = 1 ∨ i = 2 ∨ i = 3 := by omega
  rcases this with rfl | rfl | rfl | rfl
  · show w0 a = _; unfold w0; rw [Nat.mul_zero, Nat.pow_zero, Nat.div_one]
  · rfl
  · rfl
  · rfl
theorem byt_word {n k : Nat} (hk : k < 32) : wAt n (k / 8) / 2 ^ (8 * (k % 8)) % 256 = byt n k := by
  rw [wAt_mod (by omega), show (256 : Nat) = 2 ^ 8 from rfl, mod_div_mod _ _ (by omega), Nat.div_div_eq_div_mul, ← Nat.pow_add, show 64 * (k / 8) + 8 * (k % 8) = 8 * k by omega]
  rfl
theorem byt_lt (n k : Nat) : byt n k < 256 := Nat.mod_lt _ (by decide)
theorem byt_int {n k : Nat} (hk : k < 32) : ((wAt n (k / 8) : Nat) / 2 ^ (8 * (k % 8)) % 256 : Int) = ((byt n k : Nat) : Int) := by
  rw [← byt_word hk, Int.natCast_emod, Int.natCast_ediv, Int.natCast_pow]; rfl
end Go.Proofs.Ytgghopmlcpcpkaa
namespace Go.Proofs.Ytgghopmlcpcpkaa
open Go.RowKit PlainK
set_option linter.unusedVariables false
set_option linter.unusedSimpArgs false
set_option maxRecDepth 10000 in
set_option maxHeartbeats 8000000 in
theorem bytes_any {a0 a1 a2 a3 : Int} {n : Nat} (ha : W4 a0 a1 a2 a3 n) (w : World) :
   Calls Try.prog 47 #[.agg #[.int .u64 a0, .int .u64 a1, .int .u64 a2, .int .u64 a3]] w fun e w' => e = .returned (.agg (bA (byt n))) ∧ Below w.heap.size w w' := by
  obtain ⟨rfl, rfl, rfl, rfl, la⟩ := ha
  have hla := Lib.hid la
  clear la
  go_enter Try.func47, Try.ntmps47
  go_upto_region 2 with fail
  obtain ⟨V0, hW⟩ : ∃ V, ((w.alloc (.cells #[.int .u64 (w0 (n) : Nat), .int .u64 (w1 (n) : Nat), .int .u64 (w2 (n) : Nat), .int .u64 (w3 (n) : Nat)] 24)).alloc (.cells #[.int .u8 0, .int .u8 0, .int .u8 0, .int .u8 0, .int .u8 0, .int .u8 0, .int .u8 0, .int .u8 0, .int .u8 0, .int .u8 0, .int .u8 0, .int .u8 0, .int .u8 0, .int .u8 0, .int .u8 0, .int .u8 0, .int .u8 0, .int .u8 0, .int .u8 0, .int .u8 0, .int .u8 0, .int .u8 0, .int .u8 0, .int .u8 0, .int .u8 0, .int .u8 0, .int .u8 0, .int .u8 0, .int .u8 0, .int .u8 0, .int .u8 0, .int .u8 0] 67)).alloc (.cells #[.int .u8 0, .int .u8 0, .int .u8 0, .int .u8 0, .int .u8 0, .int .u8 0, .int .u8 0, .int .u8 0, .int .u8 0, .int .u8 0, .int .u8 0, .int .u8 0, .int .u8 0, .int .u8 0, .int .u8 0, .int .u8 0, .int .u8 0, .int .u8 0, .int .u8 0, .int .u8 0, .int .u8 0, .int .u8 0, .int .u8 0, .int .u8 0, .int .u8 0, .int .u8 0, .int .u8 0, .int .u8 0, .int .u8 0, .int .u8 0, .int .u8 0, .int .u8 0] 67) = V := ⟨_, rfl⟩
  rw [hW]
  have hA : V0.heap[w.heap.size]? = some (.cells #[.int .u64 (w0 (n) : Nat), .int .u64 (w1 (n) : Nat), .int .u64 (w2 (n) : Nat), .int .u64 (w3 (n) : Nat)] 24 (0, 0)) := by
    rw [← hW]; simp only [alloc_at, World.size_alloc]; repeat (first | rw [if_pos trivial] | rw [if_pos (by omega)] | rw [if_neg (by omega)])
  have hR : V0.heap[w.heap.size + 1]? = some (.cells #[.int .u8 0, .int .u8 0, .int .u8 0, .int .u8 0, .int .u8 0, .int .u8 0, .int .u8 0, .int .u8 0, .int .u8 0, .int .u8 0, .int .u8 0, .int .u8 0, .int .u8 0, .int .u8 0, .int .u8 0, .int .u8 0, .int .u8 0, .int .u8 0, .int .u8 0, .int .u8 0, .int .u8 0, .int .u8 0, .int .u8 0, .int .u8 0, .int .u8 0, .int .u8 0, .int .u8 0, .int .u8 0, .int .u8 0, .int .u8 0, .int .u8 0, .int .u8 0] 67 (0, 0)) := by
    rw [← hW]; simp only [alloc_at, World.size_alloc]; repeat (first | rw [if_pos trivial] | rw [if_pos (by omega)] | rw [if_neg (by omega)])
  have hO : V0.heap[w.heap.size + 2]? = some (.cells #[.int .u8 0, .int .u8 0, .int .u8 0, .int .u8 0, .int .u8 0, .int .u8 0, .int .u8 0, .int .u8 0, .int .u8 0, .int .u8 0, .int .u8 0, .int .u8 0, .int .u8 0, .int .u8 0, .int .u8 0, .int .u8 0, .int .u8 0, .int .u8 0, .int .u8 0, .int .u8 0, .int .u8 0, .int .u8 0, .int .u8 0, .int .u8 0, .int .u8 0, .int .u8 0, .int .u8 0, .int .u8 0, .int .u8 0, .int .u8 0, .int .u8 0, .int .u8 0] 67 (0, 0)) := by
    rw [← hW]; simp only [alloc_at, World.size_alloc]; repeat (first | rw [if_pos trivial] | rw [if_pos (by omega)] | rw [if_neg (by omega)])
  have kk : Below w.heap.size w V0 := by
    rw [← hW]
    repeat (first | exact Below.refl _ _ | refine Below.drew ?_ | refine bal ?_ _)
  clear hW
  rw [bA_zero] at hR hO
  go_wp2_with fail
  go_loopw [5] (fun i wr => ∃ (k : Nat), k ≤ 32 ∧ i = .int .i64 (k : Int) ∧ wr.heap[w.heap.size]? = some (.cells #[.int .u64 (w0 (n) : Nat), .int .u64 (w1 (n) : Nat), .int .u64 (w2 (n) : Nat), .int .u64 (w3 (n) : Nat)] 24 (0, 0)) ∧ wr.heap[w.heap.size + 1]? = some (.cells (bA fun _ => 0) 67 (0, 0)) ∧ wr.heap[w.heap.size + 2]? = some (.cells (bA fun j => if j < k then byt n j else 0) 67 (0, 0)) ∧ Below w.heap.size w wr) (fun i wr => (32 - intOf i).toNat)
  case atStart => exact ⟨0, by omega, rfl, hA, hR, by rw [hO, bA_ext (g := fun j => if j < 0 then byt n j else 0) (fun i _ => by simp)], kk⟩
  case round =>
    clear hA hR hO kk
    obtain ⟨k, hk, rfl, hA, hR, hO, kk⟩ := hrel
    by_cases hk2 : k < 32
    · have k1 : (k : Int) < 32 := by omega
      have cb := wAt_cell hA (show k / 8 < 4 by omega)
      have t1 : IntKind.i64.wrap ((k : Int).tdiv 8) = ((k / 8 : Nat) : Int) := by rw [show (k : Int).tdiv 8 = ((k / 8 : Nat) : Int) from by rw [Int.tdiv_eq_ediv_of_nonneg (by omega)]; omega]; exact IntWalk.i64_in _ (by omega)
      have t2 : (k : Int).tmod 8 = ((k % 8 : Nat) : Int) := by rw [Int.tmod_eq_emod_of_nonneg (by omega)]; omega
      have co := row_cell (b := w.heap.size + 1 + 1) hO hk2
      have zo := row_free (b := w.heap.size + 1 + 1) hO k
      go_wp2_with fail
      rw [byt_int hk2]
      have P := put1 (i := k) (.int .u8 (byt n k : Nat)) hO
      rw [show (.int .u8 (byt n k : Nat) : Value) = bC (byt n k) from rfl, bA_set (g := fun j => if j < k + 1 then byt n j else 0) hk2 (if_pos (by omega)) (fun i _ hi => by by_cases h : i < k; · rw [if_pos h, if_pos (by omega)]
                                                                                                                                                                             · rw [if_neg h, if_neg (by omega)])] at P
      refine ⟨⟨k + 1, by omega, congrArg (Value.int .i64) (by omega), (P.there _ (by omega)).trans hA, (P.there _ (by omega)).trans hR, P.here, P.below (by omega) kk⟩, ?_⟩
      simp only [intOf]; omega
    · have k1 : ¬ (k : Int) < 32 := by omega
      obtain rfl : k = 32 := by omega
      replace hO : wr.heap[w.heap.size + 2]? = some (.cells (bA (byt n)) 67 (0, 0)) := by
        rw [hO, bA_ext (g := byt n) (fun i hi => if_pos hi)]
      go_upto_region 7 with fail
      refine wp_region_list ?_
      refine ld67l rfl rfl (g := w.heap.size + 1 + 1) rfl hO ?_
      refine st67l rfl rfl (g := w.heap.size + 1) rfl rfl hR ?_
      have P := putRow (cs := bA (byt n)) hR
      obtain ⟨V9, hV9⟩ : ∃ V, wr.setRow (w.heap.size + 1) (bA (byt n)) = V := ⟨_, rfl⟩
      rw [hV9] at P ⊢
      have k9 := P.below (by omega) kk
      have P9 := P.here
      go_wp2_with fail
      exact bodyPost_ret (v := _) (results_cell_row (fn := Try.f47) (p := 2) (ty := 67) rfl _ _ (w.heap.size + 1) 67 _ (0, 0) _ rfl P9 Try.underlying67 rfl (bA_info _)) rfl ⟨rfl, k9⟩
end Go.Proofs.Ytgghopmlcpcpkaa
namespace Go.Proofs.Ytgghopmlcpcpkaa
open Go.RowKit PlainK
set_option linter.unusedVariables false
set_option linter.unusedSimpArgs false
/-- the first k and the last k are turned about -/
def turn (f : Nat → Nat) (k x : Nat) : Nat := if x < k ∨ 31 - k < x then f (31 - x) else f x
set_option maxRecDepth 10000 in
set_option maxHeartbeats 8000000 in
theorem reverse_any {b cap : Nat} {f : Nat → Nat} {t : TypeId} (w : World) (hH : w.heap[b]? = some (.cells (bA f) t (0, 0))) :
   Calls Try.prog 79 #[.slice (some ⟨b, 0, none⟩) 32 cap] w fun e w' => e = .returned (.tuple #[]) ∧ Put w w' b (.cells (bA fun x => f (31 - x)) t (0, 0)) := by
  have h0 := Lib.hid hH
  clear hH
  go_enter Try.func79, Try.ntmps79
  go_wp2_with fail
  go_loopw [2, 3] (fun i j wr => ∃ (k : Nat), k ≤ 16 ∧ i = .int .i64 (k : Int) ∧ j = .int .i64 (31 - (k : Int)) ∧ Put w wr b (.cells (bA (turn f k)) t (0, 0))) (fun i j wr => (16 - intOf i).toNat)
  case atStart =>
    refine ⟨0, by omega, rfl, rfl, ?_, fun _ _ => rfl, rfl, fun _ k => k⟩
    rw [h0.out, bA_ext (g := turn f 0) (fun i hi => by unfold turn; rw [if_neg (by omega)])]
  case round =>
    obtain ⟨k, hk, rfl, rfl, P0⟩ := hrel
    have hP0 := Lib.hid P0
    have hB0 := P0.here
    clear P0
    by_cases hk2 : k < 16
    · have k1 : (k : Int) < 31 - (k : Int) := by omega
      have hk32 : k < 32 := by omega
      have hj32 : 31 - k < 32 := by omega
      have k2 : (31 - (k : Int)).toNat = 31 - k := by omega
      have k3 : (31 - (k : Int)) < 32 := by omega
      have k4 : (0 : Int) ≤ 31 - (k : Int) := by omega
      have k5 : (k : Int) < 32 := by omega
      have k8 : (k : Int) ≤ 31 := by omega
      have k6 : IntKind.i64.wrap (31 - (k : Int) - 1) = 31 - (k : Int) - 1 := IntWalk.i64_in _ (by omega)
      have k7 : IntKind.i64.wrap ((k : Int) + 1) = (k : Int) + 1 := IntWalk.i64_in _ (by omega)
      obtain ⟨F, hF⟩ : ∃ F, turn f k = F := ⟨_, rfl⟩
      rw [hF] at hB0
      have HF := Lib.hid hF
      clear hF
      go_upto_region 3 with fail
      obtain ⟨S0, hS0⟩ : ∃ S : World → Prop, S = (fun w' => w'.heap[b]? = some (.cells (bA F) t (0, 0))) := ⟨_, rfl⟩
      refine startT (S := S0) 13 (by kernel_rfl) (by rw [hS0]; exact hB0) (fun hHeld => ?_)
      refine takeT (i := 0) (d := some 14) (v := ?_) _ rfl rfl (by rfl) (by kernel_rfl) (by decide) (by kernel_rfl) (by kernel_rfl) (by kernel_rfl) (fun _ _ _ h => h) (by assumption) (by kernel_rfl) ?_ ?_
      rotate_left
      · (first | (intro w' hSw; clear hSw; go_simp; try (with_reducible rfl)) | (intro w'; go_simp; try (with_reducible rfl)))
      try simp only [Act.put, List.setIfInBounds_toArray, List.set_cons_zero, List.set_cons_succ]
      refine takeT (i := 1) (d := some 15) (v := ?_) _ rfl rfl (by rfl) (by kernel_rfl) (by decide) (by kernel_rfl) (by kernel_rfl) (by kernel_rfl) (fun _ _ _ h => h) (by assumption) (by kernel_rfl) ?_ ?_
      rotate_left
      · (first | (intro w' hSw; clear hSw; go_simp; try (with_reducible rfl)) | (intro w'; go_simp; try (with_reducible rfl)))
      try simp only [Act.put, List.setIfInBounds_toArray, List.set_cons_zero, List.set_cons_succ]
      refine takeW (i := 2) (d := some 16) (v := ?_) _ rfl rfl (by rfl) (by kernel_rfl) (by decide) (by kernel_rfl) (by kernel_rfl) (fun _ _ _ h => h) (by assumption) (by kernel_rfl) ?_ ?_
      rotate_left
      · (first | (intro w' hSw; clear hSw; go_simp; try (with_reducible rfl)) | (intro w'; go_simp; try (with_reducible rfl)))
      try simp only [Act.put, List.setIfInBounds_toArray, List.set_cons_zero, List.set_cons_succ]
      refine takeW (i := 3) (d := some 17) (v := ?_) _ rfl rfl (by rfl) (by kernel_rfl) (by decide) (by kernel_rfl) (by kernel_rfl) (fun _ _ _ h => h) (by assumption) (by kernel_rfl) ?_ ?_
      rotate_left
      · (first | (intro w' hSw; clear hSw; go_simp; try (with_reducible rfl)) | (intro w'; go_simp; try (with_reducible rfl)))
      try simp only [Act.put, List.setIfInBounds_toArray, List.set_cons_zero, List.set_cons_succ]
      refine takeT (i := 4) (d := some 18) (v := ?_) _ rfl rfl (by rfl) (by kernel_rfl) (by decide) (by kernel_rfl) (by kernel_rfl) (by kernel_rfl) (fun _ _ _ h => h) (by assumption) (by kernel_rfl) ?_ ?_
      rotate_left
      · (first | (intro w' hSw; clear hSw; go_simp; try (with_reducible rfl)) | (intro w'; go_simp; try (with_reducible rfl)))
      try simp only [Act.put, List.setIfInBounds_toArray, List.set_cons_zero, List.set_cons_succ]
      refine takeT (i := 5) (d := some 19) (v := ?_) _ rfl rfl (by rfl) (by kernel_rfl) (by decide) (by kernel_rfl) (by kernel_rfl) (by kernel_rfl) (fun _ _ _ h => h) (by assumption) (by kernel_rfl) ?_ ?_
      rotate_left
      · (first | (intro w' hSw; clear hSw; go_simp; try (with_reducible rfl)) | (intro w'; go_simp; try (with_reducible rfl)))
      try simp only [Act.put, List.setIfInBounds_toArray, List.set_cons_zero, List.set_cons_succ]
      refine takeT (i := 6) (d := some 20) (v := ?_) _ rfl rfl (by rfl) (by kernel_rfl) (by decide) (by kernel_rfl) (by kernel_rfl) (by kernel_rfl) (fun _ _ _ h => h) (by assumption) (by kernel_rfl) ?_ ?_
      rotate_left
      · (first | (intro w' hSw; clear hSw; go_simp; try (with_reducible rfl)) | (intro w'; go_simp; try (with_reducible rfl)))
      try simp only [Act.put, List.setIfInBounds_toArray, List.set_cons_zero, List.set_cons_succ]
      refine takeT (i := 7) (d := some 21) (v := ?_) _ rfl rfl (by rfl) (by kernel_rfl) (by decide) (by kernel_rfl) (by kernel_rfl) (by kernel_rfl) (fun _ _ _ h => h) (by assumption) (by kernel_rfl) ?_ ?_
      rotate_left
      · (intro w' hSw; rw [hS0] at hSw; have cvi := row_cell hSw hk32; have cvj := row_cell hSw hj32; go_simp; try (with_reducible rfl))
      try simp only [Act.put, List.setIfInBounds_toArray, List.set_cons_zero, List.set_cons_succ]
      refine takeW (i := 8) (d := some 22) (v := ?_) _ rfl rfl (by rfl) (by kernel_rfl) (by decide) (by kernel_rfl) (by kernel_rfl) (fun _ _ _ h => h) (by assumption) (by kernel_rfl) ?_ ?_
      rotate_left
      · (first | (intro w' hSw; clear hSw; go_simp; try (with_reducible rfl)) | (intro w'; go_simp; try (with_reducible rfl)))
      try simp only [Act.put, List.setIfInBounds_toArray, List.set_cons_zero, List.set_cons_succ]
      refine takeW (i := 9) (d := some 23) (v := ?_) _ rfl rfl (by rfl) (by kernel_rfl) (by decide) (by kernel_rfl) (by kernel_rfl) (fun _ _ _ h => h) (by assumption) (by kernel_rfl) ?_ ?_
      rotate_left
      · (first | (intro w' hSw; clear hSw; go_simp; try (with_reducible rfl)) | (intro w'; go_simp; try (with_reducible rfl)))
      try simp only [Act.put, List.setIfInBounds_toArray, List.set_cons_zero, List.set_cons_succ]
      refine takeW (i := 10) (d := some 24) (v := ?_) _ rfl rfl (by rfl) (by kernel_rfl) (by decide) (by kernel_rfl) (by kernel_rfl) (fun _ _ _ h => h) (by assumption) (by kernel_rfl) ?_ ?_
      rotate_left
      · (first | (intro w' hSw; clear hSw; go_simp; try (with_reducible rfl)) | (intro w'; go_simp; try (with_reducible rfl)))
      try simp only [Act.put, List.setIfInBounds_toArray, List.set_cons_zero, List.set_cons_succ]
      refine takeT (i := 11) (d := some 25) (v := ?_) _ rfl rfl (by rfl) (by kernel_rfl) (by decide) (by kernel_rfl) (by kernel_rfl) (by kernel_rfl) (fun _ _ _ h => h) (by assumption) (by kernel_rfl) ?_ ?_
      rotate_left
      · (intro w' hSw; rw [hS0] at hSw; have cvi := row_cell hSw hk32; have cvj := row_cell hSw hj32; go_simp; try (with_reducible rfl))
      try simp only [Act.put, List.setIfInBounds_toArray, List.set_cons_zero, List.set_cons_succ]
      refine callT (i := 12) _ rfl (by rfl) (by kernel_rfl) (fun K hK => ?_)
      go_simp
      refine hK.out _ _ (Or.inr hHeld) ?_
      clear hK K
      try simp only [Act.put, List.setIfInBounds_toArray, List.set_cons_zero, List.set_cons_succ]
      refine callT (i := 13) _ rfl (by rfl) (by kernel_rfl) (fun K hK => ?_)
      have zi := row_free hB0 k
      have cvi := row_cell hB0 hk32
      go_simp
      have P1 := put1 (i := k) (.int .u8 (F (31 - k) : Nat)) hB0
      obtain ⟨V1, hV1⟩ : ∃ V, wr.setCell ⟨b, k, none⟩ (.int .u8 (F (31 - k) : Nat)) = V := ⟨_, rfl⟩
      rw [hV1] at P1 ⊢
      rw [show (.int .u8 (F (31 - k) : Nat) : Value) = bC (F (31 - k)) from rfl, bA_set (g := fun x => if x = k then F (31 - k) else F x) hk32 (if_pos rfl) (fun i _ hi => (if_neg hi).symm)] at P1
      have hB1 := P1.here
      refine hK.out _ _ (Or.inl (by kernel_rfl)) ?_
      clear hK K
      try simp only [Act.put, List.setIfInBounds_toArray, List.set_cons_zero, List.set_cons_succ]
      refine callT (i := 14) _ rfl (by rfl) (by kernel_rfl) (fun K hK => ?_)
      go_simp
      refine hK.out _ _ (Or.inl (by kernel_rfl)) ?_
      clear hK K
      try simp only [Act.put, List.setIfInBounds_toArray, List.set_cons_zero, List.set_cons_succ]
      refine callT (i := 15) _ rfl (by rfl) (by kernel_rfl) (fun K hK => ?_)
      have zj := row_free hB1 (31 - k)
      have cvj := row_cell hB1 hj32
      go_simp
      have P2 := put1 (i := 31 - k) (.int .u8 (F k : Nat)) hB1
      obtain ⟨V2, hV2⟩ : ∃ V, V1.setCell ⟨b, 31 - k, none⟩ (.int .u8 (F k : Nat)) = V := ⟨_, rfl⟩
      rw [hV2] at P2 ⊢
      rw [show (.int .u8 (F k : Nat) : Value) = bC (F k) from rfl, bA_set (g := fun x => if x = k then F (31 - k) else if x = 31 - k then F k else F x) hj32 (by rw [if_neg (by omega), if_pos rfl]) (fun i _ hi => by rw [if_neg hi])] at P2
      refine hK.out _ _ (Or.inl (by kernel_rfl)) ?_
      clear hK K
      try simp only [Act.put, List.setIfInBounds_toArray, List.set_cons_zero, List.set_cons_succ]
      refine doneT (by kernel_rfl) ?_ _
      go_simp
      go_wp2_with fail
      refine ⟨⟨k + 1, by omega, congrArg (Value.int .i64) (by omega), congrArg (Value.int .i64) (by omega), ?_⟩, ?_⟩
      · have P3 := (hP0.out.trans P1).trans P2
        rw [bA_ext (f := fun x => if x = k then F (31 - k) else if x = 31 - k then F k else F x) (g := turn f (k + 1)) (fun i hi => ?_)] at P3
        · exact ⟨P3.here, P3.there, P3.size, fun hB h => by first | exact P3.below hB h | exact (P3.below hB h).drew⟩
        · rw [← HF.out]
          unfold turn
          by_cases e1 : i = k
          · subst e1; rw [if_pos rfl, if_neg (by omega), if_pos (by omega)]
          · rw [if_neg e1]
            by_cases e2 : i = 31 - k
            · subst e2; rw [if_pos rfl, if_neg (by omega), if_pos (by omega), show 31 - (31 - k) = k by omega]
            · rw [if_neg e2]
              by_cases e3 : i < k ∨ 31 - k < i
              · rw [if_pos e3, if_pos (by omega)]
              · rw [if_neg e3, if_neg (by omega)]
      · simp only [intOf]; omega
    · obtain rfl : k = 16 := by omega
      have k1 : ¬ ((16 : Nat) : Int) < 31 - ((16 : Nat) : Int) := by omega
      go_wp2_with fail
      go_end0
      refine ⟨rfl, ?_⟩
      have P3 := hP0.out
      rw [bA_ext (f := turn f 16) (g := fun x => f (31 - x)) (fun i hi => by unfold turn; rw [if_pos (by omega)])] at P3
      exact P3
end Go.Proofs.Ytgghopmlcpcpkaa
namespace Go.Proofs.Ytgghopmlcpcpkaa
open Go.RowKit PlainK
set_option linter.unusedVariables false
set_option linter.unusedSimpArgs false
def leN (f : Nat → Nat) : Nat → Nat
  | 0 => 0
  | k + 1 => leN f k + f k * 2 ^ (8 * k)
theorem leN_lt {f : Nat → Nat} (hf : ∀ i, f i < 256) : ∀ k, leN f k < 2 ^ (8 * k)
  | 0 => by simp [leN]
  | k + 1 => by
    have h1 := leN_lt hf k
    have h2 := hf k
    show leN f k + f k * 2 ^ (8 * k) < 2 ^ (8 * (k + 1))
    rw [show 8 * (k + 1) = 8 * k + 8 by omega, Nat.pow_add]
    have h3 : (f k + 1) * 2 ^ (8 * k) ≤ 256 * 2 ^ (8 * k) := Nat.mul_le_mul_right _ (by omega)
    rw [Nat.add_mul] at h3
    omega
theorem word_keep {a x k i : Nat} (ha : a < 2 ^ (8 * k)) (hx : x < 256) (hi : i < 4) (h : i ≠ k / 8) : wAt (a + x * 2 ^ (8 * k)) i = wAt a i := by
  rw [wAt_mod hi, wAt_mod hi]
  by_cases h1 : i < k / 8
  · obtain ⟨d, hd⟩ : ∃ d, 8 * k = 64 * i + 64 + d := ⟨8 * k - 64 * i - 64, by omega⟩
    rw [hd, Nat.pow_add, Nat.pow_add, show x * (2 ^ (64 * i) * 2 ^ 64 * 2 ^ d) = 2 ^ (64 * i) * (2 ^ 64 * (x * 2 ^ d)) by ac_rfl, Nat.add_mul_div_left _ _ (Nat.two_pow_pos _), Nat.add_mul_mod_self_left]
  · have hp : 2 ^ (8 * k) * 256 ≤ 2 ^ (64 * i) := by
      rw [show (256 : Nat) = 2 ^ 8 from rfl, ← Nat.pow_add]; exact Nat.pow_le_pow_right (by omega) (by omega)
    have h2 : x * 2 ^ (8 * k) ≤ 255 * 2 ^ (8 * k) := Nat.mul_le_mul_right _ (by omega)
    rw [Nat.div_eq_of_lt (by omega), Nat.div_eq_of_lt (by omega)]
theorem word_new' {a x q y : Nat} (ha : a < 2 ^ (64 * q + y)) (hx : x < 256) (hy : y + 8 ≤ 64) : (a + x * 2 ^ (64 * q + y)) / 2 ^ (64 * q) % 2 ^ 64 = a / 2 ^ (64 * q) % 2 ^ 64 ||| x * 2 ^ y := by
  have h1 : a / 2 ^ (64 * q) < 2 ^ y := by
    rw [Nat.div_lt_iff_lt_mul (Nat.two_pow_pos _), ← Nat.pow_add, Nat.add_comm]; exact ha
  have hp : 2 ^ y * 256 ≤ 2 ^ 64 := by
    rw [show (256 : Nat) = 2 ^ 8 from rfl, ← Nat.pow_add]; exact Nat.pow_le_pow_right (by omega) (by omega)
  have h2 : x * 2 ^ y ≤ 255 * 2 ^ y := Nat.mul_le_mul_right _ (by omega)
  have h3 : (a + x * 2 ^ (64 * q + y)) / 2 ^ (64 * q) = a / 2 ^ (64 * q) + x * 2 ^ y := by
    rw [Nat.pow_add, show x * (2 ^ (64 * q) * 2 ^ y) = 2 ^ (64 * q) * (x * 2 ^ y) by ac_rfl, Nat.add_mul_div_left _ _ (Nat.two_pow_pos _)]
  rw [h3]
  generalize a / 2 ^ (64 * q) = b at *
  generalize 2 ^ 64 = M at *
  rw [Nat.mod_eq_of_lt (by omega), Nat.mod_eq_of_lt (by omega), Nat.or_comm, Nat.mul_comm x, ← Nat.two_pow_add_eq_or_of_lt h1, Nat.add_comm]
theorem word_new {a x k : Nat} (ha : a < 2 ^ (8 * k)) (hx : x < 256) (hk : k < 32) : wAt (a + x * 2 ^ (8 * k)) (k / 8) = wAt a (k / 8) ||| x * 2 ^ (8 * (k % 8)) := by
  rw [wAt_mod (by omega), wAt_mod (by omega)]
  have e : 64 * (k / 8) + 8 * (k % 8) = 8 * k := by omega
  have := word_new' (a := a) (x := x) (q := k / 8) (y := 8 * (k % 8)) (by rw [e]; exact ha) hx (by omega)
  rwa [e] at this
theorem row_set {a b q : Nat} (hq : q < 4) (h : ∀ i, i < 4 → i ≠ q → wAt b i = wAt a i) : (#[.int .u64 (w0 (a) : Nat), .int .u64 (w1 (a) : Nat), .int .u64 (w2 (a) : Nat), .int .u64 (w3 (a) : Nat)] : Array Value).setIfInBounds q (.int .u64 (wAt b q : Nat)) = #[.int .u64 (w0 (b) : Nat), .int .u64 (w1 (b) : Nat), .int .u64 (w2 (b) : Nat), .int .u64 (w3 (b) : Nat)] := by
  have : q = 0 ∨ q = 1 ∨ q = 2 ∨ q = 3 := by omega
  rcases this with rfl | rfl | rfl | rfl
  · have h1 : w1 b = w1 a := h 1 (by omega) (by omega)
    have h2 : w2 b = w2 a := h 2 (by omega) (by omega)
    have h3 : w3 b = w3 a := h 3 (by omega) (by omega)
    rw [h1, h2, h3]; rfl
  · have h1 : w0 b = w0 a := h 0 (by omega) (by omega)
    have h2 : w2 b = w2 a := h 2 (by omega) (by omega)
    have h3 : w3 b = w3 a := h 3 (by omega) (by omega)
    rw [h1, h2, h3]; rfl
  · have h1 : w0 b = w0 a := h 0 (by omega) (by omega)
    have h2 : w1 b = w1 a := h 1 (by omega) (by omega)
    have h3 : w3 b = w3 a := h 3 (by omega) (by omega)
    rw [h1, h2, h3]; rfl
  · have h1 : w0 b = w0 a := h 0 (by omega) (by omega)
    have h2 : w1 b = w1 a := h 1 (by omega) (by omega)
    have h3 : w2 b = w2 a := h 2 (by omega) (by omega)
    rw [h1, h2, h3]; rfl
theorem run_index67 (f : Nat → Nat) {k : Nat} (hk : k < 32) (w : World) : (Instr.index 67 (.agg (bA f)) (.int .i64 (k : Int))).run Try.prog w = .ok (.int .u8 (f k : Nat)) w := by
  have h1 : (0 : Int) ≤ (k : Int) ∧ (k : Int) < 32 := by omega
  have h2 := bA_get f hk
  have h3 := bA_size f
  simp [Instr.index, run_underlying Try.underlying67, asIntOf, h1, go_sem, part, h2, h3, hk]
  exact (Array.getElem?_eq_some_iff.1 h2).2
set_option maxRecDepth 10000 in
set_option maxHeartbeats 8000000 in
theorem from_any {f : Nat → Nat} (hf : ∀ i, f i < 256) (w : World) :
   Calls Try.prog 80 #[.agg (bA f)] w fun e w' => e = .returned (.agg #[.int .u64 (w0 (leN f 32) : Nat), .int .u64 (w1 (leN f 32) : Nat), .int .u64 (w2 (leN f 32) : Nat), .int .u64 (w3 (leN f 32) : Nat)]) ∧ Below w.heap.size w w' := by
  have hff := Lib.hid hf
  clear hf
  go_enter Try.func80, Try.ntmps80
  go_upto_region 2 with fail
  obtain ⟨V0, hW⟩ : ∃ V, ((w.alloc (.cells (bA f) 67)).alloc (.cells #[.int .u64 0, .int .u64 0, .int .u64 0, .int .u64 0] 24)).alloc (.cells #[.int .u64 0, .int .u64 0, .int .u64 0, .int .u64 0] 24) = V := ⟨_, rfl⟩
  rw [hW]
  have hA : V0.heap[w.heap.size]? = some (.cells (bA f) 67 (0, 0)) := by
    rw [← hW]; simp only [alloc_at, World.size_alloc]; repeat (first | rw [if_pos trivial] | rw [if_pos (by omega)] | rw [if_neg (by omega)])
  have hR : V0.heap[w.heap.size + 1]? = some (.cells #[.int .u64 0, .int .u64 0, .int .u64 0, .int .u64 0] 24 (0, 0)) := by
    rw [← hW]; simp only [alloc_at, World.size_alloc]; repeat (first | rw [if_pos trivial] | rw [if_pos (by omega)] | rw [if_neg (by omega)])
  have hO : V0.heap[w.heap.size + 2]? = some (.cells #[.int .u64 0, .int .u64 0, .int .u64 0, .int .u64 0] 24 (0, 0)) := by
    rw [← hW]; simp only [alloc_at, World.size_alloc]; repeat (first | rw [if_pos trivial] | rw [if_pos (by omega)] | rw [if_neg (by omega)])
  have kk : Below w.heap.size w V0 := by
    rw [← hW]
    repeat (first | exact Below.refl _ _ | refine Below.drew ?_ | refine bal ?_ _)
  clear hW
  refine wp_region_list ?_
  refine ld67l rfl rfl (g := w.heap.size) rfl hA ?_
  go_wp2_with fail
  go_loopw [7] (fun i wr => ∃ (k : Nat), k ≤ 32 ∧ i = .int .i64 (k : Int) ∧ wr.heap[w.heap.size + 1]? = some (.cells #[.int .u64 0, .int .u64 0, .int .u64 0, .int .u64 0] 24 (0, 0)) ∧ wr.heap[w.heap.size + 2]? = some (.cells #[.int .u64 (w0 (leN f k) : Nat), .int .u64 (w1 (leN f k) : Nat), .int .u64 (w2 (leN f k) : Nat), .int .u64 (w3 (leN f k) : Nat)] 24 (0, 0)) ∧ Below w.heap.size w wr) (fun i wr => (32 - intOf i).toNat)
  case atStart => exact ⟨0, by omega, rfl, hR, by rw [hO]; unfold leN; congr 2, kk⟩
  case round =>
    clear hA hR hO kk
    obtain ⟨k, hk, rfl, hR, hO, kk⟩ := hrel
    by_cases hk2 : k < 32
    · have k1 : (k : Int) < 32 := by omega
      have k2 : (0 : Int) ≤ (k : Int) := by omega
      have hix := fun w => run_index67 f hk2 w
      have hq : k / 8 < 4 := by omega
      have t1 : IntKind.i64.wrap ((k : Int).tdiv 8) = ((k / 8 : Nat) : Int) := by rw [show (k : Int).tdiv 8 = ((k / 8 : Nat) : Int) from by rw [Int.tdiv_eq_ediv_of_nonneg (by omega)]; omega]; exact IntWalk.i64_in _ (by omega)
      have t2 : (k : Int).tmod 8 = ((k % 8 : Nat) : Int) := by rw [Int.tmod_eq_emod_of_nonneg (by omega)]; omega
      have t1' : IntKind.i64.wrap ((k : Int) / 8) = (k : Int) / 8 := IntWalk.i64_in _ (by omega)
      have t6 : IntKind.i64.wrap (8 * ((k : Int) % 8)) = 8 * ((k : Int) % 8) := IntWalk.i64_in _ (by omega)
      have t7 : IntKind.u64.wrap ((f k : Nat) : Int) = ((f k : Nat) : Int) := IntWalk.u64_in _ (by have := hff.out k; omega)
      have t8 : (0 : Int) ≤ 8 * ((k : Int) % 8) := by omega
      have t9 : (8 * ((k : Int) % 8)).toNat = 8 * (k % 8) := by omega
      have t4 : (k : Int) / 8 < 4 := by omega
      have t5 : (0 : Int) ≤ (k : Int) / 8 := by omega
      have t10 : ((k : Int) / 8).toNat = k / 8 := by omega
      have hw8 : f k * 2 ^ (8 * (k % 8)) < 2 ^ 64 := by
        have h1 : f k * 2 ^ (8 * (k % 8)) < 256 * 2 ^ (8 * (k % 8)) := Nat.mul_lt_mul_of_pos_right (hff.out k) (Nat.two_pow_pos _)
        have h2 : 256 * 2 ^ (8 * (k % 8)) ≤ 2 ^ 64 := by
          rw [show (256 : Nat) = 2 ^ 8 from rfl, ← Nat.pow_add]; exact Nat.pow_le_pow_right (by omega) (by omega)
        omega
      have t11 : IntKind.u64.wrap ((f k : Nat) * 2 ^ (8 * (k % 8)) : Int) = ((f k : Nat) * 2 ^ (8 * (k % 8)) : Int) := by
        have e : ((f k : Nat) * 2 ^ (8 * (k % 8)) : Int) = ((f k * 2 ^ (8 * (k % 8)) : Nat) : Int) := by rw [Int.natCast_mul, Int.natCast_pow]; rfl
        rw [e]; exact IntWalk.u64_in _ (by omega)
      obtain ⟨acc, hacc⟩ : ∃ n, leN f k = n := ⟨_, rfl⟩
      rw [hacc] at hO
      have HA := Lib.hid hacc
      clear hacc
      go_upto_region 5 with fail
      obtain ⟨S0, hS0⟩ : ∃ S : World → Prop, S = (fun w' => w'.heap[w.heap.size + 2]? = some (.cells #[.int .u64 (w0 (acc) : Nat), .int .u64 (w1 (acc) : Nat), .int .u64 (w2 (acc) : Nat), .int .u64 (w3 (acc) : Nat)] 24 (0, 0))) := ⟨_, rfl⟩
      refine startT (S := S0) 12 (by kernel_rfl) (by rw [hS0]; exact hO) (fun hHeld => ?_)
      refine takeT (i := 0) (d := some 11) (v := ?_) _ rfl rfl (by rfl) (by kernel_rfl) (by decide) (by kernel_rfl) (by kernel_rfl) (by kernel_rfl) (fun _ _ _ h => h) (by assumption) (by kernel_rfl) ?_ ?_
      rotate_left
      · (first | (intro w' hSw; clear hSw; go_simp; try (with_reducible rfl)) | (intro w'; go_simp; try (with_reducible rfl)))
      try simp only [Act.put, List.setIfInBounds_toArray, List.set_cons_zero, List.set_cons_succ]
      refine takeT (i := 1) (d := some 12) (v := ?_) _ rfl rfl (by rfl) (by kernel_rfl) (by decide) (by kernel_rfl) (by kernel_rfl) (by kernel_rfl) (fun _ _ _ h => h) (by assumption) (by kernel_rfl) ?_ ?_
      rotate_left
      · (first | (intro w' hSw; clear hSw; go_simp; try (with_reducible rfl)) | (intro w'; go_simp; try (with_reducible rfl)))
      try simp only [Act.put, List.setIfInBounds_toArray, List.set_cons_zero, List.set_cons_succ]
      refine takeT (i := 2) (d := some 13) (v := ?_) _ rfl rfl (by rfl) (by kernel_rfl) (by decide) (by kernel_rfl) (by kernel_rfl) (by kernel_rfl) (fun _ _ _ h => h) (by assumption) (by kernel_rfl) ?_ ?_
      rotate_left
      · (first | (intro w' hSw; clear hSw; go_simp; try (with_reducible rfl)) | (intro w'; go_simp; try (with_reducible rfl)))
      try simp only [Act.put, List.setIfInBounds_toArray, List.set_cons_zero, List.set_cons_succ]
      refine takeT (i := 3) (d := some 14) (v := ?_) _ rfl rfl (by rfl) (by kernel_rfl) (by decide) (by kernel_rfl) (by kernel_rfl) (by kernel_rfl) (fun _ _ _ h => h) (by assumption) (by kernel_rfl) ?_ ?_
      rotate_left
      · (intro w' hSw; rw [hS0] at hSw; have cb := wAt_cell hSw hq; go_simp; try (with_reducible rfl))
      try simp only [Act.put, List.setIfInBounds_toArray, List.set_cons_zero, List.set_cons_succ]
      refine takeT (i := 4) (d := some 15) (v := ?_) _ rfl rfl (by rfl) (by kernel_rfl) (by decide) (by kernel_rfl) (by kernel_rfl) (by kernel_rfl) (fun _ _ _ h => h) (by assumption) (by kernel_rfl) ?_ ?_
      rotate_left
      · (first | (intro w' hSw; clear hSw; go_simp; try (with_reducible rfl)) | (intro w'; go_simp; try (with_reducible rfl)))
      try simp only [Act.put, List.setIfInBounds_toArray, List.set_cons_zero, List.set_cons_succ]
      refine takeT (i := 5) (d := some 16) (v := ?_) _ rfl rfl (by rfl) (by kernel_rfl) (by decide) (by kernel_rfl) (by kernel_rfl) (by kernel_rfl) (fun _ _ _ h => h) (by assumption) (by kernel_rfl) ?_ ?_
      rotate_left
      · (first | (intro w' hSw; clear hSw; go_simp; try (with_reducible rfl)) | (intro w'; go_simp; try (with_reducible rfl)))
      try simp only [Act.put, List.setIfInBounds_toArray, List.set_cons_zero, List.set_cons_succ]
      refine takeT (i := 6) (d := some 17) (v := ?_) _ rfl rfl (by rfl) (by kernel_rfl) (by decide) (by kernel_rfl) (by kernel_rfl) (by kernel_rfl) (fun _ _ _ h => h) (by assumption) (by kernel_rfl) ?_ ?_
      rotate_left
      · (first | (intro w' hSw; clear hSw; go_simp; try (with_reducible rfl)) | (intro w'; go_simp; try (with_reducible rfl)))
      try simp only [Act.put, List.setIfInBounds_toArray, List.set_cons_zero, List.set_cons_succ]
      refine takeT (i := 7) (d := some 18) (v := ?_) _ rfl rfl (by rfl) (by kernel_rfl) (by decide) (by kernel_rfl) (by kernel_rfl) (by kernel_rfl) (fun _ _ _ h => h) (by assumption) (by kernel_rfl) ?_ ?_
      rotate_left
      · (first | (intro w' hSw; clear hSw; go_simp; try (with_reducible rfl)) | (intro w'; go_simp; try (with_reducible rfl)))
      try simp only [Act.put, List.setIfInBounds_toArray, List.set_cons_zero, List.set_cons_succ]
      refine takeT (i := 8) (d := some 19) (v := ?_) _ rfl rfl (by rfl) (by kernel_rfl) (by decide) (by kernel_rfl) (by kernel_rfl) (by kernel_rfl) (fun _ _ _ h => h) (by assumption) (by kernel_rfl) ?_ ?_
      rotate_left
      · (first | (intro w' hSw; clear hSw; go_simp; try (with_reducible rfl)) | (intro w'; go_simp; try (with_reducible rfl)))
      try simp only [Act.put, List.setIfInBounds_toArray, List.set_cons_zero, List.set_cons_succ]
      refine takeT (i := 9) (d := some 20) (v := ?_) _ rfl rfl (by rfl) (by kernel_rfl) (by decide) (by kernel_rfl) (by kernel_rfl) (by kernel_rfl) (fun _ _ _ h => h) (by assumption) (by kernel_rfl) ?_ ?_
      rotate_left
      · (first | (intro w' hSw; clear hSw; go_simp; try (with_reducible rfl)) | (intro w'; go_simp; try (with_reducible rfl)))
      try simp only [Act.put, List.setIfInBounds_toArray, List.set_cons_zero, List.set_cons_succ]
      refine takeT (i := 10) (d := some 21) (v := ?_) _ rfl rfl (by rfl) (by kernel_rfl) (by decide) (by kernel_rfl) (by kernel_rfl) (by kernel_rfl) (fun _ _ _ h => h) (by assumption) (by kernel_rfl) ?_ ?_
      rotate_left
      · (first | (intro w' hSw; clear hSw; go_simp; try (with_reducible rfl)) | (intro w'; go_simp; try (with_reducible rfl)))
      try simp only [Act.put, List.setIfInBounds_toArray, List.set_cons_zero, List.set_cons_succ]
      refine takeT (i := 11) (d := some 22) (v := ?_) _ rfl rfl (by rfl) (by kernel_rfl) (by decide) (by kernel_rfl) (by kernel_rfl) (by kernel_rfl) (fun _ _ _ h => h) (by assumption) (by kernel_rfl) ?_ ?_
      rotate_left
      · (first | (intro w' hSw; clear hSw; go_simp; try (with_reducible rfl)) | (intro w'; go_simp; try (with_reducible rfl)))
      try simp only [Act.put, List.setIfInBounds_toArray, List.set_cons_zero, List.set_cons_succ]
      have cb := wAt_cell hO hq
      have zb := frozen_of_row _ _ (k / 8) _ _ hO
      refine callT (i := 12) _ rfl (by rfl) (by kernel_rfl) (fun K hK => ?_)
      go_simp
      obtain ⟨nxt, hnx⟩ : ∃ n, leN f (k + 1) = n := ⟨_, rfl⟩
      have hal : acc < 2 ^ (8 * k) := by rw [← HA.out]; exact leN_lt hff.out k
      have hnv : nxt = acc + f k * 2 ^ (8 * k) := by rw [← hnx, ← HA.out]; rfl
      have e12 : bits .or .u64 ((wAt acc (k / 8) : Nat) : Int) ((f k : Nat) * 2 ^ (8 * (k % 8)) : Int) = ((wAt nxt (k / 8) : Nat) : Int) := by
        have e : ((f k : Nat) * 2 ^ (8 * (k % 8)) : Int) = ((f k * 2 ^ (8 * (k % 8)) : Nat) : Int) := by rw [Int.natCast_mul, Int.natCast_pow]; rfl
        rw [e, bits_or_u64_nat _ _ (wAt_lt _ _) (by omega), hnv, word_new hal (hff.out k) hk2]
      rw [e12]
      have P1 := put1 (i := k / 8) (.int .u64 (wAt nxt (k / 8) : Nat)) hO
      rw [row_set hq (fun i hi hne => by rw [hnv]; exact word_keep hal (hff.out k) hi hne)] at P1
      obtain ⟨V1, hV1⟩ : ∃ V, wr.setCell ⟨w.heap.size + 1 + 1, k / 8, none⟩ (.int .u64 (wAt nxt (k / 8) : Nat)) = V := ⟨_, rfl⟩
      rw [show w.heap.size + 2 = w.heap.size + 1 + 1 from rfl, hV1] at P1
      rw [hV1]
      refine hK.out _ _ (Or.inl (by kernel_rfl)) ?_
      clear hK K
      try simp only [Act.put, List.setIfInBounds_toArray, List.set_cons_zero, List.set_cons_succ]
      refine doneT (by kernel_rfl) ?_ _
      go_simp
      go_wp2_with fail
      refine ⟨⟨k + 1, by omega, congrArg (Value.int .i64) (by omega), (P1.there _ (by omega)).trans hR, by rw [hnx]; exact P1.here, by first | exact P1.below (by omega) kk | exact (P1.below (by omega) kk).drew⟩, ?_⟩
      simp only [intOf]; omega
    · have k1 : ¬ (k : Int) < 32 := by omega
      obtain rfl : k = 32 := by omega
      obtain ⟨nn, hnn⟩ : ∃ n, leN f 32 = n := ⟨_, rfl⟩
      rw [hnn] at hO
      have HN := Lib.hid hnn
      clear hnn
      obtain ⟨cO0, cO1, cO2, cO3⟩ := row4c hO
      obtain ⟨zO0, zO1, zO2, zO3⟩ := row4z hO
      obtain ⟨cR0, cR1, cR2, cR3⟩ := row4c hR
      obtain ⟨zR0, zR1, zR2, zR3⟩ := row4z hR
      go_wp2_with fail
      have P := put4 (.int .u64 (w0 (nn) : Nat)) (.int .u64 (w1 (nn) : Nat)) (.int .u64 (w2 (nn) : Nat)) (.int .u64 (w3 (nn) : Nat)) hR
      replace P := put_hid P
      obtain ⟨V9, hV9, P⟩ := P
      rw [hV9]
      have P9 := P.here
      have k9 := P.below (by omega) (show Below w.heap.size w wr from by first | exact kk | exact kk.drew | exact below_drewN kk _)
      obtain ⟨v0, v1, v2, v3⟩ := row4c P9
      refine bodyPost_ret (v := _) (by simp [results, Try.results80, go_sem, v0, v1, v2, v3]; rfl) rfl ?_
      rw [HN.out]
      exact ⟨rfl, k9⟩
end Go.Proofs.Ytgghopmlcpcpkaa
namespace Go.Proofs.Ytgghopmlcpcpkaa
open Go.RowKit PlainK
set_option linter.unusedVariables false
set_option linter.unusedSimpArgs false
section
variable {P : Program} {ops : Array Oper} {Q : Exit → Act → World → Prop} {md : Region.Mode} {S : World → Prop} {n : Nat} {w0 : World}
/-- an operation that looks at no world is taken first, beside one box -/
theorem NK1.takeW {i1 d1 : Nat} {Z1 : Obj} {x1 : Value} {f i d : Nat} {v : Value} {L : Array Bool} {B : Act} (o : Oper) (h1 : ops[i]? = some o) (h2 : o.dst = some d) (h3 : ∀ t, Region.wanted o (yielded ops t) = true)
    (hs : Region.noSelect ops = true) (hni : i ≠ n) (hd : d ≠ d1) (hi : i ≠ i1) (hf0 : Region.free md ops L i = true) (hf1 : Region.free md ops (L.setIfInBounds i1 true) i = true)
    (hr0 : (Region.ready md ops L).contains i = true) (hr1 : (Region.ready md ops (L.setIfInBounds i1 true)).contains i = true)
    (hQ : ∀ c a w, Q (.panic c) (a.put (some d) v) w → Q (.panic c) a w) (hS : ∀ w, Below w0.heap.size w0 w → S w) (hl0 : L.getD n false = false) (hl1 : (L.setIfInBounds i1 true).getD n false = false)
    (h4 : ∀ x w, (execOp (B.put (some d1) x).eval o).run P w = .ok (.value v) w)
    (N : NK1 P md ops Q S n w0 i1 d1 Z1 x1 f (L.setIfInBounds i true) (B.put (some d) v)) : NK1 P md ops Q S n w0 i1 d1 Z1 x1 (f + 1) L B := by
  refine ⟨fun w b1 hJ o1 => ?_, fun w hJ => ?_⟩
  · refine Go.Proofs.Ytgghopmlcpcpkaa.takeW o h1 h2 (h3 _) hs hni hf1 hr1 hQ (hS _ hJ) hl1 (h4 _) ?_
    rw [put_comm (Ne.symm hd), Array.setIfInBounds_comm _ _ (Ne.symm hi)]
    exact N.st w b1 hJ o1
  · refine Go.Proofs.Ytgghopmlcpcpkaa.takeW o h1 h2 (h3 _) hs hni hf0 hr0 hQ (hS _ hJ) hl0 (h4 _) ?_
    rw [put_comm (Ne.symm hd)]
    exact N.sf w hJ
end
theorem ldx67 {o : Oper} {a : Act} {w : World} {x : Operand} (ho : o.op = .load 67 x) {g : Nat} (hx : a.eval x = .pointer (some ⟨g, 0, none⟩)) {f : Nat → Nat} {t : TypeId} (hg : w.heap[g]? = some (.cells (bA f) t (0, 0))) :
    (execOp a.eval o).run Try.prog w = .ok (.value (.agg (bA f))) w := by
  unfold execOp
  simp only [ho, hx, Instr.loadAt, Instr.sureAddr, Sem.run_bind, Sem.run_pure, Result.andThen_ok, run_loadVar_row w g t 67 (bA f) (0, 0) _ hg Try.underlying67 rfl (bA_info f)]
end Go.Proofs.Ytgghopmlcpcpkaa
namespace Go.Proofs.Ytgghopmlcpcpkaa
open Go.RowKit PlainK
set_option linter.unusedVariables false
set_option linter.unusedSimpArgs false
theorem info5 : ∃ (i : TypeInfo) (z : Value), Try.prog.info? 5 = some i ∧ i.zero = some z ∧ i.size = 1 ∧ i.bytes = 1 ∧ z.cells.size = 1 := by
  have h1 : (Try.prog.info? 5).map (·.size) = some 1 := by kernel_rfl
  have h2 : (Try.prog.info? 5).map (·.bytes) = some 1 := by kernel_rfl
  have h3 : ((Try.prog.info? 5).bind (·.zero)).map (·.cells.size) = some 1 := by kernel_rfl
  cases h : Try.prog.info? 5 with
  | none => rw [h] at h1; cases h1
  | some i =>
    rw [h] at h1 h2 h3
    cases hz : i.zero with
    | none => simp [hz] at h3
    | some z => exact ⟨i, z, rfl, hz, by simpa using h1, by simpa using h2, by simpa [hz] using h3⟩
theorem owns_cells {w : World} {base n cap g : Nat} {xs : List Value} (h : w.ownsRow base 5 1 (.slice (some ⟨g, 0, none⟩) n cap) n xs) (i : Nat) (v : Value) (hi : xs[i]? = some v) : w.cell? ⟨g, i, none⟩ = some v ∧ base ≤ g := by
  obtain ⟨hl, ⟨h0, _⟩ | ⟨g', cap', cur, hv, hb, hg, _, _, _, ht⟩⟩ := h
  · cases h0
  · injection hv with h1 _ _
    injection h1 with h1
    injection h1 with h1
    subst h1
    refine ⟨?_, hb⟩
    rw [cell_of_row _ _ _ _ _ _ hg]
    rw [← ht, List.getElem?_take] at hi
    by_cases h : i < n * 1
    · rw [if_pos h] at hi; simpa using hi
    · rw [if_neg h] at hi; cases hi
theorem owns_cap {w : World} {base n cap g : Nat} {xs : List Value} (h : w.ownsRow base 5 1 (.slice (some ⟨g, 0, none⟩) n cap) n xs) : n ≤ cap := by
  obtain ⟨hl, ⟨h0, _⟩ | ⟨g', cap', cur, hv, hb, hg, hc, _, _, ht⟩⟩ := h
  · cases h0
  · injection hv with h1 _ h3
    subst h3
    exact hc
theorem one_par (y : Nat) (hy : y < 2 ^ 256) : (bits .and .u64 ((w0 y : Nat) : Int) 1 == 1) = decide (y % 2 = 1) := by
  have h := bits_and_u64_nat (w0 y) 1 (by unfold w0; exact Nat.mod_lt _ (by decide)) (by omega)
  have e : bits .and .u64 ((w0 y : Nat) : Int) 1 = ((y % 2 : Nat) : Int) := by
    rw [show (1 : Int) = ((1 : Nat) : Int) from rfl, h, Nat.and_one_is_mod]
    unfold w0
    omega
  rw [e]
  by_cases h2 : y % 2 = 1
  · rw [h2]; rfl
  · have : y % 2 = 0 := by omega
    rw [this]; rfl
set_option maxRecDepth 10000 in
set_option maxHeartbeats 8000000 in
theorem pbytes_off {a0 a1 a2 a3 b0 b1 b2 b3 : Int} {x y : Nat} (n : Bool) (ha : W4 a0 a1 a2 a3 x) (hb : W4 b0 b1 b2 b3 y) (h : onB x y n = false) (w : World) :
   Calls Try.prog 45 #[.agg #[.int .u64 a0, .int .u64 a1, .int .u64 a2, .int .u64 a3, .int .u64 b0, .int .u64 b1, .int .u64 b2, .int .u64 b3, .bool n]] w fun e w' => e = .returned (.slice none 0 0) ∧ Below w.heap.size w w' := by
  obtain ⟨rfl, rfl, rfl, rfl, la⟩ := ha
  obtain ⟨rfl, rfl, rfl, rfl, lb⟩ := hb
  have hla := Lib.hid la
  have hlb := Lib.hid lb
  have HB := Lib.hid h
  clear la lb h
  go_enter Try.func45, Try.ntmps45
  go_upto_region 1 with fail
  obtain ⟨V0, hW⟩ : ∃ V, w.alloc (.cells #[.int .u64 (w0 (x) : Nat), .int .u64 (w1 (x) : Nat), .int .u64 (w2 (x) : Nat), .int .u64 (w3 (x) : Nat), .int .u64 (w0 (y) : Nat), .int .u64 (w1 (y) : Nat), .int .u64 (w2 (y) : Nat), .int .u64 (w3 (y) : Nat), .bool n] 52) = V := ⟨_, rfl⟩
  rw [hW]
  have hA : V0.heap[w.heap.size]? = some (.cells #[.int .u64 (w0 (x) : Nat), .int .u64 (w1 (x) : Nat), .int .u64 (w2 (x) : Nat), .int .u64 (w3 (x) : Nat), .int .u64 (w0 (y) : Nat), .int .u64 (w1 (y) : Nat), .int .u64 (w2 (y) : Nat), .int .u64 (w3 (y) : Nat), .bool n] 52 (0, 0)) := by
    rw [← hW]; simp only [alloc_at, World.size_alloc]; repeat (first | rw [if_pos trivial] | rw [if_pos (by omega)] | rw [if_neg (by omega)])
  have kk : Below w.heap.size w V0 := by
    rw [← hW]
    repeat (first | exact Below.refl _ _ | refine Below.drew ?_ | refine bal ?_ _)
  clear hW
  obtain ⟨cA0, cA1, cA2, cA3, cA4, cA5, cA6, cA7, cA8⟩ := row9c hA
  obtain ⟨zA0, zA1, zA2, zA3, zA4, zA5, zA6, zA7, zA8⟩ := row9z hA
  go_wp2_with fail
  refine (on_any n (W4.mk' hla.out) (W4.mk' hlb.out) _).mono ?_
  rintro e V1 ⟨rfl, hb⟩
  replace hA := below_get hb hA
  replace kk := bcl (by first | exact kk | exact kk.drew | exact below_drewN kk _) hb
  clear cA0 zA0 cA1 zA1 cA2 zA2 cA3 zA3 cA4 zA4 cA5 zA5 cA6 zA6 cA7 zA7 cA8 zA8
  clear hb
  rw [HB.out]
  go_wp2_with fail
  refine bodyPost_ret (v := _) (by simp [results, Try.results45, go_sem]; rfl) rfl ?_
  exact ⟨rfl, kk⟩
set_option maxRecDepth 10000 in
set_option maxHeartbeats 8000000 in
theorem pbytes_none {x y : Nat} {a : Pt PP} (hp : PtN a x y true) (w : World) :
   Calls Try.prog 45 #[.agg #[.int .u64 (w0 (x) : Nat), .int .u64 (w1 (x) : Nat), .int .u64 (w2 (x) : Nat), .int .u64 (w3 (x) : Nat), .int .u64 (w0 (y) : Nat), .int .u64 (w1 (y) : Nat), .int .u64 (w2 (y) : Nat), .int .u64 (w3 (y) : Nat), .bool true]] w fun e w' => ∃ g cap, e = .returned (.slice (some ⟨g, 0, none⟩) 1 cap) ∧ 1 ≤ cap ∧ w.heap.size ≤ g ∧ w'.cell? ⟨g, 0, none⟩ = some (.int .u8 0) ∧ Below w.heap.size w w' := by
  have hla := Lib.hid hp.lx
  have hlb := Lib.hid hp.ly
  have HB0 : onB x y true = true := by have := onB_enc hp.on; rwa [hp.hx, hp.hy, hp.hb] at this
  have HB := Lib.hid HB0
  clear hp HB0
  go_enter Try.func45, Try.ntmps45
  go_upto_region 1 with fail
  obtain ⟨V0, hW⟩ : ∃ V, w.alloc (.cells #[.int .u64 (w0 (x) : Nat), .int .u64 (w1 (x) : Nat), .int .u64 (w2 (x) : Nat), .int .u64 (w3 (x) : Nat), .int .u64 (w0 (y) : Nat), .int .u64 (w1 (y) : Nat), .int .u64 (w2 (y) : Nat), .int .u64 (w3 (y) : Nat), .bool true] 52) = V := ⟨_, rfl⟩
  rw [hW]
  have hA : V0.heap[w.heap.size]? = some (.cells #[.int .u64 (w0 (x) : Nat), .int .u64 (w1 (x) : Nat), .int .u64 (w2 (x) : Nat), .int .u64 (w3 (x) : Nat), .int .u64 (w0 (y) : Nat), .int .u64 (w1 (y) : Nat), .int .u64 (w2 (y) : Nat), .int .u64 (w3 (y) : Nat), .bool true] 52 (0, 0)) := by
    rw [← hW]; simp only [alloc_at, World.size_alloc]; repeat (first | rw [if_pos trivial] | rw [if_pos (by omega)] | rw [if_neg (by omega)])
  have kk : Below w.heap.size w V0 := by
    rw [← hW]
    repeat (first | exact Below.refl _ _ | refine Below.drew ?_ | refine bal ?_ _)
  clear hW
  obtain ⟨cA0, cA1, cA2, cA3, cA4, cA5, cA6, cA7, cA8⟩ := row9c hA
  obtain ⟨zA0, zA1, zA2, zA3, zA4, zA5, zA6, zA7, zA8⟩ := row9z hA
  go_wp2_with fail
  refine (on_any true (W4.mk' hla.out) (W4.mk' hlb.out) _).mono ?_
  rintro e V1 ⟨rfl, hb⟩
  replace hA := below_get hb hA
  replace kk := bcl (by first | exact kk | exact kk.drew | exact below_drewN kk _) hb
  clear cA0 zA0 cA1 zA1 cA2 zA2 cA3 zA3 cA4 zA4 cA5 zA5 cA6 zA6 cA7 zA7 cA8 zA8
  clear hb
  rw [HB.out]
  obtain ⟨cA0, cA1, cA2, cA3, cA4, cA5, cA6, cA7, cA8⟩ := row9c hA
  obtain ⟨zA0, zA1, zA2, zA3, zA4, zA5, zA6, zA7, zA8⟩ := row9z hA
  go_wp2_with fail
  obtain ⟨V2, hW⟩ : ∃ V, V1.alloc (.cells #[.int .u8 0] 5 (0, 0)) = V := ⟨_, rfl⟩
  rw [hW]
  have hN : V2.heap[V1.heap.size]? = some (.cells #[.int .u8 0] 5 (0, 0)) := by rw [← hW]; exact heap_alloc_new _ _
  have k9 : Below w.heap.size w V2 := by rw [← hW]; exact bal (by first | exact kk | exact kk.drew) _
  refine bodyPost_ret (v := _) (by simp [results, Try.results45, go_sem]; rfl) rfl ?_
  exact ⟨_, _, rfl, Nat.le_refl _, kk.size, by rw [cell_of_row _ _ _ _ _ _ hN]; rfl, k9⟩
set_option maxRecDepth 10000 in
set_option maxHeartbeats 8000000 in
theorem pbytes_pt {x y : Nat} {a : Pt PP} (hp : PtN a x y false) (w : World) :
   Calls Try.prog 45 #[.agg #[.int .u64 (w0 (x) : Nat), .int .u64 (w1 (x) : Nat), .int .u64 (w2 (x) : Nat), .int .u64 (w3 (x) : Nat), .int .u64 (w0 (y) : Nat), .int .u64 (w1 (y) : Nat), .int .u64 (w2 (y) : Nat), .int .u64 (w3 (y) : Nat), .bool false]] w fun e w' => ∃ g cap, e = .returned (.slice (some ⟨g, 0, none⟩) 33 cap) ∧ 33 ≤ cap ∧ w.heap.size ≤ g ∧ (w'.cell? ⟨g, 0, none⟩ = some (.int .u8 (2 + y % 2 : Nat)) ∧ ∀ i, i < 32 → w'.cell? ⟨g, i + 1, none⟩ = some (.int .u8 (byt x (31 - i) : Nat))) ∧ Below w.heap.size w w' := by
  have hla := Lib.hid hp.lx
  have hlb := Lib.hid hp.ly
  have HB0 : onB x y false = true := by have := onB_enc hp.on; rwa [hp.hx, hp.hy, hp.hb] at this
  have HB := Lib.hid HB0
  clear hp HB0
  go_enter Try.func45, Try.ntmps45
  go_upto_region 1 with fail
  obtain ⟨V0, hW⟩ : ∃ V, w.alloc (.cells #[.int .u64 (w0 (x) : Nat), .int .u64 (w1 (x) : Nat), .int .u64 (w2 (x) : Nat), .int .u64 (w3 (x) : Nat), .int .u64 (w0 (y) : Nat), .int .u64 (w1 (y) : Nat), .int .u64 (w2 (y) : Nat), .int .u64 (w3 (y) : Nat), .bool false] 52) = V := ⟨_, rfl⟩
  rw [hW]
  have hA : V0.heap[w.heap.size]? = some (.cells #[.int .u64 (w0 (x) : Nat), .int .u64 (w1 (x) : Nat), .int .u64 (w2 (x) : Nat), .int .u64 (w3 (x) : Nat), .int .u64 (w0 (y) : Nat), .int .u64 (w1 (y) : Nat), .int .u64 (w2 (y) : Nat), .int .u64 (w3 (y) : Nat), .bool false] 52 (0, 0)) := by
    rw [← hW]; simp only [alloc_at, World.size_alloc]; repeat (first | rw [if_pos trivial] | rw [if_pos (by omega)] | rw [if_neg (by omega)])
  have kk : Below w.heap.size w V0 := by
    rw [← hW]
    repeat (first | exact Below.refl _ _ | refine Below.drew ?_ | refine bal ?_ _)
  clear hW
  obtain ⟨cA0, cA1, cA2, cA3, cA4, cA5, cA6, cA7, cA8⟩ := row9c hA
  obtain ⟨zA0, zA1, zA2, zA3, zA4, zA5, zA6, zA7, zA8⟩ := row9z hA
  go_wp2_with fail
  refine (on_any false (W4.mk' hla.out) (W4.mk' hlb.out) _).mono ?_
  rintro e V1 ⟨rfl, hb⟩
  replace hA := below_get hb hA
  replace kk := bcl (by first | exact kk | exact kk.drew | exact below_drewN kk _) hb
  clear cA0 zA0 cA1 zA1 cA2 zA2 cA3 zA3 cA4 zA4 cA5 zA5 cA6 zA6 cA7 zA7 cA8 zA8
  clear hb
  rw [HB.out]
  obtain ⟨cA0, cA1, cA2, cA3, cA4, cA5, cA6, cA7, cA8⟩ := row9c hA
  obtain ⟨zA0, zA1, zA2, zA3, zA4, zA5, zA6, zA7, zA8⟩ := row9z hA
  go_wp2_with fail
  refine (bytes_any (W4.mk' hla.out) _).mono ?_
  rintro e V2 ⟨rfl, hb⟩
  replace hA := below_get hb hA
  replace kk := bcl (by first | exact kk | exact kk.drew | exact below_drewN kk _) hb
  clear cA0 zA0 cA1 zA1 cA2 zA2 cA3 zA3 cA4 zA4 cA5 zA5 cA6 zA6 cA7 zA7 cA8 zA8
  clear hb
  dsimp only
  refine (‹∀ (a : Act) (w : World), wpList _ _ _ _ a w → _› _ _ ?_)
  refine wpList_plain rfl (fun K hK => ?_)
  go_simp
  refine hK _ _ ?_
  clear hK K
  obtain ⟨V3, hW⟩ : ∃ V, V2.alloc (.cells #[.int .u8 0, .int .u8 0, .int .u8 0, .int .u8 0, .int .u8 0, .int .u8 0, .int .u8 0, .int .u8 0, .int .u8 0, .int .u8 0, .int .u8 0, .int .u8 0, .int .u8 0, .int .u8 0, .int .u8 0, .int .u8 0, .int .u8 0, .int .u8 0, .int .u8 0, .int .u8 0, .int .u8 0, .int .u8 0, .int .u8 0, .int .u8 0, .int .u8 0, .int .u8 0, .int .u8 0, .int .u8 0, .int .u8 0, .int .u8 0, .int .u8 0, .int .u8 0] 67 (0, 0)) = V := ⟨_, rfl⟩
  rw [hW]
  obtain ⟨d3, hbx⟩ : ∃ n, V2.heap.size = n := ⟨_, rfl⟩
  rw [hbx]
  have hNEW : V3.heap[d3]? = some (.cells #[.int .u8 0, .int .u8 0, .int .u8 0, .int .u8 0, .int .u8 0, .int .u8 0, .int .u8 0, .int .u8 0, .int .u8 0, .int .u8 0, .int .u8 0, .int .u8 0, .int .u8 0, .int .u8 0, .int .u8 0, .int .u8 0, .int .u8 0, .int .u8 0, .int .u8 0, .int .u8 0, .int .u8 0, .int .u8 0, .int .u8 0, .int .u8 0, .int .u8 0, .int .u8 0, .int .u8 0, .int .u8 0, .int .u8 0, .int .u8 0, .int .u8 0, .int .u8 0] 67 (0, 0)) := by rw [← hW, ← hbx]; exact heap_alloc_new _ _
  have lD3A : w.heap.size < d3 := by rw [← hbx]; exact lt_of_heap hA
  replace hA : V3.heap[w.heap.size]? = some (.cells #[.int .u64 (w0 (x) : Nat), .int .u64 (w1 (x) : Nat), .int .u64 (w2 (x) : Nat), .int .u64 (w3 (x) : Nat), .int .u64 (w0 (y) : Nat), .int .u64 (w1 (y) : Nat), .int .u64 (w2 (y) : Nat), .int .u64 (w3 (y) : Nat), .bool false] 52 (0, 0)) := by rw [← hW]; exact ak hA
  have lD3 : w.heap.size ≤ d3 := by rw [← hbx]; exact kk.size
  replace kk : Below w.heap.size w V3 := by rw [← hW]; exact bal kk _
  have hD3 := hNEW
  clear hNEW hW hbx
  rw [bA_zero] at hD3
  refine st67l rfl rfl (g := d3) rfl rfl hD3 ?_
  have P := putRow (cs := bA (byt x)) hD3
  obtain ⟨V4, hW⟩ : ∃ V, World.setRow V3 (d3) (bA (byt x)) = V := ⟨_, rfl⟩
  rw [hW] at P ⊢
  replace hD3 := P.here
  replace hA := (P.there (w.heap.size) (by omega)).trans (show _ = some (.cells #[.int .u64 (w0 (x) : Nat), .int .u64 (w1 (x) : Nat), .int .u64 (w2 (x) : Nat), .int .u64 (w3 (x) : Nat), .int .u64 (w0 (y) : Nat), .int .u64 (w1 (y) : Nat), .int .u64 (w2 (y) : Nat), .int .u64 (w3 (y) : Nat), .bool false] 52 (0, 0)) from hA)
  replace kk := P.below (by omega) (show Below w.heap.size w V3 from by first | exact kk | exact kk.drew | exact below_drewN kk _)
  clear P hW
  go_wp2_with fail
  refine (reverse_any _ hD3).mono ?_
  rintro e V5 ⟨rfl, P⟩
  replace hA := (P.there (w.heap.size) (by omega)).trans hA
  replace kk := P.below (B := w.heap.size) (w := w) (by omega) (by first | exact kk | exact kk.drew)
  replace hD3 := P.here
  clear P
  have hp2 := one_par y hlb.out
  have hA' := hA
  obtain ⟨i5, z5, e1, e2, e3, e4, e5⟩ := info5
  by_cases hy : y % 2 = 1
  · rw [decide_eq_true hy] at hp2
    have HSG := Lib.hid (show 2 + y % 2 = 3 by omega)
    clear hy
    obtain ⟨cA0, cA1, cA2, cA3, cA4, cA5, cA6, cA7, cA8⟩ := row9c hA
    go_upto_region 10 with fail
    refine wp_region_list ?_
    refine wpList_plain rfl (fun K hK => ?_)
    go_simp
    refine hK _ _ ?_
    clear hK K
    refine wpList_plain rfl (fun K hK => ?_)
    go_simp
    refine hK _ _ ?_
    clear hK K
    obtain ⟨V6, hW⟩ : ∃ V, V5.alloc (.cells #[.int .u8 3] 5 (0, 0)) = V := ⟨_, rfl⟩
    rw [hW]
    obtain ⟨d6, hbx⟩ : ∃ n, V5.heap.size = n := ⟨_, rfl⟩
    rw [hbx]
    have hNEW : V6.heap[d6]? = some (.cells #[.int .u8 3] 5 (0, 0)) := by rw [← hW, ← hbx]; exact heap_alloc_new _ _
    have lD6A : w.heap.size < d6 := by rw [← hbx]; exact lt_of_heap hA
    replace hA : V6.heap[w.heap.size]? = some (.cells #[.int .u64 (w0 (x) : Nat), .int .u64 (w1 (x) : Nat), .int .u64 (w2 (x) : Nat), .int .u64 (w3 (x) : Nat), .int .u64 (w0 (y) : Nat), .int .u64 (w1 (y) : Nat), .int .u64 (w2 (y) : Nat), .int .u64 (w3 (y) : Nat), .bool false] 52 (0, 0)) := by rw [← hW]; exact ak hA
    have lD6D3 : d3 < d6 := by rw [← hbx]; exact lt_of_heap hD3
    replace hD3 : V6.heap[d3]? = some (.cells (bA fun i => byt x (31 - i)) 67 (0, 0)) := by rw [← hW]; exact ak hD3
    have lD6 : w.heap.size ≤ d6 := by rw [← hbx]; exact kk.size
    replace kk : Below w.heap.size w V6 := by rw [← hW]; exact bal kk _
    have hD6 := hNEW
    clear hNEW hW hbx
    refine wpList_plain rfl (fun K hK => ?_)
    go_simp
    refine hK _ _ ?_
    clear hK K
    refine wpList_append_lies _ rfl _ _ 63 (by rfl) w.heap.size 5 i5 z5 1 1 Try.underlying63 e1 e2 e3 e4 e5 (by decide) (.slice (some ⟨d6, 0, none⟩) 1 1) 1 [.int .u8 3] (by rfl) ⟨rfl, Or.inr ⟨d6, 1, #[.int .u8 3], rfl, lD6, hD6, by decide, by decide, rfl, rfl⟩⟩ ⟨d3, 0, none⟩ 32 32 (bA fun i => byt x (31 - i)).toList (by rfl) (by simp [bA_size]) (World.news_of_block hD3) (fun u hu => (Array.all_eq_true_iff_forall_mem.1 (bA_one _)) u (by simpa using hu)) (by decide) (by decide) (by decide) kk.size V6.heap.size rfl ?_
    intro g cap w1 hown hgrow hat hlt
    have k9 := Below.grown kk hgrow kk.size (fun k hk => by cases hk; exact lD6)
    go_wp2_with fail
    refine bodyPost_ret (v := _) (by simp [results, Try.results45, go_sem]; rfl) rfl ?_
    refine ⟨g, cap, rfl, owns_cap hown, (owns_cells hown 0 _ rfl).2, ⟨by rw [HSG.out]; exact (owns_cells hown 0 _ rfl).1, fun i hi => (owns_cells hown (i + 1) _ ?_).1⟩, k9⟩
    have := bA_get (fun i => byt x (31 - i)) hi
    simpa [bC] using this
  · rw [decide_eq_false hy] at hp2
    have HSG := Lib.hid (show 2 + y % 2 = 2 by omega)
    clear hy
    obtain ⟨cA0, cA1, cA2, cA3, cA4, cA5, cA6, cA7, cA8⟩ := row9c hA
    go_upto_region 10 with fail
    refine wp_region_list ?_
    refine wpList_plain rfl (fun K hK => ?_)
    go_simp
    refine hK _ _ ?_
    clear hK K
    refine wpList_plain rfl (fun K hK => ?_)
    go_simp
    refine hK _ _ ?_
    clear hK K
    obtain ⟨V6, hW⟩ : ∃ V, V5.alloc (.cells #[.int .u8 2] 5 (0, 0)) = V := ⟨_, rfl⟩
    rw [hW]
    obtain ⟨d6, hbx⟩ : ∃ n, V5.heap.size = n := ⟨_, rfl⟩
    rw [hbx]
    have hNEW : V6.heap[d6]? = some (.cells #[.int .u8 2] 5 (0, 0)) := by rw [← hW, ← hbx]; exact heap_alloc_new _ _
    have lD6A : w.heap.size < d6 := by rw [← hbx]; exact lt_of_heap hA
    replace hA : V6.heap[w.heap.size]? = some (.cells #[.int .u64 (w0 (x) : Nat), .int .u64 (w1 (x) : Nat), .int .u64 (w2 (x) : Nat), .int .u64 (w3 (x) : Nat), .int .u64 (w0 (y) : Nat), .int .u64 (w1 (y) : Nat), .int .u64 (w2 (y) : Nat), .int .u64 (w3 (y) : Nat), .bool false] 52 (0, 0)) := by rw [← hW]; exact ak hA
    have lD6D3 : d3 < d6 := by rw [← hbx]; exact lt_of_heap hD3
    replace hD3 : V6.heap[d3]? = some (.cells (bA fun i => byt x (31 - i)) 67 (0, 0)) := by rw [← hW]; exact ak hD3
    have lD6 : w.heap.size ≤ d6 := by rw [← hbx]; exact kk.size
    replace kk : Below w.heap.size w V6 := by rw [← hW]; exact bal kk _
    have hD6 := hNEW
    clear hNEW hW hbx
    refine wpList_plain rfl (fun K hK => ?_)
    go_simp
    refine hK _ _ ?_
    clear hK K
    refine wpList_append_lies _ rfl _ _ 63 (by rfl) w.heap.size 5 i5 z5 1 1 Try.underlying63 e1 e2 e3 e4 e5 (by decide) (.slice (some ⟨d6, 0, none⟩) 1 1) 1 [.int .u8 2] (by rfl) ⟨rfl, Or.inr ⟨d6, 1, #[.int .u8 2], rfl, lD6, hD6, by decide, by decide, rfl, rfl⟩⟩ ⟨d3, 0, none⟩ 32 32 (bA fun i => byt x (31 - i)).toList (by rfl) (by simp [bA_size]) (World.news_of_block hD3) (fun u hu => (Array.all_eq_true_iff_forall_mem.1 (bA_one _)) u (by simpa using hu)) (by decide) (by decide) (by decide) kk.size V6.heap.size rfl ?_
    intro g cap w1 hown hgrow hat hlt
    have k9 := Below.grown kk hgrow kk.size (fun k hk => by cases hk; exact lD6)
    go_wp2_with fail
    refine bodyPost_ret (v := _) (by simp [results, Try.results45, go_sem]; rfl) rfl ?_
    refine ⟨g, cap, rfl, owns_cap hown, (owns_cells hown 0 _ rfl).2, ⟨by rw [HSG.out]; exact (owns_cells hown 0 _ rfl).1, fun i hi => (owns_cells hown (i + 1) _ ?_).1⟩, k9⟩
    have := bA_get (fun i => byt x (31 - i)) hi
    simpa [bC] using this
end Go.Proofs.Ytgghopmlcpcpkaa
namespace Go.Proofs.Ytgghopmlcpcpkaa
open Go.RowKit PlainK
set_option linter.unusedVariables false
set_option linter.unusedSimpArgs false
set_option maxRecDepth 10000 in
set_option maxHeartbeats 8000000 in
theorem parse_far {a : Option Addr} {n cap : Nat} (h1 : n ≠ 1) (h33 : n ≠ 33) (w : World) :
   Calls Try.prog 46 #[.slice a n cap] w fun e w' => e = .returned (.tuple #[.agg #[.int .u64 0, .int .u64 0, .int .u64 0, .int .u64 0, .int .u64 0, .int .u64 0, .int .u64 0, .int .u64 0, .bool false], .int .i64 2]) ∧ Below w.heap.size w w' := by
  have k1 : ¬ (n : Int) = 1 := by omega
  have k2 : ¬ (n : Int) = 33 := by omega
  go_enter Try.func46, Try.ntmps46
  go_upto_region 1 with fail
  obtain ⟨V0, hW⟩ : ∃ V, w.alloc (.cells #[.int .u64 0, .int .u64 0, .int .u64 0, .int .u64 0, .int .u64 0, .int .u64 0, .int .u64 0, .int .u64 0, .bool false] 52) = V := ⟨_, rfl⟩
  rw [hW]
  have hR : V0.heap[w.heap.size]? = some (.cells #[.int .u64 0, .int .u64 0, .int .u64 0, .int .u64 0, .int .u64 0, .int .u64 0, .int .u64 0, .int .u64 0, .bool false] 52 (0, 0)) := by
    rw [← hW]; simp only [alloc_at, World.size_alloc]; repeat (first | rw [if_pos trivial] | rw [if_pos (by omega)] | rw [if_neg (by omega)])
  have kk : Below w.heap.size w V0 := by
    rw [← hW]
    repeat (first | exact Below.refl _ _ | refine Below.drew ?_ | refine bal ?_ _)
  clear hW
  obtain ⟨cR0, cR1, cR2, cR3, cR4, cR5, cR6, cR7, cR8⟩ := row9c hR
  obtain ⟨zR0, zR1, zR2, zR3, zR4, zR5, zR6, zR7, zR8⟩ := row9z hR
  go_wp2_with fail
  have P := put9 (.int .u64 0) (.int .u64 0) (.int .u64 0) (.int .u64 0) (.int .u64 0) (.int .u64 0) (.int .u64 0) (.int .u64 0) (.bool false) hR
  replace P := put_hid P
  obtain ⟨V9, hV9, P⟩ := P
  rw [hV9]
  have P9 := P.here
  have k9 := P.below (by omega) (show Below w.heap.size w V0 from by first | exact kk | exact kk.drew | exact below_drewN kk _)
  obtain ⟨v0, v1, v2, v3, v4, v5, v6, v7, v8⟩ := row9c P9
  refine bodyPost_ret (v := _) (by simp [results, Try.results46, go_sem, v0, v1, v2, v3, v4, v5, v6, v7, v8]; rfl) rfl ?_
  exact ⟨rfl, k9⟩
set_option maxRecDepth 10000 in
set_option maxHeartbeats 8000000 in
theorem parse_none {b o cap : Nat} {f : Nat → Nat} (h0 : f 0 = 0) (w : World) (hc : ∀ i, i < 1 → w.cell? ⟨b, o + i, none⟩ = some (.int .u8 (f i : Nat))) :
   Calls Try.prog 46 #[.slice (some ⟨b, o, none⟩) 1 cap] w fun e w' => e = .returned (.tuple #[.agg #[.int .u64 0, .int .u64 0, .int .u64 0, .int .u64 0, .int .u64 0, .int .u64 0, .int .u64 0, .int .u64 0, .bool true], .int .i64 0]) ∧ Below w.heap.size w w' := by
  have g0 := hc 0 (by omega)
  rw [h0] at g0
  have lb := World.block_lt_of_cell? w _ g0
  go_enter Try.func46, Try.ntmps46
  go_upto_region 1 with fail
  obtain ⟨V0, hW⟩ : ∃ V, w.alloc (.cells #[.int .u64 0, .int .u64 0, .int .u64 0, .int .u64 0, .int .u64 0, .int .u64 0, .int .u64 0, .int .u64 0, .bool false] 52) = V := ⟨_, rfl⟩
  rw [hW]
  have hR : V0.heap[w.heap.size]? = some (.cells #[.int .u64 0, .int .u64 0, .int .u64 0, .int .u64 0, .int .u64 0, .int .u64 0, .int .u64 0, .int .u64 0, .bool false] 52 (0, 0)) := by
    rw [← hW]; simp only [alloc_at, World.size_alloc]; repeat (first | rw [if_pos trivial] | rw [if_pos (by omega)] | rw [if_neg (by omega)])
  have kk : Below w.heap.size w V0 := by
    rw [← hW]
    repeat (first | exact Below.refl _ _ | refine Below.drew ?_ | refine bal ?_ _)
  clear hW
  have g1 : V0.cell? ⟨b, o, none⟩ = some _ := (kk.cell (p := ⟨b, o, none⟩) lb).trans g0
  clear g0
  obtain ⟨cR0, cR1, cR2, cR3, cR4, cR5, cR6, cR7, cR8⟩ := row9c hR
  obtain ⟨zR0, zR1, zR2, zR3, zR4, zR5, zR6, zR7, zR8⟩ := row9z hR
  go_wp2_with fail
  have P := put9 (.int .u64 0) (.int .u64 0) (.int .u64 0) (.int .u64 0) (.int .u64 0) (.int .u64 0) (.int .u64 0) (.int .u64 0) (.bool true) hR
  replace P := put_hid P
  obtain ⟨V9, hV9, P⟩ := P
  rw [hV9]
  have P9 := P.here
  have k9 := P.below (by omega) (show Below w.heap.size w V0 from by first | exact kk | exact kk.drew | exact below_drewN kk _)
  obtain ⟨v0, v1, v2, v3, v4, v5, v6, v7, v8⟩ := row9c P9
  refine bodyPost_ret (v := _) (by simp [results, Try.results46, go_sem, v0, v1, v2, v3, v4, v5, v6, v7, v8]; rfl) rfl ?_
  exact ⟨rfl, k9⟩
set_option maxRecDepth 10000 in
set_option maxHeartbeats 8000000 in
theorem parse_one {b o cap : Nat} {f : Nat → Nat} (h0 : f 0 ≠ 0) (w : World) (hc : ∀ i, i < 1 → w.cell? ⟨b, o + i, none⟩ = some (.int .u8 (f i : Nat))) :
   Calls Try.prog 46 #[.slice (some ⟨b, o, none⟩) 1 cap] w fun e w' => e = .returned (.tuple #[.agg #[.int .u64 0, .int .u64 0, .int .u64 0, .int .u64 0, .int .u64 0, .int .u64 0, .int .u64 0, .int .u64 0, .bool false], .int .i64 2]) ∧ Below w.heap.size w w' := by
  have g0 := hc 0 (by omega)
  have k0 : ¬ ((f 0 : Nat) : Int) = 0 := by omega
  have lb := World.block_lt_of_cell? w _ g0
  go_enter Try.func46, Try.ntmps46
  go_upto_region 1 with fail
  obtain ⟨V0, hW⟩ : ∃ V, w.alloc (.cells #[.int .u64 0, .int .u64 0, .int .u64 0, .int .u64 0, .int .u64 0, .int .u64 0, .int .u64 0, .int .u64 0, .bool false] 52) = V := ⟨_, rfl⟩
  rw [hW]
  have hR : V0.heap[w.heap.size]? = some (.cells #[.int .u64 0, .int .u64 0, .int .u64 0, .int .u64 0, .int .u64 0, .int .u64 0, .int .u64 0, .int .u64 0, .bool false] 52 (0, 0)) := by
    rw [← hW]; simp only [alloc_at, World.size_alloc]; repeat (first | rw [if_pos trivial] | rw [if_pos (by omega)] | rw [if_neg (by omega)])
  have kk : Below w.heap.size w V0 := by
    rw [← hW]
    repeat (first | exact Below.refl _ _ | refine Below.drew ?_ | refine bal ?_ _)
  clear hW
  have g1 : V0.cell? ⟨b, o, none⟩ = some _ := (kk.cell (p := ⟨b, o, none⟩) lb).trans g0
  clear g0
  obtain ⟨cR0, cR1, cR2, cR3, cR4, cR5, cR6, cR7, cR8⟩ := row9c hR
  obtain ⟨zR0, zR1, zR2, zR3, zR4, zR5, zR6, zR7, zR8⟩ := row9z hR
  go_wp2_with fail
  have P := put9 (.int .u64 0) (.int .u64 0) (.int .u64 0) (.int .u64 0) (.int .u64 0) (.int .u64 0) (.int .u64 0) (.int .u64 0) (.bool false) hR
  replace P := put_hid P
  obtain ⟨V9, hV9, P⟩ := P
  rw [hV9]
  have P9 := P.here
  have k9 := P.below (by omega) (show Below w.heap.size w V0 from by first | exact kk | exact kk.drew | exact below_drewN kk _)
  obtain ⟨v0, v1, v2, v3, v4, v5, v6, v7, v8⟩ := row9c P9
  refine bodyPost_ret (v := _) (by simp [results, Try.results46, go_sem, v0, v1, v2, v3, v4, v5, v6, v7, v8]; rfl) rfl ?_
  exact ⟨rfl, k9⟩
set_option maxRecDepth 10000 in
set_option maxHeartbeats 8000000 in
theorem parse_sign {b o cap : Nat} {f : Nat → Nat} (h2 : f 0 ≠ 2) (h3 : f 0 ≠ 3) (w : World) (hc : ∀ i, i < 33 → w.cell? ⟨b, o + i, none⟩ = some (.int .u8 (f i : Nat))) :
   Calls Try.prog 46 #[.slice (some ⟨b, o, none⟩) 33 cap] w fun e w' => e = .returned (.tuple #[.agg #[.int .u64 0, .int .u64 0, .int .u64 0, .int .u64 0, .int .u64 0, .int .u64 0, .int .u64 0, .int .u64 0, .bool false], .int .i64 2]) ∧ Below w.heap.size w w' := by
  have g0 := hc 0 (by omega)
  have k2 : (((f 0 : Nat) : Int) != 2) = true := bne_iff_ne.2 (by omega)
  have k3 : (((f 0 : Nat) : Int) != 3) = true := bne_iff_ne.2 (by omega)
  have lb := World.block_lt_of_cell? w _ g0
  go_enter Try.func46, Try.ntmps46
  go_upto_region 1 with fail
  obtain ⟨V0, hW⟩ : ∃ V, w.alloc (.cells #[.int .u64 0, .int .u64 0, .int .u64 0, .int .u64 0, .int .u64 0, .int .u64 0, .int .u64 0, .int .u64 0, .bool false] 52) = V := ⟨_, rfl⟩
  rw [hW]
  have hR : V0.heap[w.heap.size]? = some (.cells #[.int .u64 0, .int .u64 0, .int .u64 0, .int .u64 0, .int .u64 0, .int .u64 0, .int .u64 0, .int .u64 0, .bool false] 52 (0, 0)) := by
    rw [← hW]; simp only [alloc_at, World.size_alloc]; repeat (first | rw [if_pos trivial] | rw [if_pos (by omega)] | rw [if_neg (by omega)])
  have kk : Below w.heap.size w V0 := by
    rw [← hW]
    repeat (first | exact Below.refl _ _ | refine Below.drew ?_ | refine bal ?_ _)
  clear hW
  have g1 : V0.cell? ⟨b, o, none⟩ = some _ := (kk.cell (p := ⟨b, o, none⟩) lb).trans g0
  clear g0
  obtain ⟨cR0, cR1, cR2, cR3, cR4, cR5, cR6, cR7, cR8⟩ := row9c hR
  obtain ⟨zR0, zR1, zR2, zR3, zR4, zR5, zR6, zR7, zR8⟩ := row9z hR
  go_wp2_with fail
  have P := put9 (.int .u64 0) (.int .u64 0) (.int .u64 0) (.int .u64 0) (.int .u64 0) (.int .u64 0) (.int .u64 0) (.int .u64 0) (.bool false) hR
  replace P := put_hid P
  obtain ⟨V9, hV9, P⟩ := P
  rw [hV9]
  have P9 := P.here
  have k9 := P.below (by omega) (show Below w.heap.size w V0 from by first | exact kk | exact kk.drew | exact below_drewN kk _)
  obtain ⟨v0, v1, v2, v3, v4, v5, v6, v7, v8⟩ := row9c P9
  refine bodyPost_ret (v := _) (by simp [results, Try.results46, go_sem, v0, v1, v2, v3, v4, v5, v6, v7, v8]; rfl) rfl ?_
  exact ⟨rfl, k9⟩
/-- the number of a point's bytes -/
def xOf (f : Nat → Nat) : Nat := leN (fun i => f (32 - i)) 32
set_option maxRecDepth 10000 in
set_option maxHeartbeats 8000000 in
theorem parse_go2 {b o cap : Nat} {f : Nat → Nat} (hod : f 0 = 2) (hf : ∀ i, f i < 256) (hcap : 33 ≤ cap) (w : World) (hc : ∀ i, i < 33 → w.cell? ⟨b, o + i, none⟩ = some (.int .u8 (f i : Nat)))
   {xr yr : Nat} {er : Int} {br : Bool} (hL : ∀ u : World, Calls Try.prog 72 #[.agg #[.int .u64 (w0 (xOf f) : Nat), .int .u64 (w1 (xOf f) : Nat), .int .u64 (w2 (xOf f) : Nat), .int .u64 (w3 (xOf f) : Nat)], .bool false] u fun e w' => e = .returned (.tuple #[.agg #[.int .u64 (w0 (xr) : Nat), .int .u64 (w1 (xr) : Nat), .int .u64 (w2 (xr) : Nat), .int .u64 (w3 (xr) : Nat), .int .u64 (w0 (yr) : Nat), .int .u64 (w1 (yr) : Nat), .int .u64 (w2 (yr) : Nat), .int .u64 (w3 (yr) : Nat), .bool br], .int .i64 er]) ∧ Below u.heap.size u w') :
   Calls Try.prog 46 #[.slice (some ⟨b, o, none⟩) 33 cap] w fun e w' => e = .returned (.tuple (if er = 0 then #[.agg #[.int .u64 (w0 (xr) : Nat), .int .u64 (w1 (xr) : Nat), .int .u64 (w2 (xr) : Nat), .int .u64 (w3 (xr) : Nat), .int .u64 (w0 (yr) : Nat), .int .u64 (w1 (yr) : Nat), .int .u64 (w2 (yr) : Nat), .int .u64 (w3 (yr) : Nat), .bool br], .int .i64 0] else #[.agg #[.int .u64 0, .int .u64 0, .int .u64 0, .int .u64 0, .int .u64 0, .int .u64 0, .int .u64 0, .int .u64 0, .bool false], .int .i64 2])) ∧ Below w.heap.size w w' := by
  have g0 := hc 0 (by omega)
  rw [hod] at g0
  have lb := World.block_lt_of_cell? w _ g0
  have hR1 : w.rangeAt b (o + 1) (bA fun i => f (i + 1)).toList := by
    intro j v hj
    have hj' : (bA fun i => f (i + 1))[j]? = some v := by simpa using hj
    by_cases h : j < 32
    · rw [bA_get _ h] at hj'
      injection hj' with hj'
      subst hj'
      have := hc (j + 1) (by omega)
      rw [show o + 1 + j = o + (j + 1) by omega]
      exact this
    · rw [bA_none _ h] at hj'; cases hj'
  have HF := Lib.hid hf
  have HL := Lib.hid hL
  have lc : b < w.heap.size := lb
  clear hc hf hL hod
  have kc : (33 : Int) ≤ (cap : Int) := by omega
  go_enter Try.func46, Try.ntmps46
  go_upto_region 1 with fail
  obtain ⟨V0, hW⟩ : ∃ V, w.alloc (.cells #[.int .u64 0, .int .u64 0, .int .u64 0, .int .u64 0, .int .u64 0, .int .u64 0, .int .u64 0, .int .u64 0, .bool false] 52) = V := ⟨_, rfl⟩
  rw [hW]
  have hR : V0.heap[w.heap.size]? = some (.cells #[.int .u64 0, .int .u64 0, .int .u64 0, .int .u64 0, .int .u64 0, .int .u64 0, .int .u64 0, .int .u64 0, .bool false] 52 (0, 0)) := by
    rw [← hW]; simp only [alloc_at, World.size_alloc]; repeat (first | rw [if_pos trivial] | rw [if_pos (by omega)] | rw [if_neg (by omega)])
  have kk : Below w.heap.size w V0 := by
    rw [← hW]
    repeat (first | exact Below.refl _ _ | refine Below.drew ?_ | refine bal ?_ _)
  clear hW
  have g1 : V0.cell? ⟨b, o, none⟩ = some _ := (kk.cell (p := ⟨b, o, none⟩) lb).trans g0
  have hR2 : V0.rangeAt b (o + 1) (bA fun i => f (i + 1)).toList := fun j v hj => (kk.cell (p := ⟨b, o + 1 + j, none⟩) lb).trans (hR1 j v hj)
  have lbn : b ≠ w.heap.size := Nat.ne_of_lt lc
  have HG0 := Lib.hid g0
  clear g0
  have kc1 : ¬ cap = 1 := by omega
  go_upto_region 5 with fail
  refine wp_region_list ?_
  refine wpList_plain rfl (fun K hK => ?_)
  go_simp
  refine hK _ _ ?_
  clear hK K
  refine wpList_plain rfl (fun K hK => ?_)
  go_simp
  refine hK _ _ ?_
  clear hK K
  refine wpList_plain rfl (fun K hK => ?_)
  go_simp
  refine hK _ _ ?_
  clear hK K
  refine wpList_load_mid rfl 67 _ rfl b (o + 1) (by rfl) (bA fun i => f (i + 1)).toList _ hR2 Try.underlying67 rfl (by rw [Array.length_toList]; exact bA_info _) ?_
  rw [Array.toArray_toList]
  refine wpList_plain rfl (fun K hK => ?_)
  go_simp
  refine hK _ _ ?_
  clear hK K
  obtain ⟨V1, hW⟩ : ∃ V, V0.alloc (.cells #[.int .u8 0, .int .u8 0, .int .u8 0, .int .u8 0, .int .u8 0, .int .u8 0, .int .u8 0, .int .u8 0, .int .u8 0, .int .u8 0, .int .u8 0, .int .u8 0, .int .u8 0, .int .u8 0, .int .u8 0, .int .u8 0, .int .u8 0, .int .u8 0, .int .u8 0, .int .u8 0, .int .u8 0, .int .u8 0, .int .u8 0, .int .u8 0, .int .u8 0, .int .u8 0, .int .u8 0, .int .u8 0, .int .u8 0, .int .u8 0, .int .u8 0, .int .u8 0] 67 (0, 0)) = V := ⟨_, rfl⟩
  rw [hW]
  obtain ⟨d4, hbx⟩ : ∃ n, V0.heap.size = n := ⟨_, rfl⟩
  rw [hbx]
  have hNEW : V1.heap[d4]? = some (.cells #[.int .u8 0, .int .u8 0, .int .u8 0, .int .u8 0, .int .u8 0, .int .u8 0, .int .u8 0, .int .u8 0, .int .u8 0, .int .u8 0, .int .u8 0, .int .u8 0, .int .u8 0, .int .u8 0, .int .u8 0, .int .u8 0, .int .u8 0, .int .u8 0, .int .u8 0, .int .u8 0, .int .u8 0, .int .u8 0, .int .u8 0, .int .u8 0, .int .u8 0, .int .u8 0, .int .u8 0, .int .u8 0, .int .u8 0, .int .u8 0, .int .u8 0, .int .u8 0] 67 (0, 0)) := by rw [← hW, ← hbx]; exact heap_alloc_new _ _
  have lD4R : w.heap.size < d4 := by rw [← hbx]; exact lt_of_heap hR
  replace hR : V1.heap[w.heap.size]? = some (.cells #[.int .u64 0, .int .u64 0, .int .u64 0, .int .u64 0, .int .u64 0, .int .u64 0, .int .u64 0, .int .u64 0, .bool false] 52 (0, 0)) := by rw [← hW]; exact ak hR
  have lD4 : w.heap.size ≤ d4 := by rw [← hbx]; exact kk.size
  replace kk : Below w.heap.size w V1 := by rw [← hW]; exact bal kk _
  have hD4 := hNEW
  clear hNEW hW hbx
  rw [bA_zero] at hD4
  refine st67l rfl rfl (g := d4) rfl rfl hD4 ?_
  have ldb : b < d4 := Nat.lt_of_lt_of_le lc lD4
  have P := putRow (cs := bA (fun i => f (i + 1))) hD4
  obtain ⟨V2, hW⟩ : ∃ V, World.setRow V1 (d4) (bA (fun i => f (i + 1))) = V := ⟨_, rfl⟩
  rw [hW] at P ⊢
  replace hD4 := P.here
  replace hR := (P.there (w.heap.size) (by omega)).trans (show _ = some (.cells #[.int .u64 0, .int .u64 0, .int .u64 0, .int .u64 0, .int .u64 0, .int .u64 0, .int .u64 0, .int .u64 0, .bool false] 52 (0, 0)) from hR)
  replace kk := P.below (by omega) (show Below w.heap.size w V1 from by first | exact kk | exact kk.drew | exact below_drewN kk _)
  clear P hW
  go_wp2_with fail
  refine (reverse_any _ hD4).mono ?_
  rintro e V3 ⟨rfl, P⟩
  replace hR := (P.there (w.heap.size) (by omega)).trans hR
  replace kk := P.below (B := w.heap.size) (w := w) (by omega) (by first | exact kk | exact kk.drew)
  replace hD4 := P.here
  rw [bA_ext (g := fun i => f (32 - i)) (fun i hi => by show f (31 - i + 1) = _; rw [show 31 - i + 1 = 32 - i by omega])] at hD4
  clear P hR2 hR1 g1
  have hcb : V3.cell? ⟨b, o, none⟩ = some (.int .u8 2) := (kk.cell (p := ⟨b, o, none⟩) lb).trans HG0.out
  have lb3 : b < V3.heap.size := World.block_lt_of_cell? V3 _ hcb
  go_upto_region 7 with fail
  obtain ⟨S0, hS0⟩ : ∃ S : World → Prop, S = (fun w' => w'.heap[d4]? = some (.cells (bA fun i => f (32 - i)) 67 (0, 0)) ∧ w'.cell? ⟨b, o, none⟩ = some (.int .u8 2)) := ⟨_, rfl⟩
  have hSJ : ∀ w', Below V3.heap.size V3 w' → S0 w' := by intro w' hb; rw [hS0]; exact ⟨below_get hb hD4, (hb.cell (p := ⟨b, o, none⟩) lb3).trans hcb⟩
  refine startT (S := S0) 12 (by kernel_rfl) (by rw [hS0]; exact ⟨hD4, hcb⟩) (fun hHeld => ?_)
  refine takeT (i := 0) (d := some 40) (v := .agg (bA fun i => f (32 - i))) _ rfl rfl (by rfl) (by kernel_rfl) (by decide) (by kernel_rfl) (by kernel_rfl) (by kernel_rfl) (fun _ _ _ h => h) (by assumption) (by kernel_rfl) ?_ ?_
  · (intro w' hSw; rw [hS0] at hSw; exact ldx67 (by rfl) (by rfl) hSw.1)
  try simp only [ptr, Act.put, List.setIfInBounds_toArray, List.set_cons_zero, List.set_cons_succ]
  refine takeT (i := 2) (d := some 42) (v := ?_) _ rfl rfl (by rfl) (by kernel_rfl) (by decide) (by kernel_rfl) (by kernel_rfl) (by kernel_rfl) (fun _ _ _ h => h) (by assumption) (by kernel_rfl) ?_ ?_
  rotate_left
  · (first | (intro w' hSw; clear hSw; go_simp; try (with_reducible rfl)) | (intro w'; go_simp; try (with_reducible rfl)))
  try simp only [ptr, Act.put, List.setIfInBounds_toArray, List.set_cons_zero, List.set_cons_succ]
  refine takeT (i := 3) (d := some 43) (v := ?_) _ rfl rfl (by rfl) (by kernel_rfl) (by decide) (by kernel_rfl) (by kernel_rfl) (by kernel_rfl) (fun _ _ _ h => h) (by assumption) (by kernel_rfl) ?_ ?_
  rotate_left
  · (first | (intro w' hSw; clear hSw; go_simp; try (with_reducible rfl)) | (intro w'; go_simp; try (with_reducible rfl)))
  try simp only [ptr, Act.put, List.setIfInBounds_toArray, List.set_cons_zero, List.set_cons_succ]
  refine takeT (i := 4) (d := some 44) (v := ?_) _ rfl rfl (by rfl) (by kernel_rfl) (by decide) (by kernel_rfl) (by kernel_rfl) (by kernel_rfl) (fun _ _ _ h => h) (by assumption) (by kernel_rfl) ?_ ?_
  rotate_left
  · (intro w' hSw; rw [hS0] at hSw; obtain ⟨sv1, sv2⟩ := hSw; clear sv1; go_simp; try (with_reducible rfl))
  try simp only [ptr, Act.put, List.setIfInBounds_toArray, List.set_cons_zero, List.set_cons_succ]
  refine takeT (i := 5) (d := some 45) (v := ?_) _ rfl rfl (by rfl) (by kernel_rfl) (by decide) (by kernel_rfl) (by kernel_rfl) (by kernel_rfl) (fun _ _ _ h => h) (by assumption) (by kernel_rfl) ?_ ?_
  rotate_left
  · (first | (intro w' hSw; clear hSw; go_simp; try (with_reducible rfl)) | (intro w'; go_simp; try (with_reducible rfl)))
  try simp only [ptr, Act.put, List.setIfInBounds_toArray, List.set_cons_zero, List.set_cons_succ]
  refine NK1.start (w0 := V3) (x1 := undef) 10 5 (.cells #[.int .u64 0, .int .u64 0, .int .u64 0, .int .u64 0, .int .u64 0, .int .u64 0, .int .u64 0, .int .u64 0, .bool false] 52 (0, 0)) (Below.refl _ _).drew (by (simp only [Act.put, List.setIfInBounds_toArray, List.set_cons_zero, List.set_cons_succ])) ⟨⟨_, rfl, fun _ => rfl, fun a1 w1 K hK => by go_simp; exact hK⟩⟩ (fun m1 => ?_)
  refine NK1.step (i := 1) (d := 41) (F := fun vv => vv = .agg #[.int .u64 (w0 (xOf f) : Nat), .int .u64 (w1 (xOf f) : Nat), .int .u64 (w2 (xOf f) : Nat), .int .u64 (w3 (xOf f) : Nat)]) m1 hSJ (by decide) (by decide) (by kernel_rfl) (by kernel_rfl) ⟨⟨_, rfl, fun _ => rfl, fun yv1 u1 hJ1 K hK => ?_⟩⟩ ?_
  · try simp only [ptr, Act.put, List.setIfInBounds_toArray, List.set_cons_zero, List.set_cons_succ]
    go_simp
    refine (from_any (f := fun i => f (32 - i)) (fun i => HF.out _) _).mono ?_
    rintro e U ⟨rfl, hb⟩
    have h2 := hK.out _ _ rfl hb
    try simp only [ptr, Act.put, List.setIfInBounds_toArray, List.set_cons_zero, List.set_cons_succ] at h2
    exact h2
  rintro vv rfl
  refine NK1.step (i := 6) (d := 46) (F := fun vv => vv = .tuple #[.agg #[.int .u64 (w0 (xr) : Nat), .int .u64 (w1 (xr) : Nat), .int .u64 (w2 (xr) : Nat), .int .u64 (w3 (xr) : Nat), .int .u64 (w0 (yr) : Nat), .int .u64 (w1 (yr) : Nat), .int .u64 (w2 (yr) : Nat), .int .u64 (w3 (yr) : Nat), .bool br], .int .i64 er]) m1 hSJ (by decide) (by decide) (by kernel_rfl) (by kernel_rfl) ⟨⟨_, rfl, fun _ => rfl, fun yv1 u1 hJ1 K hK => ?_⟩⟩ ?_
  · try simp only [ptr, Act.put, List.setIfInBounds_toArray, List.set_cons_zero, List.set_cons_succ]
    go_simp
    refine (HL.out _).mono ?_
    rintro e U ⟨rfl, hb⟩
    have h2 := hK.out _ _ rfl hb
    try simp only [ptr, Act.put, List.setIfInBounds_toArray, List.set_cons_zero, List.set_cons_succ] at h2
    exact h2
  rintro vv rfl
  refine NK1.step (i := 7) (d := 39) (F := fun vv => vv = .tuple #[.agg #[.int .u64 (w0 (xr) : Nat), .int .u64 (w1 (xr) : Nat), .int .u64 (w2 (xr) : Nat), .int .u64 (w3 (xr) : Nat), .int .u64 (w0 (yr) : Nat), .int .u64 (w1 (yr) : Nat), .int .u64 (w2 (yr) : Nat), .int .u64 (w3 (yr) : Nat), .bool br], .int .i64 er]) m1 hSJ (by decide) (by decide) (by kernel_rfl) (by kernel_rfl) ⟨⟨_, rfl, fun _ => rfl, fun yv1 u1 hJ1 K hK => ?_⟩⟩ ?_
  · try simp only [ptr, Act.put, List.setIfInBounds_toArray, List.set_cons_zero, List.set_cons_succ]
    go_simp
    have h2 := hK.out _ _ rfl (Below.refl _ _)
    try simp only [ptr, Act.put, List.setIfInBounds_toArray, List.set_cons_zero, List.set_cons_succ] at h2
    exact h2
  rintro vv rfl
  refine NK1.takeW (i := 8) (d := 47) (v := .agg #[.int .u64 (w0 (xr) : Nat), .int .u64 (w1 (xr) : Nat), .int .u64 (w2 (xr) : Nat), .int .u64 (w3 (xr) : Nat), .int .u64 (w0 (yr) : Nat), .int .u64 (w1 (yr) : Nat), .int .u64 (w2 (yr) : Nat), .int .u64 (w3 (yr) : Nat), .bool br]) _ rfl rfl (fun _ => rfl) (by kernel_rfl) (by decide) (by decide) (by decide) (by kernel_rfl) (by kernel_rfl) (by kernel_rfl) (by kernel_rfl) (fun _ _ _ h => h) hSJ (by kernel_rfl) (by kernel_rfl) (fun x w1 => by (try simp only [ptr, Act.put, List.setIfInBounds_toArray, List.set_cons_zero, List.set_cons_succ]); go_simp) ?_
  refine NK1.takeW (i := 9) (d := 48) (v := .int .i64 er) _ rfl rfl (fun _ => rfl) (by kernel_rfl) (by decide) (by decide) (by decide) (by kernel_rfl) (by kernel_rfl) (by kernel_rfl) (by kernel_rfl) (fun _ _ _ h => h) hSJ (by kernel_rfl) (by kernel_rfl) (fun x w1 => by (try simp only [ptr, Act.put, List.setIfInBounds_toArray, List.set_cons_zero, List.set_cons_succ]); go_simp) ?_
  refine NK1.last m1 hSJ (by kernel_rfl) (fun V4a bd5 hb o1 => ?_)
  clear m1
  try simp only [ptr, Act.put, List.setIfInBounds_toArray, List.set_cons_zero, List.set_cons_succ]
  have hD5 := o1.here
  have lD5 := o1.new
  have lD5w : w.heap.size < bd5 := Nat.lt_of_lt_of_le (lt_of_heap hR) o1.new
  obtain ⟨cD50, cD51, cD52, cD53, cD54, cD55, cD56, cD57, cD58⟩ := row9c hD5
  obtain ⟨zD50, zD51, zD52, zD53, zD54, zD55, zD56, zD57, zD58⟩ := row9z hD5
  refine callT (i := 11) _ rfl (by rfl) (by kernel_rfl) (fun K hK => ?_)
  go_simp
  have P := put9 (.int .u64 (w0 (xr) : Nat)) (.int .u64 (w1 (xr) : Nat)) (.int .u64 (w2 (xr) : Nat)) (.int .u64 (w3 (xr) : Nat)) (.int .u64 (w0 (yr) : Nat)) (.int .u64 (w1 (yr) : Nat)) (.int .u64 (w2 (yr) : Nat)) (.int .u64 (w3 (yr) : Nat)) (.bool br) hD5
  replace P := put_hid P
  obtain ⟨V4, hW, P⟩ := P
  rw [hW]
  have J4 := P.below (B := V3.heap.size) (w := V3) o1.new hb
  refine hK.out _ _ (Or.inr (hSJ _ J4)) ?_
  clear hK K
  try simp only [ptr, Act.put, List.setIfInBounds_toArray, List.set_cons_zero, List.set_cons_succ]
  refine callT (i := 12) _ rfl (by rfl) (by kernel_rfl) (fun K hK => ?_)
  go_simp
  refine hK.out _ _ (Or.inl (by kernel_rfl)) ?_
  clear hK K
  try simp only [ptr, Act.put, List.setIfInBounds_toArray, List.set_cons_zero, List.set_cons_succ]
  refine doneT (by kernel_rfl) ?_ _
  go_simp
  have hR4 := below_get J4 hR
  replace kk := bcl kk J4
  replace hD5 := P.here
  replace hR := hR4
  clear hHeld hSJ hS0 S0 P hW J4 hb hD4 hcb cD50 cD51 cD52 cD53 cD54 cD55 cD56 cD57 cD58 zD50 zD51 zD52 zD53 zD54 zD55 zD56 zD57 zD58 o1 hR4
  by_cases her : er = 0
  · subst her
    obtain ⟨cR0, cR1, cR2, cR3, cR4, cR5, cR6, cR7, cR8⟩ := row9c hR
    obtain ⟨zR0, zR1, zR2, zR3, zR4, zR5, zR6, zR7, zR8⟩ := row9z hR
    obtain ⟨cD50, cD51, cD52, cD53, cD54, cD55, cD56, cD57, cD58⟩ := row9c hD5
    obtain ⟨zD50, zD51, zD52, zD53, zD54, zD55, zD56, zD57, zD58⟩ := row9z hD5
    go_wp2_with fail
    have P := put9 (.int .u64 (w0 (xr) : Nat)) (.int .u64 (w1 (xr) : Nat)) (.int .u64 (w2 (xr) : Nat)) (.int .u64 (w3 (xr) : Nat)) (.int .u64 (w0 (yr) : Nat)) (.int .u64 (w1 (yr) : Nat)) (.int .u64 (w2 (yr) : Nat)) (.int .u64 (w3 (yr) : Nat)) (.bool br) hR
    replace P := put_hid P
    obtain ⟨V9, hV9, P⟩ := P
    rw [hV9]
    have P9 := P.here
    have k9 := P.below (by omega) (show Below w.heap.size w V4 from by first | exact kk | exact kk.drew | exact below_drewN kk _)
    obtain ⟨v0, v1, v2, v3, v4, v5, v6, v7, v8⟩ := row9c P9
    refine bodyPost_ret (v := _) (by simp [results, Try.results46, go_sem, v0, v1, v2, v3, v4, v5, v6, v7, v8]; rfl) rfl ?_
    exact ⟨by first | rfl | rw [if_pos rfl], k9⟩
  · have her1 : (er != 0) = true := bne_iff_ne.2 her
    have HE := Lib.hid her
    clear her
    obtain ⟨cR0, cR1, cR2, cR3, cR4, cR5, cR6, cR7, cR8⟩ := row9c hR
    obtain ⟨zR0, zR1, zR2, zR3, zR4, zR5, zR6, zR7, zR8⟩ := row9z hR
    go_wp2_with fail
    have P := put9 (.int .u64 0) (.int .u64 0) (.int .u64 0) (.int .u64 0) (.int .u64 0) (.int .u64 0) (.int .u64 0) (.int .u64 0) (.bool false) hR
    replace P := put_hid P
    obtain ⟨V9, hV9, P⟩ := P
    rw [hV9]
    have P9 := P.here
    have k9 := P.below (by omega) (show Below w.heap.size w V4 from by first | exact kk | exact kk.drew | exact below_drewN kk _)
    obtain ⟨v0, v1, v2, v3, v4, v5, v6, v7, v8⟩ := row9c P9
    refine bodyPost_ret (v := _) (by simp [results, Try.results46, go_sem, v0, v1, v2, v3, v4, v5, v6, v7, v8]; rfl) rfl ?_
    exact ⟨by first | rfl | rw [if_neg HE.out], k9⟩
set_option maxRecDepth 10000 in
set_option maxHeartbeats 8000000 in
theorem parse_go3 {b o cap : Nat} {f : Nat → Nat} (hod : f 0 = 3) (hf : ∀ i, f i < 256) (hcap : 33 ≤ cap) (w : World) (hc : ∀ i, i < 33 → w.cell? ⟨b, o + i, none⟩ = some (.int .u8 (f i : Nat)))
   {xr yr : Nat} {er : Int} {br : Bool} (hL : ∀ u : World, Calls Try.prog 72 #[.agg #[.int .u64 (w0 (xOf f) : Nat), .int .u64 (w1 (xOf f) : Nat), .int .u64 (w2 (xOf f) : Nat), .int .u64 (w3 (xOf f) : Nat)], .bool true] u fun e w' => e = .returned (.tuple #[.agg #[.int .u64 (w0 (xr) : Nat), .int .u64 (w1 (xr) : Nat), .int .u64 (w2 (xr) : Nat), .int .u64 (w3 (xr) : Nat), .int .u64 (w0 (yr) : Nat), .int .u64 (w1 (yr) : Nat), .int .u64 (w2 (yr) : Nat), .int .u64 (w3 (yr) : Nat), .bool br], .int .i64 er]) ∧ Below u.heap.size u w') :
   Calls Try.prog 46 #[.slice (some ⟨b, o, none⟩) 33 cap] w fun e w' => e = .returned (.tuple (if er = 0 then #[.agg #[.int .u64 (w0 (xr) : Nat), .int .u64 (w1 (xr) : Nat), .int .u64 (w2 (xr) : Nat), .int .u64 (w3 (xr) : Nat), .int .u64 (w0 (yr) : Nat), .int .u64 (w1 (yr) : Nat), .int .u64 (w2 (yr) : Nat), .int .u64 (w3 (yr) : Nat), .bool br], .int .i64 0] else #[.agg #[.int .u64 0, .int .u64 0, .int .u64 0, .int .u64 0, .int .u64 0, .int .u64 0, .int .u64 0, .int .u64 0, .bool false], .int .i64 2])) ∧ Below w.heap.size w w' := by
  have g0 := hc 0 (by omega)
  rw [hod] at g0
  have lb := World.block_lt_of_cell? w _ g0
  have hR1 : w.rangeAt b (o + 1) (bA fun i => f (i + 1)).toList := by
    intro j v hj
    have hj' : (bA fun i => f (i + 1))[j]? = some v := by simpa using hj
    by_cases h : j < 32
    · rw [bA_get _ h] at hj'
      injection hj' with hj'
      subst hj'
      have := hc (j + 1) (by omega)
      rw [show o + 1 + j = o + (j + 1) by omega]
      exact this
    · rw [bA_none _ h] at hj'; cases hj'
  have HF := Lib.hid hf
  have HL := Lib.hid hL
  have lc : b < w.heap.size := lb
  clear hc hf hL hod
  have kc : (33 : Int) ≤ (cap : Int) := by omega
  go_enter Try.func46, Try.ntmps46
  go_upto_region 1 with fail
  obtain ⟨V0, hW⟩ : ∃ V, w.alloc (.cells #[.int .u64 0, .int .u64 0, .int .u64 0, .int .u64 0, .int .u64 0, .int .u64 0, .int .u64 0, .int .u64 0, .bool false] 52) = V := ⟨_, rfl⟩
  rw [hW]
  have hR : V0.heap[w.heap.size]? = some (.cells #[.int .u64 0, .int .u64 0, .int .u64 0, .int .u64 0, .int .u64 0, .int .u64 0, .int .u64 0, .int .u64 0, .bool false] 52 (0, 0)) := by
    rw [← hW]; simp only [alloc_at, World.size_alloc]; repeat (first | rw [if_pos trivial] | rw [if_pos (by omega)] | rw [if_neg (by omega)])
  have kk : Below w.heap.size w V0 := by
    rw [← hW]
    repeat (first | exact Below.refl _ _ | refine Below.drew ?_ | refine bal ?_ _)
  clear hW
  have g1 : V0.cell? ⟨b, o, none⟩ = some _ := (kk.cell (p := ⟨b, o, none⟩) lb).trans g0
  have hR2 : V0.rangeAt b (o + 1) (bA fun i => f (i + 1)).toList := fun j v hj => (kk.cell (p := ⟨b, o + 1 + j, none⟩) lb).trans (hR1 j v hj)
  have lbn : b ≠ w.heap.size := Nat.ne_of_lt lc
  have HG0 := Lib.hid g0
  clear g0
  have kc1 : ¬ cap = 1 := by omega
  go_upto_region 5 with fail
  refine wp_region_list ?_
  refine wpList_plain rfl (fun K hK => ?_)
  go_simp
  refine hK _ _ ?_
  clear hK K
  refine wpList_plain rfl (fun K hK => ?_)
  go_simp
  refine hK _ _ ?_
  clear hK K
  refine wpList_plain rfl (fun K hK => ?_)
  go_simp
  refine hK _ _ ?_
  clear hK K
  refine wpList_load_mid rfl 67 _ rfl b (o + 1) (by rfl) (bA fun i => f (i + 1)).toList _ hR2 Try.underlying67 rfl (by rw [Array.length_toList]; exact bA_info _) ?_
  rw [Array.toArray_toList]
  refine wpList_plain rfl (fun K hK => ?_)
  go_simp
  refine hK _ _ ?_
  clear hK K
  obtain ⟨V1, hW⟩ : ∃ V, V0.alloc (.cells #[.int .u8 0, .int .u8 0, .int .u8 0, .int .u8 0, .int .u8 0, .int .u8 0, .int .u8 0, .int .u8 0, .int .u8 0, .int .u8 0, .int .u8 0, .int .u8 0, .int .u8 0, .int .u8 0, .int .u8 0, .int .u8 0, .int .u8 0, .int .u8 0, .int .u8 0, .int .u8 0, .int .u8 0, .int .u8 0, .int .u8 0, .int .u8 0, .int .u8 0, .int .u8 0, .int .u8 0, .int .u8 0, .int .u8 0, .int .u8 0, .int .u8 0, .int .u8 0] 67 (0, 0)) = V := ⟨_, rfl⟩
  rw [hW]
  obtain ⟨d4, hbx⟩ : ∃ n, V0.heap.size = n := ⟨_, rfl⟩
  rw [hbx]
  have hNEW : V1.heap[d4]? = some (.cells #[.int .u8 0, .int .u8 0, .int .u8 0, .int .u8 0, .int .u8 0, .int .u8 0, .int .u8 0, .int .u8 0, .int .u8 0, .int .u8 0, .int .u8 0, .int .u8 0, .int .u8 0, .int .u8 0, .int .u8 0, .int .u8 0, .int .u8 0, .int .u8 0, .int .u8 0, .int .u8 0, .int .u8 0, .int .u8 0, .int .u8 0, .int .u8 0, .int .u8 0, .int .u8 0, .int .u8 0, .int .u8 0, .int .u8 0, .int .u8 0, .int .u8 0, .int .u8 0] 67 (0, 0)) := by rw [← hW, ← hbx]; exact heap_alloc_new _ _
  have lD4R : w.heap.size < d4 := by rw [← hbx]; exact lt_of_heap hR
  replace hR : V1.heap[w.heap.size]? = some (.cells #[.int .u64 0, .int .u64 0, .int .u64 0, .int .u64 0, .int .u64 0, .int .u64 0, .int .u64 0, .int .u64 0, .bool false] 52 (0, 0)) := by rw [← hW]; exact ak hR
  have lD4 : w.heap.size ≤ d4 := by rw [← hbx]; exact kk.size
  replace kk : Below w.heap.size w V1 := by rw [← hW]; exact bal kk _
  have hD4 := hNEW
  clear hNEW hW hbx
  rw [bA_zero] at hD4
  refine st67l rfl rfl (g := d4) rfl rfl hD4 ?_
  have ldb : b < d4 := Nat.lt_of_lt_of_le lc lD4
  have P := putRow (cs := bA (fun i => f (i + 1))) hD4
  obtain ⟨V2, hW⟩ : ∃ V, World.setRow V1 (d4) (bA (fun i => f (i + 1))) = V := ⟨_, rfl⟩
  rw [hW] at P ⊢
  replace hD4 := P.here
  replace hR := (P.there (w.heap.size) (by omega)).trans (show _ = some (.cells #[.int .u64 0, .int .u64 0, .int .u64 0, .int .u64 0, .int .u64 0, .int .u64 0, .int .u64 0, .int .u64 0, .bool false] 52 (0, 0)) from hR)
  replace kk := P.below (by omega) (show Below w.heap.size w V1 from by first | exact kk | exact kk.drew | exact below_drewN kk _)
  clear P hW
  go_wp2_with fail
  refine (reverse_any _ hD4).mono ?_
  rintro e V3 ⟨rfl, P⟩
  replace hR := (P.there (w.heap.size) (by omega)).trans hR
  replace kk := P.below (B := w.heap.size) (w := w) (by omega) (by first | exact kk | exact kk.drew)
  replace hD4 := P.here
  rw [bA_ext (g := fun i => f (32 - i)) (fun i hi => by show f (31 - i + 1) = _; rw [show 31 - i + 1 = 32 - i by omega])] at hD4
  clear P hR2 hR1 g1
  have hcb : V3.cell? ⟨b, o, none⟩ = some (.int .u8 3) := (kk.cell (p := ⟨b, o, none⟩) lb).trans HG0.out
  have lb3 : b < V3.heap.size := World.block_lt_of_cell? V3 _ hcb
  go_upto_region 7 with fail
  obtain ⟨S0, hS0⟩ : ∃ S : World → Prop, S = (fun w' => w'.heap[d4]? = some (.cells (bA fun i => f (32 - i)) 67 (0, 0)) ∧ w'.cell? ⟨b, o, none⟩ = some (.int .u8 3)) := ⟨_, rfl⟩
  have hSJ : ∀ w', Below V3.heap.size V3 w' → S0 w' := by intro w' hb; rw [hS0]; exact ⟨below_get hb hD4, (hb.cell (p := ⟨b, o, none⟩) lb3).trans hcb⟩
  refine startT (S := S0) 12 (by kernel_rfl) (by rw [hS0]; exact ⟨hD4, hcb⟩) (fun hHeld => ?_)
  refine takeT (i := 0) (d := some 40) (v := .agg (bA fun i => f (32 - i))) _ rfl rfl (by rfl) (by kernel_rfl) (by decide) (by kernel_rfl) (by kernel_rfl) (by kernel_rfl) (fun _ _ _ h => h) (by assumption) (by kernel_rfl) ?_ ?_
  · (intro w' hSw; rw [hS0] at hSw; exact ldx67 (by rfl) (by rfl) hSw.1)
  try simp only [ptr, Act.put, List.setIfInBounds_toArray, List.set_cons_zero, List.set_cons_succ]
  refine takeT (i := 2) (d := some 42) (v := ?_) _ rfl rfl (by rfl) (by kernel_rfl) (by decide) (by kernel_rfl) (by kernel_rfl) (by kernel_rfl) (fun _ _ _ h => h) (by assumption) (by kernel_rfl) ?_ ?_
  rotate_left
  · (first | (intro w' hSw; clear hSw; go_simp; try (with_reducible rfl)) | (intro w'; go_simp; try (with_reducible rfl)))
  try simp only [ptr, Act.put, List.setIfInBounds_toArray, List.set_cons_zero, List.set_cons_succ]
  refine takeT (i := 3) (d := some 43) (v := ?_) _ rfl rfl (by rfl) (by kernel_rfl) (by decide) (by kernel_rfl) (by kernel_rfl) (by kernel_rfl) (fun _ _ _ h => h) (by assumption) (by kernel_rfl) ?_ ?_
  rotate_left
  · (first | (intro w' hSw; clear hSw; go_simp; try (with_reducible rfl)) | (intro w'; go_simp; try (with_reducible rfl)))
  try simp only [ptr, Act.put, List.setIfInBounds_toArray, List.set_cons_zero, List.set_cons_succ]
  refine takeT (i := 4) (d := some 44) (v := ?_) _ rfl rfl (by rfl) (by kernel_rfl) (by decide) (by kernel_rfl) (by kernel_rfl) (by kernel_rfl) (fun _ _ _ h => h) (by assumption) (by kernel_rfl) ?_ ?_
  rotate_left
  · (intro w' hSw; rw [hS0] at hSw; obtain ⟨sv1, sv2⟩ := hSw; clear sv1; go_simp; try (with_reducible rfl))
  try simp only [ptr, Act.put, List.setIfInBounds_toArray, List.set_cons_zero, List.set_cons_succ]
  refine takeT (i := 5) (d := some 45) (v := ?_) _ rfl rfl (by rfl) (by kernel_rfl) (by decide) (by kernel_rfl) (by kernel_rfl) (by kernel_rfl) (fun _ _ _ h => h) (by assumption) (by kernel_rfl) ?_ ?_
  rotate_left
  · (first | (intro w' hSw; clear hSw; go_simp; try (with_reducible rfl)) | (intro w'; go_simp; try (with_reducible rfl)))
  try simp only [ptr, Act.put, List.setIfInBounds_toArray, List.set_cons_zero, List.set_cons_succ]
  refine NK1.start (w0 := V3) (x1 := undef) 10 5 (.cells #[.int .u64 0, .int .u64 0, .int .u64 0, .int .u64 0, .int .u64 0, .int .u64 0, .int .u64 0, .int .u64 0, .bool false] 52 (0, 0)) (Below.refl _ _).drew (by (simp only [Act.put, List.setIfInBounds_toArray, List.set_cons_zero, List.set_cons_succ])) ⟨⟨_, rfl, fun _ => rfl, fun a1 w1 K hK => by go_simp; exact hK⟩⟩ (fun m1 => ?_)
  refine NK1.step (i := 1) (d := 41) (F := fun vv => vv = .agg #[.int .u64 (w0 (xOf f) : Nat), .int .u64 (w1 (xOf f) : Nat), .int .u64 (w2 (xOf f) : Nat), .int .u64 (w3 (xOf f) : Nat)]) m1 hSJ (by decide) (by decide) (by kernel_rfl) (by kernel_rfl) ⟨⟨_, rfl, fun _ => rfl, fun yv1 u1 hJ1 K hK => ?_⟩⟩ ?_
  · try simp only [ptr, Act.put, List.setIfInBounds_toArray, List.set_cons_zero, List.set_cons_succ]
    go_simp
    refine (from_any (f := fun i => f (32 - i)) (fun i => HF.out _) _).mono ?_
    rintro e U ⟨rfl, hb⟩
    have h2 := hK.out _ _ rfl hb
    try simp only [ptr, Act.put, List.setIfInBounds_toArray, List.set_cons_zero, List.set_cons_succ] at h2
    exact h2
  rintro vv rfl
  refine NK1.step (i := 6) (d := 46) (F := fun vv => vv = .tuple #[.agg #[.int .u64 (w0 (xr) : Nat), .int .u64 (w1 (xr) : Nat), .int .u64 (w2 (xr) : Nat), .int .u64 (w3 (xr) : Nat), .int .u64 (w0 (yr) : Nat), .int .u64 (w1 (yr) : Nat), .int .u64 (w2 (yr) : Nat), .int .u64 (w3 (yr) : Nat), .bool br], .int .i64 er]) m1 hSJ (by decide) (by decide) (by kernel_rfl) (by kernel_rfl) ⟨⟨_, rfl, fun _ => rfl, fun yv1 u1 hJ1 K hK => ?_⟩⟩ ?_
  · try simp only [ptr, Act.put, List.setIfInBounds_toArray, List.set_cons_zero, List.set_cons_succ]
    go_simp
    refine (HL.out _).mono ?_
    rintro e U ⟨rfl, hb⟩
    have h2 := hK.out _ _ rfl hb
    try simp only [ptr, Act.put, List.setIfInBounds_toArray, List.set_cons_zero, List.set_cons_succ] at h2
    exact h2
  rintro vv rfl
  refine NK1.step (i := 7) (d := 39) (F := fun vv => vv = .tuple #[.agg #[.int .u64 (w0 (xr) : Nat), .int .u64 (w1 (xr) : Nat), .int .u64 (w2 (xr) : Nat), .int .u64 (w3 (xr) : Nat), .int .u64 (w0 (yr) : Nat), .int .u64 (w1 (yr) : Nat), .int .u64 (w2 (yr) : Nat), .int .u64 (w3 (yr) : Nat), .bool br], .int .i64 er]) m1 hSJ (by decide) (by decide) (by kernel_rfl) (by kernel_rfl) ⟨⟨_, rfl, fun _ => rfl, fun yv1 u1 hJ1 K hK => ?_⟩⟩ ?_
  · try simp only [ptr, Act.put, List.setIfInBounds_toArray, List.set_cons_zero, List.set_cons_succ]
    go_simp
    have h2 := hK.out _ _ rfl (Below.refl _ _)
    try simp only [ptr, Act.put, List.setIfInBounds_toArray, List.set_cons_zero, List.set_cons_succ] at h2
    exact h2
  rintro vv rfl
  refine NK1.takeW (i := 8) (d := 47) (v := .agg #[.int .u64 (w0 (xr) : Nat), .int .u64 (w1 (xr) : Nat), .int .u64 (w2 (xr) : Nat), .int .u64 (w3 (xr) : Nat), .int .u64 (w0 (yr) : Nat), .int .u64 (w1 (yr) : Nat), .int .u64 (w2 (yr) : Nat), .int .u64 (w3 (yr) : Nat), .bool br]) _ rfl rfl (fun _ => rfl) (by kernel_rfl) (by decide) (by decide) (by decide) (by kernel_rfl) (by kernel_rfl) (by kernel_rfl) (by kernel_rfl) (fun _ _ _ h => h) hSJ (by kernel_rfl) (by kernel_rfl) (fun x w1 => by (try simp only [ptr, Act.put, List.setIfInBounds_toArray, List.set_cons_zero, List.set_cons_succ]); go_simp) ?_
  refine NK1.takeW (i := 9) (d := 48) (v := .int .i64 er) _ rfl rfl (fun _ => rfl) (by kernel_rfl) (by decide) (by decide) (by decide) (by kernel_rfl) (by kernel_rfl) (by kernel_rfl) (by kernel_rfl) (fun _ _ _ h => h) hSJ (by kernel_rfl) (by kernel_rfl) (fun x w1 => by (try simp only [ptr, Act.put, List.setIfInBounds_toArray, List.set_cons_zero, List.set_cons_succ]); go_simp) ?_
  refine NK1.last m1 hSJ (by kernel_rfl) (fun V4a bd5 hb o1 => ?_)
  clear m1
  try simp only [ptr, Act.put, List.setIfInBounds_toArray, List.set_cons_zero, List.set_cons_succ]
  have hD5 := o1.here
  have lD5 := o1.new
  have lD5w : w.heap.size < bd5 := Nat.lt_of_lt_of_le (lt_of_heap hR) o1.new
  obtain ⟨cD50, cD51, cD52, cD53, cD54, cD55, cD56, cD57, cD58⟩ := row9c hD5
  obtain ⟨zD50, zD51, zD52, zD53, zD54, zD55, zD56, zD57, zD58⟩ := row9z hD5
  refine callT (i := 11) _ rfl (by rfl) (by kernel_rfl) (fun K hK => ?_)
  go_simp
  have P := put9 (.int .u64 (w0 (xr) : Nat)) (.int .u64 (w1 (xr) : Nat)) (.int .u64 (w2 (xr) : Nat)) (.int .u64 (w3 (xr) : Nat)) (.int .u64 (w0 (yr) : Nat)) (.int .u64 (w1 (yr) : Nat)) (.int .u64 (w2 (yr) : Nat)) (.int .u64 (w3 (yr) : Nat)) (.bool br) hD5
  replace P := put_hid P
  obtain ⟨V4, hW, P⟩ := P
  rw [hW]
  have J4 := P.below (B := V3.heap.size) (w := V3) o1.new hb
  refine hK.out _ _ (Or.inr (hSJ _ J4)) ?_
  clear hK K
  try simp only [ptr, Act.put, List.setIfInBounds_toArray, List.set_cons_zero, List.set_cons_succ]
  refine callT (i := 12) _ rfl (by rfl) (by kernel_rfl) (fun K hK => ?_)
  go_simp
  refine hK.out _ _ (Or.inl (by kernel_rfl)) ?_
  clear hK K
  try simp only [ptr, Act.put, List.setIfInBounds_toArray, List.set_cons_zero, List.set_cons_succ]
  refine doneT (by kernel_rfl) ?_ _
  go_simp
  have hR4 := below_get J4 hR
  replace kk := bcl kk J4
  replace hD5 := P.here
  replace hR := hR4
  clear hHeld hSJ hS0 S0 P hW J4 hb hD4 hcb cD50 cD51 cD52 cD53 cD54 cD55 cD56 cD57 cD58 zD50 zD51 zD52 zD53 zD54 zD55 zD56 zD57 zD58 o1 hR4
  by_cases her : er = 0
  · subst her
    obtain ⟨cR0, cR1, cR2, cR3, cR4, cR5, cR6, cR7, cR8⟩ := row9c hR
    obtain ⟨zR0, zR1, zR2, zR3, zR4, zR5, zR6, zR7, zR8⟩ := row9z hR
    obtain ⟨cD50, cD51, cD52, cD53, cD54, cD55, cD56, cD57, cD58⟩ := row9c hD5
    obtain ⟨zD50, zD51, zD52, zD53, zD54, zD55, zD56, zD57, zD58⟩ := row9z hD5
    go_wp2_with fail
    have P := put9 (.int .u64 (w0 (xr) : Nat)) (.int .u64 (w1 (xr) : Nat)) (.int .u64 (w2 (xr) : Nat)) (.int .u64 (w3 (xr) : Nat)) (.int .u64 (w0 (yr) : Nat)) (.int .u64 (w1 (yr) : Nat)) (.int .u64 (w2 (yr) : Nat)) (.int .u64 (w3 (yr) : Nat)) (.bool br) hR
    replace P := put_hid P
    obtain ⟨V9, hV9, P⟩ := P
    rw [hV9]
    have P9 := P.here
    have k9 := P.below (by omega) (show Below w.heap.size w V4 from by first | exact kk | exact kk.drew | exact below_drewN kk _)
    obtain ⟨v0, v1, v2, v3, v4, v5, v6, v7, v8⟩ := row9c P9
    refine bodyPost_ret (v := _) (by simp [results, Try.results46, go_sem, v0, v1, v2, v3, v4, v5, v6, v7, v8]; rfl) rfl ?_
    exact ⟨by first | rfl | rw [if_pos rfl], k9⟩
  · have her1 : (er != 0) = true := bne_iff_ne.2 her
    have HE := Lib.hid her
    clear her
    obtain ⟨cR0, cR1, cR2, cR3, cR4, cR5, cR6, cR7, cR8⟩ := row9c hR
    obtain ⟨zR0, zR1, zR2, zR3, zR4, zR5, zR6, zR7, zR8⟩ := row9z hR
    go_wp2_with fail
    have P := put9 (.int .u64 0) (.int .u64 0) (.int .u64 0) (.int .u64 0) (.int .u64 0) (.int .u64 0) (.int .u64 0) (.int .u64 0) (.bool false) hR
    replace P := put_hid P
    obtain ⟨V9, hV9, P⟩ := P
    rw [hV9]
    have P9 := P.here
    have k9 := P.below (by omega) (show Below w.heap.size w V4 from by first | exact kk | exact kk.drew | exact below_drewN kk _)
    obtain ⟨v0, v1, v2, v3, v4, v5, v6, v7, v8⟩ := row9c P9
    refine bodyPost_ret (v := _) (by simp [results, Try.results46, go_sem, v0, v1, v2, v3, v4, v5, v6, v7, v8]; rfl) rfl ?_
    exact ⟨by first | rfl | rw [if_neg HE.out], k9⟩
end Go.Proofs.Ytgghopmlcpcpkaa
namespace Go.Proofs.Ytgghopmlcpcpkaa
open Go.RowKit PlainK
set_option linter.unusedVariables false
set_option linter.unusedSimpArgs false
/-! plain laws of a point's bytes -/
theorem leN_byt (x : Nat) : ∀ k, leN (byt x) k = x % 2 ^ (8 * k)
  | 0 => by simp [leN, Nat.mod_one]
  | k + 1 => by
    show leN (byt x) k + byt x k * 2 ^ (8 * k) = _
    rw [leN_byt x k, show 8 * (k + 1) = 8 * k + 8 by omega, Nat.pow_add, Nat.mod_mul]
    unfold byt
    rw [show (256 : Nat) = 2 ^ 8 from rfl, Nat.mul_comm (x / 2 ^ (8 * k) % 2 ^ 8)]
theorem leN_full {x : Nat} (hx : x < 2 ^ 256) : leN (byt x) 32 = x := by
  rw [leN_byt, Nat.mod_eq_of_lt hx]
theorem leN_congr {f g : Nat → Nat} : ∀ k, (∀ i, i < k → f i = g i) → leN f k = leN g k
  | 0, _ => rfl
  | k + 1, h => by
    show leN f k + f k * _ = leN g k + g k * _
    rw [leN_congr k (fun i hi => h i (by omega)), h k (by omega)]
theorem byt_leN {g : Nat → Nat} (hg : ∀ i, g i < 256) : ∀ n i, i < n → byt (leN g n) i = g i
  | 0, i, h => by omega
  | n + 1, i, h => by
    show (leN g n + g n * 2 ^ (8 * n)) / 2 ^ (8 * i) % 256 = g i
    by_cases e : i = n
    · subst e
      rw [Nat.add_mul_div_right _ _ (Nat.two_pow_pos _), Nat.div_eq_of_lt (leN_lt hg i), Nat.zero_add, Nat.mod_eq_of_lt (hg i)]
    · have ih := byt_leN hg n i (by omega)
      obtain ⟨d, hd⟩ : ∃ d, 8 * n = 8 * i + 8 + d := ⟨8 * n - 8 * i - 8, by omega⟩
      rw [hd, Nat.pow_add, Nat.pow_add, show g n * (2 ^ (8 * i) * 2 ^ 8 * 2 ^ d) = 2 ^ (8 * i) * (256 * (g n * 2 ^ d)) by rw [show (2 : Nat) ^ 8 = 256 from rfl]; ac_rfl, Nat.add_mul_div_left _ _ (Nat.two_pow_pos _), Nat.add_mul_mod_self_left]
      exact ih
theorem leN_big {g : Nat → Nat} (hg : ∀ i, g i < 256) : leN g 32 < 2 ^ 256 := leN_lt hg 32
/-- the number of a point's bytes is its X -/
theorem xOf_bytes {f : Nat → Nat} {x : Nat} (hx : x < 2 ^ 256) (h : ∀ i, i < 32 → f (i + 1) = byt x (31 - i)) : xOf f = x := by
  unfold xOf
  rw [leN_congr 32 (g := byt x) (fun i hi => by have := h (31 - i) (by omega); rw [show 31 - i + 1 = 32 - i by omega, show 31 - (31 - i) = i by omega] at this; exact this)]
  exact leN_full hx
theorem byt_xOf {f : Nat → Nat} (hf : ∀ i, f i < 256) {i : Nat} (hi : i < 32) : byt (xOf f) (31 - i) = f (i + 1) := by
  unfold xOf
  rw [byt_leN (fun i => hf _) 32 (31 - i) (by omega), show 32 - (31 - i) = i + 1 by omega]
theorem xOf_lt {f : Nat → Nat} (hf : ∀ i, f i < 256) : xOf f < 2 ^ 256 := leN_big (fun i => hf _)
theorem PtN.pt' {a : Pt PP} {x y : Nat} (h : PtN a x y false) : a = .pt (ft x) (ft y) ∧ x < PP ∧ y < PP := by
  cases a with
  | o => cases h.hb
  | pt X Y =>
    have h1 : X.val = x := h.hx
    have h2 : Y.val = y := h.hy
    subst h1 h2
    exact ⟨by rw [ft_val, ft_val], X.isLt, Y.isLt⟩
theorem neg_par {r : Nat} (hr : r < PP) (h0 : r ≠ 0) : decide (subf PP 0 r % 2 = 1) = !decide (r % 2 = 1) := by
  have e : subf PP 0 r = PP - r := by
    unfold subf
    rw [Nat.zero_mod, Nat.zero_add, Nat.mod_eq_of_lt hr]
    exact Nat.mod_eq_of_lt (by omega)
  have ho := PP_odd
  rw [e]
  by_cases h : r % 2 = 1
  · rw [decide_eq_true h, decide_eq_false (by omega)]; rfl
  · rw [decide_eq_false h, decide_eq_true (by omega)]; rfl
theorem root_ne {x r : Nat} (hr : r < PP) (h : mulm PP r r = rightN PP x) : r ≠ 0 := by
  intro e
  subst e
  exact y_ne good (on_num.2 h) rfl
theorem lift_par {x : Nat} (odd : Bool) (hx : x < PP) (hB : rootB (rightN PP x) PP = true) : decide (liftY x odd % 2 = 1) = odd := by
  have hp : 0 < PP := Nat.lt_trans (by decide) PP_pos
  have hr := rootN_some hB
  have hrl : rootN (rightN PP x) PP < PP := by
    unfold rootN rootV; split
    · exact Nat.mod_lt _ hp
    · exact hp
  rw [Nat.mod_eq_of_lt (show rightN PP x < PP from addf_lt hp _ _)] at hr
  have h0 := root_ne hrl hr
  unfold liftY
  split
  · assumption
  · rename_i h
    rw [neg_par hrl h0]
    revert h
    cases decide (rootN (rightN PP x) PP % 2 = 1) <;> cases odd <;> simp
theorem lift_of {p : Pt PP} {x y : Nat} (h : PtN p x y false) : x < PP ∧ rootB (rightN PP x) PP = true ∧ liftY x (decide (y % 2 = 1)) = y := by
  obtain ⟨rfl, hx, hy⟩ := h.pt'
  have on : (ft y : Fin PP) * ft y = ft x * ft x * ft x + 7 := h.on
  have hm : mulm PP y y = rightN PP x := on_num.1 on
  have hB : rootB (rightN PP x) PP = true := by
    rw [← hm]; exact rootB_sq PP_root (by decide +kernel)
  refine ⟨hx, hB, ?_⟩
  have hpar := lift_par (decide (y % 2 = 1)) hx hB
  obtain ⟨a, ha, hxa, hya, hna⟩ := lift_pt (decide (y % 2 = 1)) hx hB
  have hP : PtN a x (liftY x (decide (y % 2 = 1))) false := ⟨ha, hxa.symm, hya.symm, hna⟩
  generalize liftY x (decide (y % 2 = 1)) = z at *
  obtain ⟨rfl, _, hz⟩ := hP.pt'
  have on2 : (ft z : Fin PP) * ft z = ft x * ft x * ft x + 7 := hP.on
  by_cases e : (ft y : Fin PP) = ft z
  · have := ft_eq e
    rw [Nat.mod_eq_of_lt hy, Nat.mod_eq_of_lt hz] at this
    exact this.symm
  · exfalso
    have h1 := neg_of_ne good on on2 e
    rw [← neg_num hy] at h1
    have h2 := ft_eq h1
    rw [Nat.mod_eq_of_lt hz, Nat.mod_eq_of_lt (subf_lt (Nat.lt_trans (by decide) PP_pos) _ _)] at h2
    rw [h2, neg_par hy (root_ne hy hm)] at hpar
    cases hd : decide (y % 2 = 1) <;> rw [hd] at hpar <;> cases hpar
end Go.Proofs.Ytgghopmlcpcpkaa
namespace Go.Proofs.Ytgghopmlcpcpkaa
open Go.RowKit PlainK
set_option linter.unusedVariables false
set_option linter.unusedSimpArgs false
/-- the bytes f (so many as n) are the point's -/
def BytesAre (n : Nat) (f : Nat → Nat) (x y : Nat) (k : Bool) : Prop :=
  (k = true ∧ n = 1 ∧ f 0 = 0) ∨ (k = false ∧ n = 33 ∧ f 0 = 2 + y % 2 ∧ ∀ i, i < 32 → f (i + 1) = byt x (31 - i))
theorem BytesAre.lt {n : Nat} {f : Nat → Nat} {x y : Nat} {k : Bool} (h : BytesAre n f x y k) : ∀ i, i < n → f i < 256 := by
  rcases h with ⟨_, rfl, h0⟩ | ⟨_, rfl, h0, h1⟩
  · intro i hi
    obtain rfl : i = 0 := by omega
    omega
  · intro i hi
    by_cases e : i = 0
    · subst e; omega
    · have := h1 (i - 1) (by omega)
      rw [show i - 1 + 1 = i by omega] at this
      rw [this]; exact byt_lt _ _
/-- what is written of a point is read as the point -/
theorem parseQ_pt {p : Pt PP} {x y : Nat} {k : Bool} (h : PtN p x y k) {b o n cap : Nat} {f : Nat → Nat} (hB : BytesAre n f x y k) (hcap : n ≤ cap) (w : World) (hc : ∀ i, i < n → w.cell? ⟨b, o + i, none⟩ = some (.int .u8 (f i : Nat))) :
   Calls Try.prog 46 #[.slice (some ⟨b, o, none⟩) n cap] w fun e w' => e = .returned (.tuple #[.agg #[.int .u64 (w0 (x) : Nat), .int .u64 (w1 (x) : Nat), .int .u64 (w2 (x) : Nat), .int .u64 (w3 (x) : Nat), .int .u64 (w0 (y) : Nat), .int .u64 (w1 (y) : Nat), .int .u64 (w2 (y) : Nat), .int .u64 (w3 (y) : Nat), .bool k], .int .i64 0]) ∧ Below w.heap.size w w' := by
  rcases hB with ⟨rfl, rfl, h0⟩ | ⟨rfl, rfl, h0, h1⟩
  · have hz : p = .o := by
      cases p with
      | o => rfl
      | pt X Y => cases h.hb
    subst hz
    obtain ⟨rfl, rfl, _⟩ := PtN.zero.same h
    exact parse_none h0 w hc
  · obtain ⟨hx, hR, hy⟩ := lift_of h
    have hf : ∀ i, (fun i => if i < 33 then f i else 0) i < 256 := fun i => by
      show (if i < 33 then f i else 0) < 256
      split
      · by_cases e : i = 0
        · subst e; omega
        · have := h1 (i - 1) (by omega)
          rw [show i - 1 + 1 = i by omega] at this
          rw [this]; exact byt_lt _ _
      · omega
    have hc' : ∀ i, i < 33 → w.cell? ⟨b, o + i, none⟩ = some (.int .u8 ((fun i => if i < 33 then f i else 0) i : Nat)) := fun i hi => by
      show World.cell? w _ = some (Value.int .u8 ((if i < 33 then f i else 0 : Nat) : Int))
      rw [if_pos hi]; exact hc i hi
    have hX : xOf (fun i => if i < 33 then f i else 0) = x := xOf_bytes h.lx (fun i hi => by rw [if_pos (by omega)]; exact h1 i hi)
    by_cases hp : y % 2 = 1
    · have hl := fun u : World => lift_some (x := x) true h.wx hx hR u
      rw [decide_eq_true hp] at hy
      rw [hy] at hl
      refine (parse_go3 (xr := x) (yr := y) (er := 0) (br := false) (by show (if 0 < 33 then f 0 else 0) = 3; rw [if_pos (by omega)]; omega) hf hcap w hc' (by rw [hX]; exact hl)).mono fun e w' ⟨he, hb⟩ => ⟨?_, hb⟩
      rw [he, if_pos rfl]
    · have hl := fun u : World => lift_some (x := x) false h.wx hx hR u
      rw [decide_eq_false hp] at hy
      rw [hy] at hl
      refine (parse_go2 (xr := x) (yr := y) (er := 0) (br := false) (by show (if 0 < 33 then f 0 else 0) = 2; rw [if_pos (by omega)]; omega) hf hcap w hc' (by rw [hX]; exact hl)).mono fun e w' ⟨he, hb⟩ => ⟨?_, hb⟩
      rw [he, if_pos rfl]
/-- any bytes are a point's, or none's -/
theorem parseQ_any {a : Option Addr} {b o n cap : Nat} {f : Nat → Nat} (ha : n = 0 ∨ a = some ⟨b, o, none⟩) (hf : ∀ i, f i < 256) (hcap : n ≤ cap) (w : World) (hc : ∀ i, i < n → w.cell? ⟨b, o + i, none⟩ = some (.int .u8 (f i : Nat))) :
   Calls Try.prog 46 #[.slice a n cap] w fun e w' => (e = .returned (.tuple #[.agg #[.int .u64 0, .int .u64 0, .int .u64 0, .int .u64 0, .int .u64 0, .int .u64 0, .int .u64 0, .int .u64 0, .bool false], .int .i64 2]) ∨ ∃ (z : Pt PP) (x y : Nat) (k : Bool), PtN z x y k ∧ BytesAre n f x y k ∧ e = .returned (.tuple #[.agg #[.int .u64 (w0 (x) : Nat), .int .u64 (w1 (x) : Nat), .int .u64 (w2 (x) : Nat), .int .u64 (w3 (x) : Nat), .int .u64 (w0 (y) : Nat), .int .u64 (w1 (y) : Nat), .int .u64 (w2 (y) : Nat), .int .u64 (w3 (y) : Nat), .bool k], .int .i64 0])) ∧ Below w.heap.size w w' := by
  by_cases n1 : n = 1
  · subst n1
    obtain rfl := ha.resolve_left (by omega)
    by_cases h0 : f 0 = 0
    · exact (parse_none h0 w hc).mono fun e w' ⟨he, hb⟩ => ⟨Or.inr ⟨.o, 0, 0, true, PtN.zero, Or.inl ⟨rfl, rfl, h0⟩, he⟩, hb⟩
    · exact (parse_one h0 w hc).mono fun e w' ⟨he, hb⟩ => ⟨Or.inl he, hb⟩
  · by_cases n33 : n = 33
    · subst n33
      obtain rfl := ha.resolve_left (by omega)
      have go : ∀ (od : Bool), f 0 = (if od then 3 else 2) → (∀ {xr yr : Nat} {er : Int} {br : Bool}, (∀ u : World, Calls Try.prog 72 #[.agg #[.int .u64 (w0 (xOf f) : Nat), .int .u64 (w1 (xOf f) : Nat), .int .u64 (w2 (xOf f) : Nat), .int .u64 (w3 (xOf f) : Nat)], .bool od] u fun e w' => e = .returned (.tuple #[.agg #[.int .u64 (w0 (xr) : Nat), .int .u64 (w1 (xr) : Nat), .int .u64 (w2 (xr) : Nat), .int .u64 (w3 (xr) : Nat), .int .u64 (w0 (yr) : Nat), .int .u64 (w1 (yr) : Nat), .int .u64 (w2 (yr) : Nat), .int .u64 (w3 (yr) : Nat), .bool br], .int .i64 er]) ∧ Below u.heap.size u w') → Calls Try.prog 46 #[.slice (some ⟨b, o, none⟩) 33 cap] w fun e w' => e = .returned (.tuple (if er = 0 then #[.agg #[.int .u64 (w0 (xr) : Nat), .int .u64 (w1 (xr) : Nat), .int .u64 (w2 (xr) : Nat), .int .u64 (w3 (xr) : Nat), .int .u64 (w0 (yr) : Nat), .int .u64 (w1 (yr) : Nat), .int .u64 (w2 (yr) : Nat), .int .u64 (w3 (yr) : Nat), .bool br], .int .i64 0] else #[.agg #[.int .u64 0, .int .u64 0, .int .u64 0, .int .u64 0, .int .u64 0, .int .u64 0, .int .u64 0, .int .u64 0, .bool false], .int .i64 2])) ∧ Below w.heap.size w w') →
          Calls Try.prog 46 #[.slice (some ⟨b, o, none⟩) 33 cap] w fun e w' => (e = .returned (.tuple #[.agg #[.int .u64 0, .int .u64 0, .int .u64 0, .int .u64 0, .int .u64 0, .int .u64 0, .int .u64 0, .int .u64 0, .bool false], .int .i64 2]) ∨ ∃ (z : Pt PP) (x y : Nat) (k : Bool), PtN z x y k ∧ BytesAre 33 f x y k ∧ e = .returned (.tuple #[.agg #[.int .u64 (w0 (x) : Nat), .int .u64 (w1 (x) : Nat), .int .u64 (w2 (x) : Nat), .int .u64 (w3 (x) : Nat), .int .u64 (w0 (y) : Nat), .int .u64 (w1 (y) : Nat), .int .u64 (w2 (y) : Nat), .int .u64 (w3 (y) : Nat), .bool k], .int .i64 0])) ∧ Below w.heap.size w w' := by
        intro od h0 hgo
        have hW := W4.mk' (xOf_lt hf)
        by_cases hx : xOf f < PP
        · cases hR : rootB (rightN PP (xOf f)) PP with
          | true =>
            refine (hgo (fun u => lift_some od hW hx hR u)).mono fun e w' ⟨he, hb⟩ => ⟨Or.inr ?_, hb⟩
            obtain ⟨z, h1, h2, h3, h4⟩ := lift_pt od hx hR
            have hpar := lift_par od hx hR
            refine ⟨z, xOf f, liftY (xOf f) od, false, ⟨h1, h2.symm, h3.symm, h4⟩, Or.inr ⟨rfl, rfl, ?_, fun i hi => (byt_xOf hf hi).symm⟩, by rw [he, if_pos rfl]⟩
            cases od with
            | true => have := of_decide_eq_true hpar; simp at h0; omega
            | false => have := of_decide_eq_false hpar; simp at h0; omega
          | false =>
            refine (hgo (xr := 0) (yr := 0) (er := 1) (br := false) (fun u => lift_none od hW hx hR u)).mono fun e w' ⟨he, hb⟩ => ⟨Or.inl ?_, hb⟩
            rw [he, if_neg (by decide)]
        · refine (hgo (xr := 0) (yr := 0) (er := 1) (br := false) (fun u => lift_far od hW hx u)).mono fun e w' ⟨he, hb⟩ => ⟨Or.inl ?_, hb⟩
          rw [he, if_neg (by decide)]
      by_cases h2 : f 0 = 2
      · exact go false (by simpa using h2) (fun {xr yr er br} hL => parse_go2 h2 hf hcap w hc hL)
      · by_cases h3 : f 0 = 3
        · exact go true (by simpa using h3) (fun {xr yr er br} hL => parse_go3 h3 hf hcap w hc hL)
        · exact (parse_sign h2 h3 w hc).mono fun e w' ⟨he, hb⟩ => ⟨Or.inl he, hb⟩
    · exact (parse_far n1 n33 w).mono fun e w' ⟨he, hb⟩ => ⟨Or.inl he, hb⟩
/-- what is written of a point -/
theorem pbytesQ_any {p : Pt PP} {x y : Nat} {k : Bool} (h : PtN p x y k) (w : World) :
   Calls Try.prog 45 #[.agg #[.int .u64 (w0 (x) : Nat), .int .u64 (w1 (x) : Nat), .int .u64 (w2 (x) : Nat), .int .u64 (w3 (x) : Nat), .int .u64 (w0 (y) : Nat), .int .u64 (w1 (y) : Nat), .int .u64 (w2 (y) : Nat), .int .u64 (w3 (y) : Nat), .bool k]] w fun e w' => ∃ (g n cap : Nat) (f : Nat → Nat), e = .returned (.slice (some ⟨g, 0, none⟩) n cap) ∧ BytesAre n f x y k ∧ n ≤ cap ∧ w.heap.size ≤ g ∧ (∀ i, i < n → w'.cell? ⟨g, i, none⟩ = some (.int .u8 (f i : Nat))) ∧ Below w.heap.size w w' := by
  cases k with
  | true =>
    refine (pbytes_none h w).mono fun e w' ⟨g, cap, he, hcap, hg, h0, hb⟩ => ⟨g, 1, cap, fun _ => 0, he, Or.inl ⟨rfl, rfl, rfl⟩, hcap, hg, fun i hi => ?_, hb⟩
    obtain rfl : i = 0 := by omega
    exact h0
  | false =>
    refine (pbytes_pt h w).mono fun e w' ⟨g, cap, he, hcap, hg, ⟨h0, h1⟩, hb⟩ => ⟨g, 33, cap, fun i => if i = 0 then 2 + y % 2 else byt x (31 - (i - 1)), he, Or.inr ⟨rfl, rfl, rfl, fun i hi => ?_⟩, hcap, hg, fun i hi => ?_, hb⟩
    · show (if i + 1 = 0 then _ else byt x (31 - (i + 1 - 1))) = _
      rw [if_neg (by omega), Nat.add_sub_cancel]
    · show World.cell? w' _ = some (Value.int .u8 ((if i = 0 then 2 + y % 2 else byt x (31 - (i - 1)) : Nat) : Int))
      by_cases e : i = 0
      · subst e; exact h0
      · rw [if_neg e]
        have := h1 (i - 1) (by omega)
        rwa [show i - 1 + 1 = i by omega] at this
end Go.Proofs.Ytgghopmlcpcpkaa
namespace Go.Proofs.Ytgghopmlcpcpkaa
open Go.RowKit PlainK
set_option linter.unusedVariables false
set_option linter.unusedSimpArgs false
theorem conv_bytes {b o n cap : Nat} {f : Nat → Nat} {str : ByteArray} (hs : strOfNums ((List.range n).map fun i => (f i : Int)) = str) (w : World) (h : ∀ i, i < n → w.cell? ⟨b, o + i, none⟩ = some (.int .u8 (f i : Nat))) :
   (convert 63 9 (.slice (some ⟨b, o, none⟩) n cap)).run Try.prog w = .ok (.string str) w := by
  rw [run_convert_bytes_arg w 63 5 Try.underlying63 Try.underlying5 b o n cap ((List.range n).map fun i => (f i : Int)) (by simp) (fun i hi => by rw [h i hi]; simp [List.getD, hi]) 9 Try.underlying9, hs]
theorem BytesAre.same {n m : Nat} {f g : Nat → Nat} {x y : Nat} {k : Bool} (h : BytesAre n f x y k) (h' : BytesAre m g x y k) : m = n ∧ ∀ i, i < n → g i = f i := by
  rcases h with ⟨rfl, rfl, h0⟩ | ⟨rfl, rfl, h0, h1⟩
  · rcases h' with ⟨_, rfl, g0⟩ | ⟨h2, _⟩
    · refine ⟨rfl, fun i hi => ?_⟩
      obtain rfl : i = 0 := by omega
      rw [h0, g0]
    · cases h2
  · rcases h' with ⟨h2, _⟩ | ⟨_, rfl, g0, g1⟩
    · cases h2
    · refine ⟨rfl, fun i hi => ?_⟩
      by_cases e : i = 0
      · subst e; rw [h0, g0]
      · have a := h1 (i - 1) (by omega)
        have b := g1 (i - 1) (by omega)
        rw [show i - 1 + 1 = i by omega] at a b
        rw [a, b]
theorem BytesAre.pos {n : Nat} {f : Nat → Nat} {x y : Nat} {k : Bool} (h : BytesAre n f x y k) : n ≠ 0 := by
  rcases h with ⟨_, rfl, _⟩ | ⟨_, rfl, _⟩ <;> omega
theorem eql_none (w : World) : (binOp .eql 52 (.agg #[.int .u64 0, .int .u64 0, .int .u64 0, .int .u64 0, .int .u64 0, .int .u64 0, .int .u64 0, .int .u64 0, .bool true]) (.agg #[.int .u64 0, .int .u64 0, .int .u64 0, .int .u64 0, .int .u64 0, .int .u64 0, .int .u64 0, .int .u64 0, .bool true])).run Try.prog w = .ok (.bool true) w :=
  eql_np true true true W4.zero W4.zero W4.zero W4.zero rfl w
theorem eql_zero (w : World) : (binOp .eql 52 (.agg #[.int .u64 0, .int .u64 0, .int .u64 0, .int .u64 0, .int .u64 0, .int .u64 0, .int .u64 0, .int .u64 0, .bool false]) (.agg #[.int .u64 0, .int .u64 0, .int .u64 0, .int .u64 0, .int .u64 0, .int .u64 0, .int .u64 0, .int .u64 0, .bool false])).run Try.prog w = .ok (.bool true) w :=
  eql_np false false true W4.zero W4.zero W4.zero W4.zero rfl w
set_option maxRecDepth 10000 in
set_option maxHeartbeats 16000000 in
theorem cbytes_any {a0 a1 a2 a3 b0 b1 b2 b3 c0 c1 c2 c3 : Int} {x u v : Nat} (ha : W4 a0 a1 a2 a3 x) (odd : Bool) (hb : W4 b0 b1 b2 b3 u) (hc : W4 c0 c1 c2 c3 v) (m : Bool) {sa : Option Addr} {bb bo bn bcap : Nat} {f : Nat → Nat} (hsl : bn = 0 ∨ sa = some ⟨bb, bo, none⟩) (hf : ∀ i, f i < 256) (hcap : bn ≤ bcap) (w : World) (hcl : ∀ i, i < bn → w.cell? ⟨bb, bo + i, none⟩ = some (.int .u8 (f i : Nat))) :
   Calls Try.prog 12 #[.agg #[.int .u64 a0, .int .u64 a1, .int .u64 a2, .int .u64 a3], .bool odd, .agg #[.int .u64 b0, .int .u64 b1, .int .u64 b2, .int .u64 b3, .int .u64 c0, .int .u64 c1, .int .u64 c2, .int .u64 c3, .bool m], .slice sa bn bcap] w fun e w' => e = .returned (.bool true) ∧ Below w.heap.size w w' := by
  obtain ⟨rfl, rfl, rfl, rfl, la⟩ := ha
  obtain ⟨rfl, rfl, rfl, rfl, lb⟩ := hb
  obtain ⟨rfl, rfl, rfl, rfl, lc⟩ := hc
  have hla := Lib.hid la
  have hlb := Lib.hid lb
  have hlc := Lib.hid lc
  have HSL := Lib.hid hsl
  have HF := Lib.hid hf
  have HCP := Lib.hid hcap
  have HCL := Lib.hid hcl
  clear la lb lc hsl hf hcap hcl
  go_enter Try.func12, Try.ntmps12
  go_upto_region 1 with fail
  obtain ⟨V0, hW⟩ : ∃ V, (w.alloc (.cells #[.int .u64 (w0 (x) : Nat), .int .u64 (w1 (x) : Nat), .int .u64 (w2 (x) : Nat), .int .u64 (w3 (x) : Nat)] 24)).alloc (.cells #[.int .u64 (w0 (u) : Nat), .int .u64 (w1 (u) : Nat), .int .u64 (w2 (u) : Nat), .int .u64 (w3 (u) : Nat), .int .u64 (w0 (v) : Nat), .int .u64 (w1 (v) : Nat), .int .u64 (w2 (v) : Nat), .int .u64 (w3 (v) : Nat), .bool m] 52) = V := ⟨_, rfl⟩
  rw [hW]
  have hA : V0.heap[w.heap.size]? = some (.cells #[.int .u64 (w0 (x) : Nat), .int .u64 (w1 (x) : Nat), .int .u64 (w2 (x) : Nat), .int .u64 (w3 (x) : Nat)] 24 (0, 0)) := by
    rw [← hW]; simp only [alloc_at, World.size_alloc]; repeat (first | rw [if_pos trivial] | rw [if_pos (by omega)] | rw [if_neg (by omega)])
  have hM : V0.heap[w.heap.size + 1]? = some (.cells #[.int .u64 (w0 (u) : Nat), .int .u64 (w1 (u) : Nat), .int .u64 (w2 (u) : Nat), .int .u64 (w3 (u) : Nat), .int .u64 (w0 (v) : Nat), .int .u64 (w1 (v) : Nat), .int .u64 (w2 (v) : Nat), .int .u64 (w3 (v) : Nat), .bool m] 52 (0, 0)) := by
    rw [← hW]; simp only [alloc_at, World.size_alloc]; repeat (first | rw [if_pos trivial] | rw [if_pos (by omega)] | rw [if_neg (by omega)])
  have kk : Below w.heap.size w V0 := by
    rw [← hW]
    repeat (first | exact Below.refl _ _ | refine Below.drew ?_ | refine bal ?_ _)
  clear hW
  go_wp2_with fail
  refine (livesC_any _).mono ?_
  rintro e V1 ⟨rfl, hb⟩
  replace hA := below_get hb hA
  replace hM := below_get hb hM
  replace kk := bcl (by first | exact kk | exact kk.drew | exact below_drewN kk _) hb
  clear hb
  by_cases h60 : 60 < bn
  · have k1 : (60 : Int) < (bn : Int) := by omega
    clear h60
    go_wp2_with fail
    refine (livesC_any _).mono ?_
    rintro e V2 ⟨rfl, hb⟩
    replace hA := below_get hb hA
    replace hM := below_get hb hM
    replace kk := bcl (by first | exact kk | exact kk.drew | exact below_drewN kk _) hb
    clear hb
    go_wp2_with fail
    refine bodyPost_ret (v := _) (by simp [results, Try.results12, go_sem]; rfl) rfl ?_
    exact ⟨rfl, kk⟩
  have k1 : ¬ (60 : Int) < (bn : Int) := by omega
  have H60 := Lib.hid h60
  clear h60
  obtain ⟨cA0, cA1, cA2, cA3⟩ := row4c hA
  obtain ⟨zA0, zA1, zA2, zA3⟩ := row4z hA
  go_wp2_with fail
  refine (someQ_any odd (W4.mk' hla.out) _).mono ?_
  rintro e V2 ⟨p, xp, yp, bp, hp, rfl, hb⟩
  replace hA := below_get hb hA
  replace hM := below_get hb hM
  replace kk := bcl (by first | exact kk | exact kk.drew | exact below_drewN kk _) hb
  clear cA0 zA0 cA1 zA1 cA2 zA2 cA3 zA3
  clear hb
  go_upto_region 4 with fail
  obtain ⟨V3, hW⟩ : ∃ V, V2.alloc (.cells #[.int .u64 (w0 (xp) : Nat), .int .u64 (w1 (xp) : Nat), .int .u64 (w2 (xp) : Nat), .int .u64 (w3 (xp) : Nat), .int .u64 (w0 (yp) : Nat), .int .u64 (w1 (yp) : Nat), .int .u64 (w2 (yp) : Nat), .int .u64 (w3 (yp) : Nat), .bool bp] 52 (0, 0)) = V := ⟨_, rfl⟩
  rw [hW]
  obtain ⟨d9, hbx⟩ : ∃ n, V2.heap.size = n := ⟨_, rfl⟩
  rw [hbx]
  have hNEW : V3.heap[d9]? = some (.cells #[.int .u64 (w0 (xp) : Nat), .int .u64 (w1 (xp) : Nat), .int .u64 (w2 (xp) : Nat), .int .u64 (w3 (xp) : Nat), .int .u64 (w0 (yp) : Nat), .int .u64 (w1 (yp) : Nat), .int .u64 (w2 (yp) : Nat), .int .u64 (w3 (yp) : Nat), .bool bp] 52 (0, 0)) := by rw [← hW, ← hbx]; exact heap_alloc_new _ _
  have lD9A : w.heap.size < d9 := by rw [← hbx]; exact lt_of_heap hA
  replace hA : V3.heap[w.heap.size]? = some (.cells #[.int .u64 (w0 (x) : Nat), .int .u64 (w1 (x) : Nat), .int .u64 (w2 (x) : Nat), .int .u64 (w3 (x) : Nat)] 24 (0, 0)) := by rw [← hW]; exact ak hA
  have lD9M : w.heap.size + 1 < d9 := by rw [← hbx]; exact lt_of_heap hM
  replace hM : V3.heap[w.heap.size + 1]? = some (.cells #[.int .u64 (w0 (u) : Nat), .int .u64 (w1 (u) : Nat), .int .u64 (w2 (u) : Nat), .int .u64 (w3 (u) : Nat), .int .u64 (w0 (v) : Nat), .int .u64 (w1 (v) : Nat), .int .u64 (w2 (v) : Nat), .int .u64 (w3 (v) : Nat), .bool m] 52 (0, 0)) := by rw [← hW]; exact ak hM
  have lD9 : w.heap.size ≤ d9 := by rw [← hbx]; exact kk.size
  replace kk : Below w.heap.size w V3 := by rw [← hW]; exact bal kk _
  have hD9 := hNEW
  clear hNEW hW hbx
  obtain ⟨cD90, cD91, cD92, cD93, cD94, cD95, cD96, cD97, cD98⟩ := row9c hD9
  obtain ⟨zD90, zD91, zD92, zD93, zD94, zD95, zD96, zD97, zD98⟩ := row9z hD9
  go_wp2_with fail
  refine (pbytesQ_any hp _).mono ?_
  rintro e V4 ⟨g, n, cap, fc, rfl, hB, hnc, hg, hcl, hb⟩
  replace hA := below_get hb hA
  replace hM := below_get hb hM
  replace hD9 := below_get hb hD9
  replace kk := bcl (by first | exact kk | exact kk.drew | exact below_drewN kk _) hb
  clear cD90 zD90 cD91 zD91 cD92 zD92 cD93 zD93 cD94 zD94 cD95 zD95 cD96 zD96 cD97 zD97 cD98 zD98
  clear hb
  go_wp2_with fail
  refine (parseQ_pt hp hB hnc _ (o := 0) (by simpa using hcl)).mono ?_
  rintro e V5 ⟨rfl, hb⟩
  have hcl5 : ∀ i, i < n → V5.cell? ⟨g, i, none⟩ = some (.int .u8 (fc i : Nat)) := fun i hi => (hb.cell (p := ⟨g, i, none⟩) (World.block_lt_of_cell? _ _ (hcl i hi))).trans (hcl i hi)
  replace hA := below_get hb hA
  replace hM := below_get hb hM
  replace hD9 := below_get hb hD9
  replace kk := bcl (by first | exact kk | exact kk.drew | exact below_drewN kk _) hb
  clear hb
  clear hcl
  go_upto_region 6 with fail
  have hcl6a : ∀ i, i < n → (V5.alloc (.cells #[.int .u64 (w0 (xp) : Nat), .int .u64 (w1 (xp) : Nat), .int .u64 (w2 (xp) : Nat), .int .u64 (w3 (xp) : Nat), .int .u64 (w0 (yp) : Nat), .int .u64 (w1 (yp) : Nat), .int .u64 (w2 (yp) : Nat), .int .u64 (w3 (yp) : Nat), .bool bp] 52 (0, 0))).cell? ⟨g, i, none⟩ = some (.int .u8 (fc i : Nat)) := fun i hi => ((bal (Below.refl V5.heap.size V5) (.cells #[.int .u64 (w0 (xp) : Nat), .int .u64 (w1 (xp) : Nat), .int .u64 (w2 (xp) : Nat), .int .u64 (w3 (xp) : Nat), .int .u64 (w0 (yp) : Nat), .int .u64 (w1 (yp) : Nat), .int .u64 (w2 (yp) : Nat), .int .u64 (w3 (yp) : Nat), .bool bp] 52 (0, 0))).cell (p := ⟨g, i, none⟩) (World.block_lt_of_cell? _ _ (hcl5 i hi))).trans (hcl5 i hi)
  obtain ⟨V6, hW⟩ : ∃ V, V5.alloc (.cells #[.int .u64 (w0 (xp) : Nat), .int .u64 (w1 (xp) : Nat), .int .u64 (w2 (xp) : Nat), .int .u64 (w3 (xp) : Nat), .int .u64 (w0 (yp) : Nat), .int .u64 (w1 (yp) : Nat), .int .u64 (w2 (yp) : Nat), .int .u64 (w3 (yp) : Nat), .bool bp] 52 (0, 0)) = V := ⟨_, rfl⟩
  rw [hW]
  obtain ⟨d11, hbx⟩ : ∃ n, V5.heap.size = n := ⟨_, rfl⟩
  rw [hbx]
  have hNEW : V6.heap[d11]? = some (.cells #[.int .u64 (w0 (xp) : Nat), .int .u64 (w1 (xp) : Nat), .int .u64 (w2 (xp) : Nat), .int .u64 (w3 (xp) : Nat), .int .u64 (w0 (yp) : Nat), .int .u64 (w1 (yp) : Nat), .int .u64 (w2 (yp) : Nat), .int .u64 (w3 (yp) : Nat), .bool bp] 52 (0, 0)) := by rw [← hW, ← hbx]; exact heap_alloc_new _ _
  rw [hW] at hcl6a
  have lD11A : w.heap.size < d11 := by rw [← hbx]; exact lt_of_heap hA
  replace hA : V6.heap[w.heap.size]? = some (.cells #[.int .u64 (w0 (x) : Nat), .int .u64 (w1 (x) : Nat), .int .u64 (w2 (x) : Nat), .int .u64 (w3 (x) : Nat)] 24 (0, 0)) := by rw [← hW]; exact ak hA
  have lD11M : w.heap.size + 1 < d11 := by rw [← hbx]; exact lt_of_heap hM
  replace hM : V6.heap[w.heap.size + 1]? = some (.cells #[.int .u64 (w0 (u) : Nat), .int .u64 (w1 (u) : Nat), .int .u64 (w2 (u) : Nat), .int .u64 (w3 (u) : Nat), .int .u64 (w0 (v) : Nat), .int .u64 (w1 (v) : Nat), .int .u64 (w2 (v) : Nat), .int .u64 (w3 (v) : Nat), .bool m] 52 (0, 0)) := by rw [← hW]; exact ak hM
  have lD11D9 : d9 < d11 := by rw [← hbx]; exact lt_of_heap hD9
  replace hD9 : V6.heap[d9]? = some (.cells #[.int .u64 (w0 (xp) : Nat), .int .u64 (w1 (xp) : Nat), .int .u64 (w2 (xp) : Nat), .int .u64 (w3 (xp) : Nat), .int .u64 (w0 (yp) : Nat), .int .u64 (w1 (yp) : Nat), .int .u64 (w2 (yp) : Nat), .int .u64 (w3 (yp) : Nat), .bool bp] 52 (0, 0)) := by rw [← hW]; exact ak hD9
  have lD11 : w.heap.size ≤ d11 := by rw [← hbx]; exact kk.size
  replace kk : Below w.heap.size w V6 := by rw [← hW]; exact bal kk _
  have hD11 := hNEW
  clear hNEW hW hbx
  have hcl6 := hcl6a
  clear hcl6a
  have q1 := fun w => neq_of_eql (eqlQ hp hp true (decide_eq_true rfl) w)
  obtain ⟨cD90, cD91, cD92, cD93, cD94, cD95, cD96, cD97, cD98⟩ := row9c hD9
  obtain ⟨zD90, zD91, zD92, zD93, zD94, zD95, zD96, zD97, zD98⟩ := row9z hD9
  obtain ⟨cD110, cD111, cD112, cD113, cD114, cD115, cD116, cD117, cD118⟩ := row9c hD11
  obtain ⟨zD110, zD111, zD112, zD113, zD114, zD115, zD116, zD117, zD118⟩ := row9z hD11
  go_cut [72] (fun s72 wx => s72 = .bool false ∧ wx.heap[w.heap.size]? = some (.cells #[.int .u64 (w0 (x) : Nat), .int .u64 (w1 (x) : Nat), .int .u64 (w2 (x) : Nat), .int .u64 (w3 (x) : Nat)] 24 (0, 0)) ∧ wx.heap[w.heap.size + 1]? = some (.cells #[.int .u64 (w0 (u) : Nat), .int .u64 (w1 (u) : Nat), .int .u64 (w2 (u) : Nat), .int .u64 (w3 (u) : Nat), .int .u64 (w0 (v) : Nat), .int .u64 (w1 (v) : Nat), .int .u64 (w2 (v) : Nat), .int .u64 (w3 (v) : Nat), .bool m] 52 (0, 0)) ∧ wx.heap[d9]? = some (.cells #[.int .u64 (w0 (xp) : Nat), .int .u64 (w1 (xp) : Nat), .int .u64 (w2 (xp) : Nat), .int .u64 (w3 (xp) : Nat), .int .u64 (w0 (yp) : Nat), .int .u64 (w1 (yp) : Nat), .int .u64 (w2 (yp) : Nat), .int .u64 (w3 (yp) : Nat), .bool bp] 52 (0, 0)) ∧ (∀ i, i < n → wx.cell? ⟨g, i, none⟩ = some (.int .u8 (fc i : Nat))) ∧ Below w.heap.size w wx)
  case first =>
    cases hbp : bp with
    | true =>
      subst hbp
      obtain ⟨_, rfl, h0⟩ : true = true ∧ n = 1 ∧ fc 0 = 0 := by
        rcases hB with h | ⟨h, _⟩
        · exact h
        · cases h
      have cg : V6.cell? ⟨g, 0, none⟩ = some (.int .u8 0) := by have := hcl6 0 (by omega); rwa [h0] at this
      have hcv : ∀ w' : World, w'.cell? ⟨g, 0, none⟩ = some (.int .u8 0) → (convert 63 9 (.slice (some ⟨g, 0, none⟩) 1 cap)).run Try.prog w' = .ok (.string ⟨#[0]⟩) w' := fun w' h => by
        have h2 : ∀ i, i < 1 → w'.cell? ⟨g, 0 + i, none⟩ = some (.int .u8 (([0] : List Int).getD i 0)) := fun i hi => by
          obtain rfl : i = 0 := by omega
          exact h
        rw [run_convert_bytes_arg w' 63 5 Try.underlying63 Try.underlying5 g 0 1 cap [0] rfl h2 9 Try.underlying9]
        rfl
      have hcv1 := fun k => hcv (V6.drewN k) (by first | exact cg | (simpa using cg))
      clear hcv hB
      go_quiet (fail)
      refine (‹∀ (a' : Act) (w' : World), Met _ a' w' → _› _ _ ?_)
      go_meet
      exact ⟨rfl, hA, hM, hD9, fun i hi => hcl6 i hi, below_drewN kk _⟩
    | false =>
      subst hbp
      obtain ⟨_, rfl, h0, h1⟩ : false = false ∧ n = 33 ∧ fc 0 = 2 + yp % 2 ∧ ∀ i, i < 32 → fc (i + 1) = byt xp (31 - i) := by
        rcases hB with ⟨h, _⟩ | h
        · cases h
        · exact h
      have cg := hcl6 0 (by omega)
      clear hB
      by_cases hy : yp % 2 = 1
      · rw [h0, hy] at cg
        have m1 : ((w0 yp : Nat) : Int) % 2 = 1 := by unfold w0; omega
        have m2 : ((w0 yp : Nat) : Int).tmod 2 = 1 := by rw [Int.tmod_eq_emod_of_nonneg (by omega)]; exact m1
        have HY := Lib.hid hy
        clear hy
        go_quiet (fail)
        refine (‹∀ (a' : Act) (w' : World), Met _ a' w' → _› _ _ ?_)
        go_meet
        exact ⟨congrArg Value.bool (by have := HY.out; rw [show (yp : Int) % 2 = 1 by omega]; rfl), hA, hM, hD9, fun i hi => hcl6 i hi, below_drewN kk _⟩
      · rw [h0, show yp % 2 = 0 by omega] at cg
        have m1 : ((w0 yp : Nat) : Int) % 2 = 0 := by unfold w0; omega
        have m2 : ((w0 yp : Nat) : Int).tmod 2 = 0 := by rw [Int.tmod_eq_emod_of_nonneg (by omega)]; exact m1
        have HY := Lib.hid hy
        clear hy
        go_quiet (fail)
        refine (‹∀ (a' : Act) (w' : World), Met _ a' w' → _› _ _ ?_)
        go_meet
        exact ⟨congrArg Value.bool (by have := HY.out; rw [show (yp : Int) % 2 = 0 by omega]; rfl), hA, hM, hD9, fun i hi => hcl6 i hi, below_drewN kk _⟩
  case rest =>
    clear hA hM hD9 hD11 kk hcl6
    obtain ⟨rfl, hA, hM, hD9, hcl6, kk⟩ := hcut
    obtain ⟨cD90, cD91, cD92, cD93, cD94, cD95, cD96, cD97, cD98⟩ := row9c hD9
    obtain ⟨zD90, zD91, zD92, zD93, zD94, zD95, zD96, zD97, zD98⟩ := row9z hD9
    go_upto_if 75 with fail
    go_cut [] (fun wx => wx.heap[w.heap.size]? = some (.cells #[.int .u64 (w0 (x) : Nat), .int .u64 (w1 (x) : Nat), .int .u64 (w2 (x) : Nat), .int .u64 (w3 (x) : Nat)] 24 (0, 0)) ∧ wx.heap[w.heap.size + 1]? = some (.cells #[.int .u64 (w0 (u) : Nat), .int .u64 (w1 (u) : Nat), .int .u64 (w2 (u) : Nat), .int .u64 (w3 (u) : Nat), .int .u64 (w0 (v) : Nat), .int .u64 (w1 (v) : Nat), .int .u64 (w2 (v) : Nat), .int .u64 (w3 (v) : Nat), .bool m] 52 (0, 0)) ∧ wx.heap[d9]? = some (.cells #[.int .u64 (w0 (xp) : Nat), .int .u64 (w1 (xp) : Nat), .int .u64 (w2 (xp) : Nat), .int .u64 (w3 (xp) : Nat), .int .u64 (w0 (yp) : Nat), .int .u64 (w1 (yp) : Nat), .int .u64 (w2 (yp) : Nat), .int .u64 (w3 (yp) : Nat), .bool bp] 52 (0, 0)) ∧ Below w.heap.size w wx)
    case first =>
      cases hbp : bp with
      | true =>
        subst hbp
        go_wp2_with fail
        go_meet
        exact ⟨hA, hM, hD9, kk⟩
      | false =>
        subst hbp
        obtain ⟨_, rfl, h0, h1⟩ : false = false ∧ n = 33 ∧ fc 0 = 2 + yp % 2 ∧ ∀ i, i < 32 → fc (i + 1) = byt xp (31 - i) := by
          rcases hB with ⟨h, _⟩ | h
          · cases h
          · exact h
        have H1 := Lib.hid h1
        clear h1 h0 hB
        go_wp2_with fail
        refine (bytes_any (W4.mk' hp.lx) _).mono ?_
        rintro e V7 ⟨rfl, hb⟩
        have hcl7 : ∀ i, i < 33 → V7.cell? ⟨g, i, none⟩ = some (.int .u8 (fc i : Nat)) := fun i hi => (hb.cell (p := ⟨g, i, none⟩) (World.block_lt_of_cell? _ _ (hcl6 i hi))).trans (hcl6 i hi)
        replace hA := below_get hb hA
        replace hM := below_get hb hM
        replace hD9 := below_get hb hD9
        replace kk := bcl (by first | exact kk | exact kk.drew) hb
        have HC7 := Lib.hid hcl7
        clear hb hcl6 hcl7 cD90 cD91 cD92 cD93 cD94 cD95 cD96 cD97 cD98 zD90 zD91 zD92 zD93 zD94 zD95 zD96 zD97 zD98
        go_wp2_with fail
        go_loopw [79] (fun i wr => ∃ (k : Nat), k ≤ 32 ∧ i = .int .i64 (k : Int) ∧ (∀ j, j < 33 → wr.cell? ⟨g, j, none⟩ = some (.int .u8 (fc j : Nat))) ∧ wr.heap[w.heap.size]? = some (.cells #[.int .u64 (w0 (x) : Nat), .int .u64 (w1 (x) : Nat), .int .u64 (w2 (x) : Nat), .int .u64 (w3 (x) : Nat)] 24 (0, 0)) ∧ wr.heap[w.heap.size + 1]? = some (.cells #[.int .u64 (w0 (u) : Nat), .int .u64 (w1 (u) : Nat), .int .u64 (w2 (u) : Nat), .int .u64 (w3 (u) : Nat), .int .u64 (w0 (v) : Nat), .int .u64 (w1 (v) : Nat), .int .u64 (w2 (v) : Nat), .int .u64 (w3 (v) : Nat), .bool m] 52 (0, 0)) ∧ wr.heap[d9]? = some (.cells #[.int .u64 (w0 (xp) : Nat), .int .u64 (w1 (xp) : Nat), .int .u64 (w2 (xp) : Nat), .int .u64 (w3 (xp) : Nat), .int .u64 (w0 (yp) : Nat), .int .u64 (w1 (yp) : Nat), .int .u64 (w2 (yp) : Nat), .int .u64 (w3 (yp) : Nat), .bool false] 52 (0, 0)) ∧ Below w.heap.size w wr) (fun i wr => (32 - intOf i).toNat)
        case atStart => exact ⟨0, by omega, rfl, HC7.out, hA, hM, hD9, kk⟩
        case round =>
          clear hA hM hD9 kk
          obtain ⟨k, hk, rfl, hcl, hA, hM, hD9, kk⟩ := hrel
          by_cases hk2 : k < 32
          · have j1 : (k : Int) < 32 := by omega
            have hix := fun w => run_index67 (byt xp) hk2 w
            have cg : wr.cell? ⟨g, 32 - k, none⟩ = some (.int .u8 (byt xp k : Nat)) := by
              have h2 := hcl (32 - k) (by omega)
              have h3 := H1.out (31 - k) (by omega)
              rw [show 31 - k + 1 = 32 - k by omega, show 31 - (31 - k) = k by omega] at h3
              rwa [h3] at h2
            have HCL2 := Lib.hid hcl
            clear hcl
            have j2 : IntKind.i64.wrap (32 - (k : Int)) = 32 - (k : Int) := IntWalk.i64_in _ (by omega)
            have j3 : (0 : Int) ≤ 32 - (k : Int) := by omega
            have j4 : 32 - (k : Int) < 33 := by omega
            have j5 : (32 - (k : Int)).toNat = 32 - k := by omega
            have j6 : (k : Int) ≤ 32 := by omega
            go_wp2_with fail
            refine ⟨⟨k + 1, by omega, congrArg (Value.int .i64) (by omega), HCL2.out, hA, hM, hD9, by first | exact kk | exact kk.drew⟩, ?_⟩
            simp only [intOf]; omega
          · have j1 : ¬ (k : Int) < 32 := by omega
            clear hcl
            go_wp2_with fail
            go_meet
            exact ⟨hA, hM, hD9, by first | exact kk | exact kk.drew⟩
    case rest =>
      clear hA hM hD9 kk hcl6 hB
      obtain ⟨hA, hM, hD9, kk⟩ := hcut
      go_upto_region 15 with fail
      have qz := fun w => neq_of_eql (eql_none w)
      have qe := eql_zero
      go_cut [126] (fun s126 wx => s126 = .bool false ∧ Below w.heap.size w wx)
      case first =>
        cases hon : onB u v m with
        | true =>
          have HON := Lib.hid hon
          clear hon
          obtain ⟨cM0, cM1, cM2, cM3, cM4, cM5, cM6, cM7, cM8⟩ := row9c hM
          obtain ⟨zM0, zM1, zM2, zM3, zM4, zM5, zM6, zM7, zM8⟩ := row9z hM
          go_wp2_with fail
          refine (on_any m (W4.mk' hlb.out) (W4.mk' hlc.out) _).mono ?_
          rintro e V8 ⟨rfl, hb⟩
          replace hA := below_get hb hA
          replace hM := below_get hb hM
          replace hD9 := below_get hb hD9
          replace kk := bcl (by first | exact kk | exact kk.drew | exact below_drewN kk _) hb
          clear cM0 zM0 cM1 zM1 cM2 zM2 cM3 zM3 cM4 zM4 cM5 zM5 cM6 zM6 cM7 zM7 cM8 zM8
          clear hb
          rw [HON.out]
          go_wp2_with fail
          go_meet
          exact ⟨rfl, by first | exact kk | exact kk.drew⟩
        | false =>
          have HON := Lib.hid hon
          clear hon
          obtain ⟨cM0, cM1, cM2, cM3, cM4, cM5, cM6, cM7, cM8⟩ := row9c hM
          obtain ⟨zM0, zM1, zM2, zM3, zM4, zM5, zM6, zM7, zM8⟩ := row9z hM
          go_wp2_with fail
          refine (on_any m (W4.mk' hlb.out) (W4.mk' hlc.out) _).mono ?_
          rintro e V8 ⟨rfl, hb⟩
          replace hA := below_get hb hA
          replace hM := below_get hb hM
          replace hD9 := below_get hb hD9
          replace kk := bcl (by first | exact kk | exact kk.drew | exact below_drewN kk _) hb
          clear cM0 zM0 cM1 zM1 cM2 zM2 cM3 zM3 cM4 zM4 cM5 zM5 cM6 zM6 cM7 zM7 cM8 zM8
          clear hb
          rw [HON.out]
          obtain ⟨cM0, cM1, cM2, cM3, cM4, cM5, cM6, cM7, cM8⟩ := row9c hM
          obtain ⟨zM0, zM1, zM2, zM3, zM4, zM5, zM6, zM7, zM8⟩ := row9z hM
          go_wp2_with fail
          refine (pbytes_off m (W4.mk' hlb.out) (W4.mk' hlc.out) HON.out _).mono ?_
          rintro e V9 ⟨rfl, hb⟩
          replace hA := below_get hb hA
          replace hM := below_get hb hM
          replace hD9 := below_get hb hD9
          replace kk := bcl (by first | exact kk | exact kk.drew | exact below_drewN kk _) hb
          clear cM0 zM0 cM1 zM1 cM2 zM2 cM3 zM3 cM4 zM4 cM5 zM5 cM6 zM6 cM7 zM7 cM8 zM8
          clear hb
          obtain ⟨cM0, cM1, cM2, cM3, cM4, cM5, cM6, cM7, cM8⟩ := row9c hM
          obtain ⟨zM0, zM1, zM2, zM3, zM4, zM5, zM6, zM7, zM8⟩ := row9z hM
          obtain ⟨cD90, cD91, cD92, cD93, cD94, cD95, cD96, cD97, cD98⟩ := row9c hD9
          obtain ⟨zD90, zD91, zD92, zD93, zD94, zD95, zD96, zD97, zD98⟩ := row9z hD9
          go_wp2_with fail
          refine (addP_off m bp (W4.mk' hlb.out) (W4.mk' hlc.out) hp.wx hp.wy (Or.inl HON.out) _).mono ?_
          rintro e V10 ⟨rfl, hb⟩
          replace hA := below_get hb hA
          replace hM := below_get hb hM
          replace hD9 := below_get hb hD9
          replace kk := bcl (by first | exact kk | exact kk.drew | exact below_drewN kk _) hb
          clear cM0 zM0 cM1 zM1 cM2 zM2 cM3 zM3 cM4 zM4 cM5 zM5 cM6 zM6 cM7 zM7 cM8 zM8 cD90 zD90 cD91 zD91 cD92 zD92 cD93 zD93 cD94 zD94 cD95 zD95 cD96 zD96 cD97 zD97 cD98 zD98
          clear hb
          go_wp2_with fail
          refine (nonep_any _).mono ?_
          rintro e V11 ⟨rfl, hb⟩
          replace hA := below_get hb hA
          replace hM := below_get hb hM
          replace hD9 := below_get hb hD9
          replace kk := bcl (by first | exact kk | exact kk.drew | exact below_drewN kk _) hb
          clear hb
          obtain ⟨cM0, cM1, cM2, cM3, cM4, cM5, cM6, cM7, cM8⟩ := row9c hM
          obtain ⟨zM0, zM1, zM2, zM3, zM4, zM5, zM6, zM7, zM8⟩ := row9z hM
          obtain ⟨cD90, cD91, cD92, cD93, cD94, cD95, cD96, cD97, cD98⟩ := row9c hD9
          obtain ⟨zD90, zD91, zD92, zD93, zD94, zD95, zD96, zD97, zD98⟩ := row9z hD9
          go_wp2_with fail
          refine (addP_off bp m hp.wx hp.wy (W4.mk' hlb.out) (W4.mk' hlc.out) (Or.inr HON.out) _).mono ?_
          rintro e V12 ⟨rfl, hb⟩
          replace hA := below_get hb hA
          replace hM := below_get hb hM
          replace hD9 := below_get hb hD9
          replace kk := bcl (by first | exact kk | exact kk.drew | exact below_drewN kk _) hb
          clear cM0 zM0 cM1 zM1 cM2 zM2 cM3 zM3 cM4 zM4 cM5 zM5 cM6 zM6 cM7 zM7 cM8 zM8 cD90 zD90 cD91 zD91 cD92 zD92 cD93 zD93 cD94 zD94 cD95 zD95 cD96 zD96 cD97 zD97 cD98 zD98
          clear hb
          go_wp2_with fail
          refine (nonep_any _).mono ?_
          rintro e V13 ⟨rfl, hb⟩
          replace hA := below_get hb hA
          replace hM := below_get hb hM
          replace hD9 := below_get hb hD9
          replace kk := bcl (by first | exact kk | exact kk.drew | exact below_drewN kk _) hb
          clear hb
          obtain ⟨cM0, cM1, cM2, cM3, cM4, cM5, cM6, cM7, cM8⟩ := row9c hM
          obtain ⟨zM0, zM1, zM2, zM3, zM4, zM5, zM6, zM7, zM8⟩ := row9z hM
          obtain ⟨cA0, cA1, cA2, cA3⟩ := row4c hA
          obtain ⟨zA0, zA1, zA2, zA3⟩ := row4z hA
          go_wp2_with fail
          refine (times_off m (W4.mk' hlb.out) (W4.mk' hlc.out) (W4.mk' hla.out) HON.out _).mono ?_
          rintro e V14 ⟨rfl, hb⟩
          replace hA := below_get hb hA
          replace hM := below_get hb hM
          replace hD9 := below_get hb hD9
          replace kk := bcl (by first | exact kk | exact kk.drew | exact below_drewN kk _) hb
          clear cM0 zM0 cM1 zM1 cM2 zM2 cM3 zM3 cM4 zM4 cM5 zM5 cM6 zM6 cM7 zM7 cM8 zM8 cA0 zA0 cA1 zA1 cA2 zA2 cA3 zA3
          clear hb
          go_wp2_with fail
          refine (nonep_any _).mono ?_
          rintro e V15 ⟨rfl, hb⟩
          replace hA := below_get hb hA
          replace hM := below_get hb hM
          replace hD9 := below_get hb hD9
          replace kk := bcl (by first | exact kk | exact kk.drew | exact below_drewN kk _) hb
          clear hb
          obtain ⟨cM0, cM1, cM2, cM3, cM4, cM5, cM6, cM7, cM8⟩ := row9c hM
          obtain ⟨zM0, zM1, zM2, zM3, zM4, zM5, zM6, zM7, zM8⟩ := row9z hM
          go_wp2_with fail
          refine (neg_off m (W4.mk' hlb.out) (W4.mk' hlc.out) HON.out _).mono ?_
          rintro e V16 ⟨rfl, hb⟩
          replace hA := below_get hb hA
          replace hM := below_get hb hM
          replace hD9 := below_get hb hD9
          replace kk := bcl (by first | exact kk | exact kk.drew | exact below_drewN kk _) hb
          clear cM0 zM0 cM1 zM1 cM2 zM2 cM3 zM3 cM4 zM4 cM5 zM5 cM6 zM6 cM7 zM7 cM8 zM8
          clear hb
          go_wp2_with fail
          refine (nonep_any _).mono ?_
          rintro e V17 ⟨rfl, hb⟩
          replace hA := below_get hb hA
          replace hM := below_get hb hM
          replace hD9 := below_get hb hD9
          replace kk := bcl (by first | exact kk | exact kk.drew | exact below_drewN kk _) hb
          clear hb
          go_wp2_with fail
          go_meet
          exact ⟨rfl, by first | exact kk | exact kk.drew⟩
      case rest =>
        clear hA hM hD9 kk
        obtain ⟨rfl, kk⟩ := hcut
        have hcw : ∀ i, i < bn → wc.cell? ⟨bb, bo + i, none⟩ = some (.int .u8 (f i : Nat)) := fun i hi => (kk.cell (p := ⟨bb, bo + i, none⟩) (World.block_lt_of_cell? _ _ (HCL.out i hi))).trans (HCL.out i hi)
        go_wp2_with fail
        refine (parseQ_any HSL.out HF.out HCP.out _ (by exact hcw)).mono ?_
        rintro e V18 ⟨rfl | ⟨z, xz, yz, kz, hz, hBz, rfl⟩, hb⟩
        · replace kk := bcl (by first | exact kk | exact kk.drew) hb
          clear hb hcw
          go_upto_region 18 with fail
          obtain ⟨V19, hW⟩ : ∃ V, V18.alloc (.cells #[.int .u64 0, .int .u64 0, .int .u64 0, .int .u64 0, .int .u64 0, .int .u64 0, .int .u64 0, .int .u64 0, .bool false] 52 (0, 0)) = V := ⟨_, rfl⟩
          rw [hW]
          obtain ⟨d15, hbx⟩ : ∃ n, V18.heap.size = n := ⟨_, rfl⟩
          rw [hbx]
          have hNEW : V19.heap[d15]? = some (.cells #[.int .u64 0, .int .u64 0, .int .u64 0, .int .u64 0, .int .u64 0, .int .u64 0, .int .u64 0, .int .u64 0, .bool false] 52 (0, 0)) := by rw [← hW, ← hbx]; exact heap_alloc_new _ _
          have lD15 : w.heap.size ≤ d15 := by rw [← hbx]; exact kk.size
          replace kk : Below w.heap.size w V19 := by rw [← hW]; exact bal kk _
          have hD15 := hNEW
          clear hNEW hW hbx
          obtain ⟨cD150, cD151, cD152, cD153, cD154, cD155, cD156, cD157, cD158⟩ := row9c hD15
          obtain ⟨zD150, zD151, zD152, zD153, zD154, zD155, zD156, zD157, zD158⟩ := row9z hD15
          go_wp2_with fail
          refine bodyPost_ret (v := _) (by simp [results, Try.results12, go_sem]; rfl) rfl ?_
          exact ⟨rfl, by first | exact kk | exact kk.drew⟩
        · replace kk := bcl (by first | exact kk | exact kk.drew) hb
          have hcl18 : ∀ i, i < bn → V18.cell? ⟨bb, bo + i, none⟩ = some (.int .u8 (f i : Nat)) := fun i hi => (kk.cell (p := ⟨bb, bo + i, none⟩) (World.block_lt_of_cell? _ _ (HCL.out i hi))).trans (HCL.out i hi)
          obtain rfl := HSL.out.resolve_left hBz.pos
          obtain ⟨str, hstr⟩ : ∃ s, strOfNums ((List.range bn).map fun i => (f i : Int)) = s := ⟨_, rfl⟩
          have HSTR := Lib.hid hstr
          clear hb hcw hstr
          have hcl19 : ∀ i, i < bn → (V18.alloc (.cells #[.int .u64 (w0 (xz) : Nat), .int .u64 (w1 (xz) : Nat), .int .u64 (w2 (xz) : Nat), .int .u64 (w3 (xz) : Nat), .int .u64 (w0 (yz) : Nat), .int .u64 (w1 (yz) : Nat), .int .u64 (w2 (yz) : Nat), .int .u64 (w3 (yz) : Nat), .bool kz] 52 (0, 0))).cell? ⟨bb, bo + i, none⟩ = some (.int .u8 (f i : Nat)) := fun i hi => ((bal (Below.refl V18.heap.size V18) (.cells #[.int .u64 (w0 (xz) : Nat), .int .u64 (w1 (xz) : Nat), .int .u64 (w2 (xz) : Nat), .int .u64 (w3 (xz) : Nat), .int .u64 (w0 (yz) : Nat), .int .u64 (w1 (yz) : Nat), .int .u64 (w2 (yz) : Nat), .int .u64 (w3 (yz) : Nat), .bool kz] 52 (0, 0))).cell (p := ⟨bb, bo + i, none⟩) (World.block_lt_of_cell? _ _ (hcl18 i hi))).trans (hcl18 i hi)
          clear hcl18
          go_upto_region 18 with fail
          obtain ⟨V19, hW⟩ : ∃ V, V18.alloc (.cells #[.int .u64 (w0 (xz) : Nat), .int .u64 (w1 (xz) : Nat), .int .u64 (w2 (xz) : Nat), .int .u64 (w3 (xz) : Nat), .int .u64 (w0 (yz) : Nat), .int .u64 (w1 (yz) : Nat), .int .u64 (w2 (yz) : Nat), .int .u64 (w3 (yz) : Nat), .bool kz] 52 (0, 0)) = V := ⟨_, rfl⟩
          rw [hW]
          obtain ⟨d15, hbx⟩ : ∃ n, V18.heap.size = n := ⟨_, rfl⟩
          rw [hbx]
          have hNEW : V19.heap[d15]? = some (.cells #[.int .u64 (w0 (xz) : Nat), .int .u64 (w1 (xz) : Nat), .int .u64 (w2 (xz) : Nat), .int .u64 (w3 (xz) : Nat), .int .u64 (w0 (yz) : Nat), .int .u64 (w1 (yz) : Nat), .int .u64 (w2 (yz) : Nat), .int .u64 (w3 (yz) : Nat), .bool kz] 52 (0, 0)) := by rw [← hW, ← hbx]; exact heap_alloc_new _ _
          rw [hW] at hcl19
          have lD15 : w.heap.size ≤ d15 := by rw [← hbx]; exact kk.size
          replace kk : Below w.heap.size w V19 := by rw [← hW]; exact bal kk _
          have hD15 := hNEW
          clear hNEW hW hbx
          have HC19 := Lib.hid hcl19
          clear hcl19
          go_upto_region 20 with fail
          obtain ⟨S0, hS0⟩ : ∃ S : World → Prop, S = (fun w' => w'.heap[d15]? = some (.cells #[.int .u64 (w0 (xz) : Nat), .int .u64 (w1 (xz) : Nat), .int .u64 (w2 (xz) : Nat), .int .u64 (w3 (xz) : Nat), .int .u64 (w0 (yz) : Nat), .int .u64 (w1 (yz) : Nat), .int .u64 (w2 (yz) : Nat), .int .u64 (w3 (yz) : Nat), .bool kz] 52 (0, 0)) ∧ ∀ i, i < bn → w'.cell? ⟨bb, bo + i, none⟩ = some (.int .u8 (f i : Nat))) := ⟨_, rfl⟩
          have hSJ : ∀ w', Below V19.heap.size V19 w' → S0 w' := by intro w' hb; rw [hS0]; exact ⟨below_get hb hD15, fun i hi => (hb.cell (p := ⟨bb, bo + i, none⟩) (World.block_lt_of_cell? _ _ (HC19.out i hi))).trans (HC19.out i hi)⟩
          refine startT (S := S0) 10 (by kernel_rfl) (hSJ _ (Below.refl _ _).drew) (fun hHeld => ?_)
          refine takeT (i := 0) (d := some 141) (v := ?_) _ rfl rfl (by rfl) (by kernel_rfl) (by decide) (by kernel_rfl) (by kernel_rfl) (by kernel_rfl) (fun _ _ _ h => h) (by assumption) (by kernel_rfl) ?_ ?_
          rotate_left
          · (intro w' hSw; rw [hS0] at hSw; obtain ⟨sv, -⟩ := hSw; obtain ⟨cv0, cv1, cv2, cv3, cv4, cv5, cv6, cv7, cv8⟩ := row9c sv; go_simp; try (with_reducible rfl))
          try simp only [Act.put, List.setIfInBounds_toArray, List.set_cons_zero, List.set_cons_succ]
          refine callT (i := 1) _ rfl (by rfl) (by kernel_rfl) (fun K hK => ?_)
          go_simp
          refine (onQ_any hz _).mono ?_
          rintro e V20 ⟨rfl, hb⟩
          have J20 : Below V19.heap.size V19 V20 := bcl ((Below.refl _ _).drew) hb
          refine hK.out _ _ (Or.inr (hSJ _ J20)) ?_
          clear hK K hb
          replace hHeld := hSJ _ J20
          try simp only [Act.put, List.setIfInBounds_toArray, List.set_cons_zero, List.set_cons_succ]
          refine takeT (i := 2) (d := some 143) (v := ?_) _ rfl rfl (by rfl) (by kernel_rfl) (by decide) (by kernel_rfl) (by kernel_rfl) (by kernel_rfl) (fun _ _ _ h => h) (by assumption) (by kernel_rfl) ?_ ?_
          rotate_left
          · (first | (intro w' hSw; clear hSw; go_simp; try (with_reducible rfl)) | (intro w'; go_simp; try (with_reducible rfl)))
          try simp only [Act.put, List.setIfInBounds_toArray, List.set_cons_zero, List.set_cons_succ]
          refine takeT (i := 3) (d := some 144) (v := ?_) _ rfl rfl (by rfl) (by kernel_rfl) (by decide) (by kernel_rfl) (by kernel_rfl) (by kernel_rfl) (fun _ _ _ h => h) (by assumption) (by kernel_rfl) ?_ ?_
          rotate_left
          · (intro w' hSw; rw [hS0] at hSw; obtain ⟨sv, -⟩ := hSw; obtain ⟨cv0, cv1, cv2, cv3, cv4, cv5, cv6, cv7, cv8⟩ := row9c sv; go_simp; try (with_reducible rfl))
          try simp only [Act.put, List.setIfInBounds_toArray, List.set_cons_zero, List.set_cons_succ]
          refine takeT (i := 6) (d := some 147) (v := ?_) _ rfl rfl (by rfl) (by kernel_rfl) (by decide) (by kernel_rfl) (by kernel_rfl) (by kernel_rfl) (fun _ _ _ h => h) (by assumption) (by kernel_rfl) ?_ ?_
          rotate_left
          · (first | (intro w' hSw; clear hSw; go_simp; try (with_reducible rfl)) | (intro w'; go_simp; try (with_reducible rfl)))
          try simp only [Act.put, List.setIfInBounds_toArray, List.set_cons_zero, List.set_cons_succ]
          refine takeT (i := 7) (d := some 148) (v := .string str) _ rfl rfl (by rfl) (by kernel_rfl) (by decide) (by kernel_rfl) (by kernel_rfl) (by kernel_rfl) (fun _ _ _ h => h) (by assumption) (by kernel_rfl) ?_ ?_
          · (intro w' hSw; rw [hS0] at hSw; have hcv := conv_bytes (cap := bcap) HSTR.out w' hSw.2; clear hSw; go_simp)
          try simp only [Act.put, List.setIfInBounds_toArray, List.set_cons_zero, List.set_cons_succ]
          refine callT (i := 4) _ rfl (by rfl) (by kernel_rfl) (fun K hK => ?_)
          go_simp
          refine (pbytesQ_any hz _).mono ?_
          rintro e V21 ⟨g2, n2, cap2, f2, rfl, hB2, hnc2, hg2, hcl2, hb⟩
          obtain ⟨rfl, hff⟩ := hBz.same hB2
          have hs2 : strOfNums ((List.range n2).map fun i => (f2 i : Int)) = str := by rw [← HSTR.out]; congr 1; apply List.map_congr_left; intro i hi; rw [hff i (by simpa using hi)]
          have J21 := bcl J20 hb
          refine hK.out _ _ (Or.inr (hSJ _ J21)) ?_
          clear hK K
          replace hHeld := hSJ _ J21
          try simp only [Act.put, List.setIfInBounds_toArray, List.set_cons_zero, List.set_cons_succ]
          have hcv := conv_bytes (cap := cap2) hs2 V21 (o := 0) (by simpa using hcl2)
          clear hs2 hff hB2 hcl2
          refine callT (i := 5) _ rfl (by rfl) (by kernel_rfl) (fun K hK => ?_)
          go_simp
          refine hK.out _ _ (Or.inr hHeld) ?_
          clear hK K
          try simp only [Act.put, List.setIfInBounds_toArray, List.set_cons_zero, List.set_cons_succ]
          refine callT (i := 8) _ rfl (by rfl) (by kernel_rfl) (fun K hK => ?_)
          go_simp
          refine hK.out _ _ (Or.inr hHeld) ?_
          clear hK K
          try simp only [Act.put, List.setIfInBounds_toArray, List.set_cons_zero, List.set_cons_succ]
          refine callT (i := 9) _ rfl (by rfl) (by kernel_rfl) (fun K hK => ?_)
          go_simp
          refine hK.out _ _ (Or.inr hHeld) ?_
          clear hK K
          try simp only [Act.put, List.setIfInBounds_toArray, List.set_cons_zero, List.set_cons_succ]
          refine callT (i := 10) _ rfl (by rfl) (by kernel_rfl) (fun K hK => ?_)
          go_simp
          refine hK.out _ _ (Or.inl (by kernel_rfl)) ?_
          clear hK K
          try simp only [Act.put, List.setIfInBounds_toArray, List.set_cons_zero, List.set_cons_succ]
          refine doneT (by kernel_rfl) ?_ _
          clear hHeld hSJ hS0 S0
          replace kk := bcl kk J21
          go_simp
          go_wp2_with fail
          refine bodyPost_ret (v := _) (by simp [results, Try.results12, go_sem]; rfl) rfl ?_
          exact ⟨rfl, by first | exact kk | exact kk.drew⟩
end Go.Proofs.Ytgghopmlcpcpkaa
