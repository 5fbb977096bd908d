/- A step of the proof: what a function of the program computes, or a plain law of numbers. -/
import Derived.Test.YtgghopmlcpcpkaaDigC
import Derived.Test.YtgghopmlcpcpkaaBase
import Derived.Test.YtgghopmlcpcpkaaFrame
import Derived.Test.YtgghopmlcpcpkaaRowLib
import Derived.Test.YtgghopmlcpcpkaaDiv
import Derived.Test.YtgghopmlcpcpkaaHeldT
import Derived.Test.YtgghopmlcpcpkaaLawLib
namespace Go.Proofs.Ytgghopmlcpcpkaa.PResiduePowers
open Go.RowKit PlainK Go.Proofs.YtgghopmlcpcpkaaW.PrintWords Go.Proofs.YtgghopmlcpcpkaaW.PrintLast Go.Proofs.YtgghopmlcpcpkaaW.PrintMore
attribute [local go_sem] max2_int min2_int max_two min_two max_three min_three max_four min_four
set_option linter.unusedVariables false
set_option linter.unusedSimpArgs false
/-- the j-th word -/
def wj (a j : Nat) : Nat := if j = 0 then w0 a else if j = 1 then w1 a else if j = 2 then w2 a else w3 a
/-- the n lowest digits -/
def od (a n : Nat) : List Int := (List.range n).map fun t => ((wj a (t / 4) / 2 ^ (16 * (t % 4)) % 65536 : Nat) : Int)
theorem od_len (a n : Nat) : (od a n).length = n := by simp [od]
theorem od_succ (a n : Nat) : od a (n + 1) = od a n ++ [((wj a (n / 4) / 2 ^ (16 * (n % 4)) % 65536 : Nat) : Int)] := by simp [od, List.range_succ]
theorem index23_0 (x0 x1 x2 x3 : Value) (w : World) : (Instr.index 23 (.agg #[x0, x1, x2, x3]) (.int .i64 0)).run Try.prog w = .ok x0 w := by
  simp [Instr.index, run_underlying Try.underlying23, asIntOf, go_sem, part]
theorem index23_1 (x0 x1 x2 x3 : Value) (w : World) : (Instr.index 23 (.agg #[x0, x1, x2, x3]) (.int .i64 1)).run Try.prog w = .ok x1 w := by
  simp [Instr.index, run_underlying Try.underlying23, asIntOf, go_sem, part]
theorem index23_2 (x0 x1 x2 x3 : Value) (w : World) : (Instr.index 23 (.agg #[x0, x1, x2, x3]) (.int .i64 2)).run Try.prog w = .ok x2 w := by
  simp [Instr.index, run_underlying Try.underlying23, asIntOf, go_sem, part]
theorem index23_3 (x0 x1 x2 x3 : Value) (w : World) : (Instr.index 23 (.agg #[x0, x1, x2, x3]) (.int .i64 3)).run Try.prog w = .ok x3 w := by
  simp [Instr.index, run_underlying Try.underlying23, asIntOf, go_sem, part]
set_option maxHeartbeats 8000000 in
set_option maxRecDepth 100000 in
theorem of_walk (a : Nat) {KK : Nat} {LL : List Int} (w : World) (A13 : pontageref03_trim.f KK (od a 16) = some LL) :
   Calls Try.prog 22 #[.agg #[.int .u64 (w0 a : Nat), .int .u64 (w1 a : Nat), .int .u64 (w2 a : Nat), .int .u64 (w3 a : Nat)]] w fun e w' => ∃ (v : Value), e = .returned v ∧ Kd.V (Kd.int .u64) 22 w' w.heap.size (fun k_ => w.heap.size ≤ k_) v LL ∧ Below w.heap.size w w' := by
  have HB := Aside0.mk (Below.refl w.heap.size w)
  have hy119 : ([] : List Int) = od a 0 := rfl
  have Ny119 := Aside0.mk hy119.symm
  clear hy119
  go_enter Try.func22, Try.ntmps22
  go_upto_region 1 with fail
  have hA0 := heap_alloc_new w (.cells #[.int .u64 (w0 a : Nat), .int .u64 (w1 a : Nat), .int .u64 (w2 a : Nat), .int .u64 (w3 a : Nat)] 23 (0, 0))
  go_wp2_with (first | ((with_reducible refine gate_dst (N := 7) rfl ?_); (try (refine gate_guard (by rfl) ?_; dsimp only)); refine Kd.R_lit (Kd.int .u64) _ 22 ?hg (N := 7) ?hd (xs := ([] : List Int)) (inner := []) (ok := fun _ => True) (okp := fun _ => True) ?hr ?hp (fun _ hk => hk) trivial (Below.refl _ _) (Nat.le_refl _) (by simp) ?_; (case hd => rfl); (case hg => rfl); (case hr => first | (go_simp; done) | (go_simp; rfl)); (case hp => exact (Reps.none _ _)); intro v120 wz ho4 hb hg_ hnew_; clear hg_ hnew_; (first | rw [← Ny119.out] at ho4 | (simp only [Int.reduceToNat] at ho4; rw [← Ny119.out] at ho4)); have n0_ := Aside0.mk (Kd.R_lower (Kd.R_newM (M := fun k_ => (w.heap.size ≤ k_)) ho4 (below_size (by repeat (first | (with_reducible first | exact HB.out | apply below_alloc | apply pw_below_drewN | apply below_drew1) | exact HB.out))) (fun k_ h_ => h_)) (below_size (by repeat (first | (with_reducible first | exact HB.out | apply below_alloc | apply pw_below_drewN | apply below_drew1) | exact HB.out)))); have n1_ := Aside0.mk (below_step (by repeat (first | (with_reducible first | exact HB.out | apply below_alloc | apply pw_below_drewN | apply below_drew1) | exact HB.out)) hb); clear HB; have HO121 := n0_; have HB := n1_; clear n0_ n1_; have hA := below_get hb hA0; clear hA0; obtain ⟨cA0, cA1, cA2, cA3⟩ := row4c hA; clear hA; clear hb ho4))
  go_loopw [3, 9] (fun s j wr => ∃ (n : Int) (t : Nat), 0 ≤ n ∧ n ≤ 4 ∧ (t : Int) = 4 * n ∧ j = .int .i64 n ∧ Aside0 (Kd.R (Kd.int .u64) 22 wr w.heap.size (fun k_ => w.heap.size ≤ k_) s (od a t)) ∧ Aside0 (Below w.heap.size w wr)) (fun s j wr => 4 - (intOf j).toNat)
  case atStart => exact ⟨0, 0, by decide, by decide, rfl, rfl, ⟨by (with_reducible repeat (first | apply Kd.R_alloc | apply Kd.R_drewN | apply Kd.R_drew)); exact Kd.R_mono HO121.out (fun _ hk => hk.1)⟩, ⟨by repeat (first | (with_reducible first | exact HB.out | apply below_alloc | apply pw_below_drewN | apply below_drew1) | exact HB.out)⟩⟩
  case round =>
    try clear HO121
    try clear cA0 cA1 cA2 cA3
    clear HB Ny119
    obtain ⟨n, t, hn0, hn, ht, rfl, HO_5, HB⟩ := hrel
    by_cases h4 : n < 4
    · obtain h | h | h | h : n = 0 ∨ n = 1 ∨ n = 2 ∨ n = 3 := by omega
      · subst h
        obtain rfl : t = 0 := by omega
        clear hn h4 ht hn0
        have hix := fun x0 x1 x2 x3 w => index23_0 x0 x1 x2 x3 w
        go_wp2_with fail
        go_loopw [3, 6] (fun s j wr => ∃ (i : Int) (t : Nat), 0 ≤ i ∧ i ≤ 4 ∧ (t : Int) = 0 + i ∧ j = .int .i64 i ∧ Aside0 (Kd.R (Kd.int .u64) 22 wr w.heap.size (fun k_ => w.heap.size ≤ k_) s (od a t)) ∧ Aside0 (Below w.heap.size w wr)) (fun s j wr => 4 - (intOf j).toNat)
        case atStart => exact ⟨0, 0, by decide, by decide, rfl, rfl, ⟨by (with_reducible repeat (first | apply Kd.R_alloc | apply Kd.R_drewN | apply Kd.R_drew)); exact HO_5.out⟩, ⟨by repeat (first | (with_reducible first | exact HB.out | apply below_alloc | apply pw_below_drewN | apply below_drew1) | exact HB.out)⟩⟩
        case round =>
          clear HB HO_5
          obtain ⟨i, t, hn0, hn, ht, rfl, HO_5, HB⟩ := hrel
          by_cases h4 : i < 4
          · obtain h | h | h | h : i = 0 ∨ i = 1 ∨ i = 2 ∨ i = 3 := by omega
            · subst h
              obtain rfl : t = 0 := by omega
              clear hn h4 ht hn0
              go_wp2_with (first | ((with_reducible refine gate_builtin (b := .append) (xs := #[.tmp 16, .tmp 22]) rfl ?_); (try (refine gate_guard (by rfl) ?_; dsimp only)); at_builtin; refine Kd.R_append (Kd.int .u64) (w0 := w) w.heap.size ?aG_0 (.tmp 16) (.tmp 22) 34 22 (.int .u64 0) 8 ?aH_0 Try.underlying34 info22 rfl (by decide) (by omega) ?aV_0 (od a (0)) ?aX_0 [.int .u64 ?aX_0] (fun k_ => (w.heap.size ≤ k_)) (fun _ => False) ?aR1_0 ?aR2_0 ?aP_0 (fun _ hk => hk.elim) ?aF_0 ?aO_0 ?aB_0 ?aS_0 ?aL_0 ?_; (case aG_0 => rfl); (case aH_0 => rfl); (case aR1_0 => rfl); (case aR2_0 => rfl); (case aP_0 => exact rfl); (case aB_0 => exact (by repeat (first | (with_reducible first | exact HB.out | apply below_alloc | apply pw_below_drewN | apply below_drew1) | exact HB.out))); (case aF_0 => exact (fun k_ hk => (Nat.le_trans (below_size (by repeat (first | (with_reducible first | exact HB.out | apply below_alloc | apply pw_below_drewN | apply below_drew1) | exact HB.out))) hk))); (case aO_0 => exact (by (with_reducible repeat (first | apply Kd.R_alloc | apply Kd.R_drewN | apply Kd.R_drew)); exact HO_5.out)); (case aS_0 => exact (below_size (by repeat (first | (with_reducible first | exact HB.out | apply below_alloc | apply pw_below_drewN | apply below_drew1) | exact HB.out)))); (case aL_0 => rw [od_len]; omega); intro v125 w12 ho hb hg hat; have n0_ := Aside0.mk (hb); have n1_ := Aside0.mk (ho); clear HB; clear HO_5; have HB := n0_; have HO126 := n1_; clear n0_ n1_; clear ho hb hg hat))
              go_roundw
              case rel => exact ⟨1, 1, by decide, by decide, rfl, rfl, ⟨by (with_reducible repeat (first | apply Kd.R_alloc | apply Kd.R_drewN | apply Kd.R_drew)); have h_ := HO126.out; rw [od_succ a 0]; rw [show ((wj a (0 / 4) / 2 ^ (16 * (0 % 4)) % 65536 : Nat) : Int) = ((w0 a : Nat) : Int) % 65536 from by (show ((w0 a / 2 ^ 0 % 65536 : Nat) : Int) = _; rw [Nat.pow_zero, Nat.div_one]; rfl)]; exact h_⟩, ⟨by repeat (first | (with_reducible first | exact HB.out | apply below_alloc | apply pw_below_drewN | apply below_drew1) | exact HB.out)⟩⟩
              case measure => simp [intOf]
            · subst h
              obtain rfl : t = 1 := by omega
              clear hn h4 ht hn0
              go_wp2_with (first | ((with_reducible refine gate_builtin (b := .append) (xs := #[.tmp 16, .tmp 22]) rfl ?_); (try (refine gate_guard (by rfl) ?_; dsimp only)); at_builtin; refine Kd.R_append (Kd.int .u64) (w0 := w) w.heap.size ?aG_1 (.tmp 16) (.tmp 22) 34 22 (.int .u64 0) 8 ?aH_1 Try.underlying34 info22 rfl (by decide) (by omega) ?aV_1 (od a (1)) ?aX_1 [.int .u64 ?aX_1] (fun k_ => (w.heap.size ≤ k_)) (fun _ => False) ?aR1_1 ?aR2_1 ?aP_1 (fun _ hk => hk.elim) ?aF_1 ?aO_1 ?aB_1 ?aS_1 ?aL_1 ?_; (case aG_1 => rfl); (case aH_1 => rfl); (case aR1_1 => rfl); (case aR2_1 => rfl); (case aP_1 => exact rfl); (case aB_1 => exact (by repeat (first | (with_reducible first | exact HB.out | apply below_alloc | apply pw_below_drewN | apply below_drew1) | exact HB.out))); (case aF_1 => exact (fun k_ hk => (Nat.le_trans (below_size (by repeat (first | (with_reducible first | exact HB.out | apply below_alloc | apply pw_below_drewN | apply below_drew1) | exact HB.out))) hk))); (case aO_1 => exact (by (with_reducible repeat (first | apply Kd.R_alloc | apply Kd.R_drewN | apply Kd.R_drew)); exact HO_5.out)); (case aS_1 => exact (below_size (by repeat (first | (with_reducible first | exact HB.out | apply below_alloc | apply pw_below_drewN | apply below_drew1) | exact HB.out)))); (case aL_1 => rw [od_len]; omega); intro v125 w12 ho hb hg hat; have n0_ := Aside0.mk (hb); have n1_ := Aside0.mk (ho); clear HB; clear HO_5; have HB := n0_; have HO126 := n1_; clear n0_ n1_; clear ho hb hg hat))
              go_roundw
              case rel => exact ⟨2, 2, by decide, by decide, rfl, rfl, ⟨by (with_reducible repeat (first | apply Kd.R_alloc | apply Kd.R_drewN | apply Kd.R_drew)); have h_ := HO126.out; rw [od_succ a 1]; exact h_⟩, ⟨by repeat (first | (with_reducible first | exact HB.out | apply below_alloc | apply pw_below_drewN | apply below_drew1) | exact HB.out)⟩⟩
              case measure => simp [intOf]
            · subst h
              obtain rfl : t = 2 := by omega
              clear hn h4 ht hn0
              go_wp2_with (first | ((with_reducible refine gate_builtin (b := .append) (xs := #[.tmp 16, .tmp 22]) rfl ?_); (try (refine gate_guard (by rfl) ?_; dsimp only)); at_builtin; refine Kd.R_append (Kd.int .u64) (w0 := w) w.heap.size ?aG_2 (.tmp 16) (.tmp 22) 34 22 (.int .u64 0) 8 ?aH_2 Try.underlying34 info22 rfl (by decide) (by omega) ?aV_2 (od a (2)) ?aX_2 [.int .u64 ?aX_2] (fun k_ => (w.heap.size ≤ k_)) (fun _ => False) ?aR1_2 ?aR2_2 ?aP_2 (fun _ hk => hk.elim) ?aF_2 ?aO_2 ?aB_2 ?aS_2 ?aL_2 ?_; (case aG_2 => rfl); (case aH_2 => rfl); (case aR1_2 => rfl); (case aR2_2 => rfl); (case aP_2 => exact rfl); (case aB_2 => exact (by repeat (first | (with_reducible first | exact HB.out | apply below_alloc | apply pw_below_drewN | apply below_drew1) | exact HB.out))); (case aF_2 => exact (fun k_ hk => (Nat.le_trans (below_size (by repeat (first | (with_reducible first | exact HB.out | apply below_alloc | apply pw_below_drewN | apply below_drew1) | exact HB.out))) hk))); (case aO_2 => exact (by (with_reducible repeat (first | apply Kd.R_alloc | apply Kd.R_drewN | apply Kd.R_drew)); exact HO_5.out)); (case aS_2 => exact (below_size (by repeat (first | (with_reducible first | exact HB.out | apply below_alloc | apply pw_below_drewN | apply below_drew1) | exact HB.out)))); (case aL_2 => rw [od_len]; omega); intro v125 w12 ho hb hg hat; have n0_ := Aside0.mk (hb); have n1_ := Aside0.mk (ho); clear HB; clear HO_5; have HB := n0_; have HO126 := n1_; clear n0_ n1_; clear ho hb hg hat))
              go_roundw
              case rel => exact ⟨3, 3, by decide, by decide, rfl, rfl, ⟨by (with_reducible repeat (first | apply Kd.R_alloc | apply Kd.R_drewN | apply Kd.R_drew)); have h_ := HO126.out; rw [od_succ a 2]; exact h_⟩, ⟨by repeat (first | (with_reducible first | exact HB.out | apply below_alloc | apply pw_below_drewN | apply below_drew1) | exact HB.out)⟩⟩
              case measure => simp [intOf]
            · subst h
              obtain rfl : t = 3 := by omega
              clear hn h4 ht hn0
              go_wp2_with (first | ((with_reducible refine gate_builtin (b := .append) (xs := #[.tmp 16, .tmp 22]) rfl ?_); (try (refine gate_guard (by rfl) ?_; dsimp only)); at_builtin; refine Kd.R_append (Kd.int .u64) (w0 := w) w.heap.size ?aG_3 (.tmp 16) (.tmp 22) 34 22 (.int .u64 0) 8 ?aH_3 Try.underlying34 info22 rfl (by decide) (by omega) ?aV_3 (od a (3)) ?aX_3 [.int .u64 ?aX_3] (fun k_ => (w.heap.size ≤ k_)) (fun _ => False) ?aR1_3 ?aR2_3 ?aP_3 (fun _ hk => hk.elim) ?aF_3 ?aO_3 ?aB_3 ?aS_3 ?aL_3 ?_; (case aG_3 => rfl); (case aH_3 => rfl); (case aR1_3 => rfl); (case aR2_3 => rfl); (case aP_3 => exact rfl); (case aB_3 => exact (by repeat (first | (with_reducible first | exact HB.out | apply below_alloc | apply pw_below_drewN | apply below_drew1) | exact HB.out))); (case aF_3 => exact (fun k_ hk => (Nat.le_trans (below_size (by repeat (first | (with_reducible first | exact HB.out | apply below_alloc | apply pw_below_drewN | apply below_drew1) | exact HB.out))) hk))); (case aO_3 => exact (by (with_reducible repeat (first | apply Kd.R_alloc | apply Kd.R_drewN | apply Kd.R_drew)); exact HO_5.out)); (case aS_3 => exact (below_size (by repeat (first | (with_reducible first | exact HB.out | apply below_alloc | apply pw_below_drewN | apply below_drew1) | exact HB.out)))); (case aL_3 => rw [od_len]; omega); intro v125 w12 ho hb hg hat; have n0_ := Aside0.mk (hb); have n1_ := Aside0.mk (ho); clear HB; clear HO_5; have HB := n0_; have HO126 := n1_; clear n0_ n1_; clear ho hb hg hat))
              go_roundw
              case rel => exact ⟨4, 4, by decide, by decide, rfl, rfl, ⟨by (with_reducible repeat (first | apply Kd.R_alloc | apply Kd.R_drewN | apply Kd.R_drew)); have h_ := HO126.out; rw [od_succ a 3]; exact h_⟩, ⟨by repeat (first | (with_reducible first | exact HB.out | apply below_alloc | apply pw_below_drewN | apply below_drew1) | exact HB.out)⟩⟩
              case measure => simp [intOf]
          · have : i = 4 := by omega
            subst this
            obtain rfl : t = 4 := by omega
            clear hn h4 ht hn0
            go_wp2_with fail
            go_roundw
            case rel => exact ⟨1, 4, by decide, by decide, rfl, rfl, ⟨by (with_reducible repeat (first | apply Kd.R_alloc | apply Kd.R_drewN | apply Kd.R_drew)); exact HO_5.out⟩, ⟨by repeat (first | (with_reducible first | exact HB.out | apply below_alloc | apply pw_below_drewN | apply below_drew1) | exact HB.out)⟩⟩
            case measure => simp [intOf]
      · subst h
        obtain rfl : t = 4 := by omega
        clear hn h4 ht hn0
        have hix := fun x0 x1 x2 x3 w => index23_1 x0 x1 x2 x3 w
        go_wp2_with fail
        go_loopw [3, 6] (fun s j wr => ∃ (i : Int) (t : Nat), 0 ≤ i ∧ i ≤ 4 ∧ (t : Int) = 4 + i ∧ j = .int .i64 i ∧ Aside0 (Kd.R (Kd.int .u64) 22 wr w.heap.size (fun k_ => w.heap.size ≤ k_) s (od a t)) ∧ Aside0 (Below w.heap.size w wr)) (fun s j wr => 4 - (intOf j).toNat)
        case atStart => exact ⟨0, 4, by decide, by decide, rfl, rfl, ⟨by (with_reducible repeat (first | apply Kd.R_alloc | apply Kd.R_drewN | apply Kd.R_drew)); exact HO_5.out⟩, ⟨by repeat (first | (with_reducible first | exact HB.out | apply below_alloc | apply pw_below_drewN | apply below_drew1) | exact HB.out)⟩⟩
        case round =>
          clear HB HO_5
          obtain ⟨i, t, hn0, hn, ht, rfl, HO_5, HB⟩ := hrel
          by_cases h4 : i < 4
          · obtain h | h | h | h : i = 0 ∨ i = 1 ∨ i = 2 ∨ i = 3 := by omega
            · subst h
              obtain rfl : t = 4 := by omega
              clear hn h4 ht hn0
              go_wp2_with (first | ((with_reducible refine gate_builtin (b := .append) (xs := #[.tmp 16, .tmp 22]) rfl ?_); (try (refine gate_guard (by rfl) ?_; dsimp only)); at_builtin; refine Kd.R_append (Kd.int .u64) (w0 := w) w.heap.size ?aG_4 (.tmp 16) (.tmp 22) 34 22 (.int .u64 0) 8 ?aH_4 Try.underlying34 info22 rfl (by decide) (by omega) ?aV_4 (od a (4)) ?aX_4 [.int .u64 ?aX_4] (fun k_ => (w.heap.size ≤ k_)) (fun _ => False) ?aR1_4 ?aR2_4 ?aP_4 (fun _ hk => hk.elim) ?aF_4 ?aO_4 ?aB_4 ?aS_4 ?aL_4 ?_; (case aG_4 => rfl); (case aH_4 => rfl); (case aR1_4 => rfl); (case aR2_4 => rfl); (case aP_4 => exact rfl); (case aB_4 => exact (by repeat (first | (with_reducible first | exact HB.out | apply below_alloc | apply pw_below_drewN | apply below_drew1) | exact HB.out))); (case aF_4 => exact (fun k_ hk => (Nat.le_trans (below_size (by repeat (first | (with_reducible first | exact HB.out | apply below_alloc | apply pw_below_drewN | apply below_drew1) | exact HB.out))) hk))); (case aO_4 => exact (by (with_reducible repeat (first | apply Kd.R_alloc | apply Kd.R_drewN | apply Kd.R_drew)); exact HO_5.out)); (case aS_4 => exact (below_size (by repeat (first | (with_reducible first | exact HB.out | apply below_alloc | apply pw_below_drewN | apply below_drew1) | exact HB.out)))); (case aL_4 => rw [od_len]; omega); intro v125 w12 ho hb hg hat; have n0_ := Aside0.mk (hb); have n1_ := Aside0.mk (ho); clear HB; clear HO_5; have HB := n0_; have HO126 := n1_; clear n0_ n1_; clear ho hb hg hat))
              go_roundw
              case rel => exact ⟨1, 5, by decide, by decide, rfl, rfl, ⟨by (with_reducible repeat (first | apply Kd.R_alloc | apply Kd.R_drewN | apply Kd.R_drew)); have h_ := HO126.out; rw [od_succ a 4]; rw [show ((wj a (4 / 4) / 2 ^ (16 * (4 % 4)) % 65536 : Nat) : Int) = ((w1 a : Nat) : Int) % 65536 from by (show ((w1 a / 2 ^ 0 % 65536 : Nat) : Int) = _; rw [Nat.pow_zero, Nat.div_one]; rfl)]; exact h_⟩, ⟨by repeat (first | (with_reducible first | exact HB.out | apply below_alloc | apply pw_below_drewN | apply below_drew1) | exact HB.out)⟩⟩
              case measure => simp [intOf]
            · subst h
              obtain rfl : t = 5 := by omega
              clear hn h4 ht hn0
              go_wp2_with (first | ((with_reducible refine gate_builtin (b := .append) (xs := #[.tmp 16, .tmp 22]) rfl ?_); (try (refine gate_guard (by rfl) ?_; dsimp only)); at_builtin; refine Kd.R_append (Kd.int .u64) (w0 := w) w.heap.size ?aG_5 (.tmp 16) (.tmp 22) 34 22 (.int .u64 0) 8 ?aH_5 Try.underlying34 info22 rfl (by decide) (by omega) ?aV_5 (od a (5)) ?aX_5 [.int .u64 ?aX_5] (fun k_ => (w.heap.size ≤ k_)) (fun _ => False) ?aR1_5 ?aR2_5 ?aP_5 (fun _ hk => hk.elim) ?aF_5 ?aO_5 ?aB_5 ?aS_5 ?aL_5 ?_; (case aG_5 => rfl); (case aH_5 => rfl); (case aR1_5 => rfl); (case aR2_5 => rfl); (case aP_5 => exact rfl); (case aB_5 => exact (by repeat (first | (with_reducible first | exact HB.out | apply below_alloc | apply pw_below_drewN | apply below_drew1) | exact HB.out))); (case aF_5 => exact (fun k_ hk => (Nat.le_trans (below_size (by repeat (first | (with_reducible first | exact HB.out | apply below_alloc | apply pw_below_drewN | apply below_drew1) | exact HB.out))) hk))); (case aO_5 => exact (by (with_reducible repeat (first | apply Kd.R_alloc | apply Kd.R_drewN | apply Kd.R_drew)); exact HO_5.out)); (case aS_5 => exact (below_size (by repeat (first | (with_reducible first | exact HB.out | apply below_alloc | apply pw_below_drewN | apply below_drew1) | exact HB.out)))); (case aL_5 => rw [od_len]; omega); intro v125 w12 ho hb hg hat; have n0_ := Aside0.mk (hb); have n1_ := Aside0.mk (ho); clear HB; clear HO_5; have HB := n0_; have HO126 := n1_; clear n0_ n1_; clear ho hb hg hat))
              go_roundw
              case rel => exact ⟨2, 6, by decide, by decide, rfl, rfl, ⟨by (with_reducible repeat (first | apply Kd.R_alloc | apply Kd.R_drewN | apply Kd.R_drew)); have h_ := HO126.out; rw [od_succ a 5]; exact h_⟩, ⟨by repeat (first | (with_reducible first | exact HB.out | apply below_alloc | apply pw_below_drewN | apply below_drew1) | exact HB.out)⟩⟩
              case measure => simp [intOf]
            · subst h
              obtain rfl : t = 6 := by omega
              clear hn h4 ht hn0
              go_wp2_with (first | ((with_reducible refine gate_builtin (b := .append) (xs := #[.tmp 16, .tmp 22]) rfl ?_); (try (refine gate_guard (by rfl) ?_; dsimp only)); at_builtin; refine Kd.R_append (Kd.int .u64) (w0 := w) w.heap.size ?aG_6 (.tmp 16) (.tmp 22) 34 22 (.int .u64 0) 8 ?aH_6 Try.underlying34 info22 rfl (by decide) (by omega) ?aV_6 (od a (6)) ?aX_6 [.int .u64 ?aX_6] (fun k_ => (w.heap.size ≤ k_)) (fun _ => False) ?aR1_6 ?aR2_6 ?aP_6 (fun _ hk => hk.elim) ?aF_6 ?aO_6 ?aB_6 ?aS_6 ?aL_6 ?_; (case aG_6 => rfl); (case aH_6 => rfl); (case aR1_6 => rfl); (case aR2_6 => rfl); (case aP_6 => exact rfl); (case aB_6 => exact (by repeat (first | (with_reducible first | exact HB.out | apply below_alloc | apply pw_below_drewN | apply below_drew1) | exact HB.out))); (case aF_6 => exact (fun k_ hk => (Nat.le_trans (below_size (by repeat (first | (with_reducible first | exact HB.out | apply below_alloc | apply pw_below_drewN | apply below_drew1) | exact HB.out))) hk))); (case aO_6 => exact (by (with_reducible repeat (first | apply Kd.R_alloc | apply Kd.R_drewN | apply Kd.R_drew)); exact HO_5.out)); (case aS_6 => exact (below_size (by repeat (first | (with_reducible first | exact HB.out | apply below_alloc | apply pw_below_drewN | apply below_drew1) | exact HB.out)))); (case aL_6 => rw [od_len]; omega); intro v125 w12 ho hb hg hat; have n0_ := Aside0.mk (hb); have n1_ := Aside0.mk (ho); clear HB; clear HO_5; have HB := n0_; have HO126 := n1_; clear n0_ n1_; clear ho hb hg hat))
              go_roundw
              case rel => exact ⟨3, 7, by decide, by decide, rfl, rfl, ⟨by (with_reducible repeat (first | apply Kd.R_alloc | apply Kd.R_drewN | apply Kd.R_drew)); have h_ := HO126.out; rw [od_succ a 6]; exact h_⟩, ⟨by repeat (first | (with_reducible first | exact HB.out | apply below_alloc | apply pw_below_drewN | apply below_drew1) | exact HB.out)⟩⟩
              case measure => simp [intOf]
            · subst h
              obtain rfl : t = 7 := by omega
              clear hn h4 ht hn0
              go_wp2_with (first | ((with_reducible refine gate_builtin (b := .append) (xs := #[.tmp 16, .tmp 22]) rfl ?_); (try (refine gate_guard (by rfl) ?_; dsimp only)); at_builtin; refine Kd.R_append (Kd.int .u64) (w0 := w) w.heap.size ?aG_7 (.tmp 16) (.tmp 22) 34 22 (.int .u64 0) 8 ?aH_7 Try.underlying34 info22 rfl (by decide) (by omega) ?aV_7 (od a (7)) ?aX_7 [.int .u64 ?aX_7] (fun k_ => (w.heap.size ≤ k_)) (fun _ => False) ?aR1_7 ?aR2_7 ?aP_7 (fun _ hk => hk.elim) ?aF_7 ?aO_7 ?aB_7 ?aS_7 ?aL_7 ?_; (case aG_7 => rfl); (case aH_7 => rfl); (case aR1_7 => rfl); (case aR2_7 => rfl); (case aP_7 => exact rfl); (case aB_7 => exact (by repeat (first | (with_reducible first | exact HB.out | apply below_alloc | apply pw_below_drewN | apply below_drew1) | exact HB.out))); (case aF_7 => exact (fun k_ hk => (Nat.le_trans (below_size (by repeat (first | (with_reducible first | exact HB.out | apply below_alloc | apply pw_below_drewN | apply below_drew1) | exact HB.out))) hk))); (case aO_7 => exact (by (with_reducible repeat (first | apply Kd.R_alloc | apply Kd.R_drewN | apply Kd.R_drew)); exact HO_5.out)); (case aS_7 => exact (below_size (by repeat (first | (with_reducible first | exact HB.out | apply below_alloc | apply pw_below_drewN | apply below_drew1) | exact HB.out)))); (case aL_7 => rw [od_len]; omega); intro v125 w12 ho hb hg hat; have n0_ := Aside0.mk (hb); have n1_ := Aside0.mk (ho); clear HB; clear HO_5; have HB := n0_; have HO126 := n1_; clear n0_ n1_; clear ho hb hg hat))
              go_roundw
              case rel => exact ⟨4, 8, by decide, by decide, rfl, rfl, ⟨by (with_reducible repeat (first | apply Kd.R_alloc | apply Kd.R_drewN | apply Kd.R_drew)); have h_ := HO126.out; rw [od_succ a 7]; exact h_⟩, ⟨by repeat (first | (with_reducible first | exact HB.out | apply below_alloc | apply pw_below_drewN | apply below_drew1) | exact HB.out)⟩⟩
              case measure => simp [intOf]
          · have : i = 4 := by omega
            subst this
            obtain rfl : t = 8 := by omega
            clear hn h4 ht hn0
            go_wp2_with fail
            go_roundw
            case rel => exact ⟨2, 8, by decide, by decide, rfl, rfl, ⟨by (with_reducible repeat (first | apply Kd.R_alloc | apply Kd.R_drewN | apply Kd.R_drew)); exact HO_5.out⟩, ⟨by repeat (first | (with_reducible first | exact HB.out | apply below_alloc | apply pw_below_drewN | apply below_drew1) | exact HB.out)⟩⟩
            case measure => simp [intOf]
      · subst h
        obtain rfl : t = 8 := by omega
        clear hn h4 ht hn0
        have hix := fun x0 x1 x2 x3 w => index23_2 x0 x1 x2 x3 w
        go_wp2_with fail
        go_loopw [3, 6] (fun s j wr => ∃ (i : Int) (t : Nat), 0 ≤ i ∧ i ≤ 4 ∧ (t : Int) = 8 + i ∧ j = .int .i64 i ∧ Aside0 (Kd.R (Kd.int .u64) 22 wr w.heap.size (fun k_ => w.heap.size ≤ k_) s (od a t)) ∧ Aside0 (Below w.heap.size w wr)) (fun s j wr => 4 - (intOf j).toNat)
        case atStart => exact ⟨0, 8, by decide, by decide, rfl, rfl, ⟨by (with_reducible repeat (first | apply Kd.R_alloc | apply Kd.R_drewN | apply Kd.R_drew)); exact HO_5.out⟩, ⟨by repeat (first | (with_reducible first | exact HB.out | apply below_alloc | apply pw_below_drewN | apply below_drew1) | exact HB.out)⟩⟩
        case round =>
          clear HB HO_5
          obtain ⟨i, t, hn0, hn, ht, rfl, HO_5, HB⟩ := hrel
          by_cases h4 : i < 4
          · obtain h | h | h | h : i = 0 ∨ i = 1 ∨ i = 2 ∨ i = 3 := by omega
            · subst h
              obtain rfl : t = 8 := by omega
              clear hn h4 ht hn0
              go_wp2_with (first | ((with_reducible refine gate_builtin (b := .append) (xs := #[.tmp 16, .tmp 22]) rfl ?_); (try (refine gate_guard (by rfl) ?_; dsimp only)); at_builtin; refine Kd.R_append (Kd.int .u64) (w0 := w) w.heap.size ?aG_8 (.tmp 16) (.tmp 22) 34 22 (.int .u64 0) 8 ?aH_8 Try.underlying34 info22 rfl (by decide) (by omega) ?aV_8 (od a (8)) ?aX_8 [.int .u64 ?aX_8] (fun k_ => (w.heap.size ≤ k_)) (fun _ => False) ?aR1_8 ?aR2_8 ?aP_8 (fun _ hk => hk.elim) ?aF_8 ?aO_8 ?aB_8 ?aS_8 ?aL_8 ?_; (case aG_8 => rfl); (case aH_8 => rfl); (case aR1_8 => rfl); (case aR2_8 => rfl); (case aP_8 => exact rfl); (case aB_8 => exact (by repeat (first | (with_reducible first | exact HB.out | apply below_alloc | apply pw_below_drewN | apply below_drew1) | exact HB.out))); (case aF_8 => exact (fun k_ hk => (Nat.le_trans (below_size (by repeat (first | (with_reducible first | exact HB.out | apply below_alloc | apply pw_below_drewN | apply below_drew1) | exact HB.out))) hk))); (case aO_8 => exact (by (with_reducible repeat (first | apply Kd.R_alloc | apply Kd.R_drewN | apply Kd.R_drew)); exact HO_5.out)); (case aS_8 => exact (below_size (by repeat (first | (with_reducible first | exact HB.out | apply below_alloc | apply pw_below_drewN | apply below_drew1) | exact HB.out)))); (case aL_8 => rw [od_len]; omega); intro v125 w12 ho hb hg hat; have n0_ := Aside0.mk (hb); have n1_ := Aside0.mk (ho); clear HB; clear HO_5; have HB := n0_; have HO126 := n1_; clear n0_ n1_; clear ho hb hg hat))
              go_roundw
              case rel => exact ⟨1, 9, by decide, by decide, rfl, rfl, ⟨by (with_reducible repeat (first | apply Kd.R_alloc | apply Kd.R_drewN | apply Kd.R_drew)); have h_ := HO126.out; rw [od_succ a 8]; rw [show ((wj a (8 / 4) / 2 ^ (16 * (8 % 4)) % 65536 : Nat) : Int) = ((w2 a : Nat) : Int) % 65536 from by (show ((w2 a / 2 ^ 0 % 65536 : Nat) : Int) = _; rw [Nat.pow_zero, Nat.div_one]; rfl)]; exact h_⟩, ⟨by repeat (first | (with_reducible first | exact HB.out | apply below_alloc | apply pw_below_drewN | apply below_drew1) | exact HB.out)⟩⟩
              case measure => simp [intOf]
            · subst h
              obtain rfl : t = 9 := by omega
              clear hn h4 ht hn0
              go_wp2_with (first | ((with_reducible refine gate_builtin (b := .append) (xs := #[.tmp 16, .tmp 22]) rfl ?_); (try (refine gate_guard (by rfl) ?_; dsimp only)); at_builtin; refine Kd.R_append (Kd.int .u64) (w0 := w) w.heap.size ?aG_9 (.tmp 16) (.tmp 22) 34 22 (.int .u64 0) 8 ?aH_9 Try.underlying34 info22 rfl (by decide) (by omega) ?aV_9 (od a (9)) ?aX_9 [.int .u64 ?aX_9] (fun k_ => (w.heap.size ≤ k_)) (fun _ => False) ?aR1_9 ?aR2_9 ?aP_9 (fun _ hk => hk.elim) ?aF_9 ?aO_9 ?aB_9 ?aS_9 ?aL_9 ?_; (case aG_9 => rfl); (case aH_9 => rfl); (case aR1_9 => rfl); (case aR2_9 => rfl); (case aP_9 => exact rfl); (case aB_9 => exact (by repeat (first | (with_reducible first | exact HB.out | apply below_alloc | apply pw_below_drewN | apply below_drew1) | exact HB.out))); (case aF_9 => exact (fun k_ hk => (Nat.le_trans (below_size (by repeat (first | (with_reducible first | exact HB.out | apply below_alloc | apply pw_below_drewN | apply below_drew1) | exact HB.out))) hk))); (case aO_9 => exact (by (with_reducible repeat (first | apply Kd.R_alloc | apply Kd.R_drewN | apply Kd.R_drew)); exact HO_5.out)); (case aS_9 => exact (below_size (by repeat (first | (with_reducible first | exact HB.out | apply below_alloc | apply pw_below_drewN | apply below_drew1) | exact HB.out)))); (case aL_9 => rw [od_len]; omega); intro v125 w12 ho hb hg hat; have n0_ := Aside0.mk (hb); have n1_ := Aside0.mk (ho); clear HB; clear HO_5; have HB := n0_; have HO126 := n1_; clear n0_ n1_; clear ho hb hg hat))
              go_roundw
              case rel => exact ⟨2, 10, by decide, by decide, rfl, rfl, ⟨by (with_reducible repeat (first | apply Kd.R_alloc | apply Kd.R_drewN | apply Kd.R_drew)); have h_ := HO126.out; rw [od_succ a 9]; exact h_⟩, ⟨by repeat (first | (with_reducible first | exact HB.out | apply below_alloc | apply pw_below_drewN | apply below_drew1) | exact HB.out)⟩⟩
              case measure => simp [intOf]
            · subst h
              obtain rfl : t = 10 := by omega
              clear hn h4 ht hn0
              go_wp2_with (first | ((with_reducible refine gate_builtin (b := .append) (xs := #[.tmp 16, .tmp 22]) rfl ?_); (try (refine gate_guard (by rfl) ?_; dsimp only)); at_builtin; refine Kd.R_append (Kd.int .u64) (w0 := w) w.heap.size ?aG_10 (.tmp 16) (.tmp 22) 34 22 (.int .u64 0) 8 ?aH_10 Try.underlying34 info22 rfl (by decide) (by omega) ?aV_10 (od a (10)) ?aX_10 [.int .u64 ?aX_10] (fun k_ => (w.heap.size ≤ k_)) (fun _ => False) ?aR1_10 ?aR2_10 ?aP_10 (fun _ hk => hk.elim) ?aF_10 ?aO_10 ?aB_10 ?aS_10 ?aL_10 ?_; (case aG_10 => rfl); (case aH_10 => rfl); (case aR1_10 => rfl); (case aR2_10 => rfl); (case aP_10 => exact rfl); (case aB_10 => exact (by repeat (first | (with_reducible first | exact HB.out | apply below_alloc | apply pw_below_drewN | apply below_drew1) | exact HB.out))); (case aF_10 => exact (fun k_ hk => (Nat.le_trans (below_size (by repeat (first | (with_reducible first | exact HB.out | apply below_alloc | apply pw_below_drewN | apply below_drew1) | exact HB.out))) hk))); (case aO_10 => exact (by (with_reducible repeat (first | apply Kd.R_alloc | apply Kd.R_drewN | apply Kd.R_drew)); exact HO_5.out)); (case aS_10 => exact (below_size (by repeat (first | (with_reducible first | exact HB.out | apply below_alloc | apply pw_below_drewN | apply below_drew1) | exact HB.out)))); (case aL_10 => rw [od_len]; omega); intro v125 w12 ho hb hg hat; have n0_ := Aside0.mk (hb); have n1_ := Aside0.mk (ho); clear HB; clear HO_5; have HB := n0_; have HO126 := n1_; clear n0_ n1_; clear ho hb hg hat))
              go_roundw
              case rel => exact ⟨3, 11, by decide, by decide, rfl, rfl, ⟨by (with_reducible repeat (first | apply Kd.R_alloc | apply Kd.R_drewN | apply Kd.R_drew)); have h_ := HO126.out; rw [od_succ a 10]; exact h_⟩, ⟨by repeat (first | (with_reducible first | exact HB.out | apply below_alloc | apply pw_below_drewN | apply below_drew1) | exact HB.out)⟩⟩
              case measure => simp [intOf]
            · subst h
              obtain rfl : t = 11 := by omega
              clear hn h4 ht hn0
              go_wp2_with (first | ((with_reducible refine gate_builtin (b := .append) (xs := #[.tmp 16, .tmp 22]) rfl ?_); (try (refine gate_guard (by rfl) ?_; dsimp only)); at_builtin; refine Kd.R_append (Kd.int .u64) (w0 := w) w.heap.size ?aG_11 (.tmp 16) (.tmp 22) 34 22 (.int .u64 0) 8 ?aH_11 Try.underlying34 info22 rfl (by decide) (by omega) ?aV_11 (od a (11)) ?aX_11 [.int .u64 ?aX_11] (fun k_ => (w.heap.size ≤ k_)) (fun _ => False) ?aR1_11 ?aR2_11 ?aP_11 (fun _ hk => hk.elim) ?aF_11 ?aO_11 ?aB_11 ?aS_11 ?aL_11 ?_; (case aG_11 => rfl); (case aH_11 => rfl); (case aR1_11 => rfl); (case aR2_11 => rfl); (case aP_11 => exact rfl); (case aB_11 => exact (by repeat (first | (with_reducible first | exact HB.out | apply below_alloc | apply pw_below_drewN | apply below_drew1) | exact HB.out))); (case aF_11 => exact (fun k_ hk => (Nat.le_trans (below_size (by repeat (first | (with_reducible first | exact HB.out | apply below_alloc | apply pw_below_drewN | apply below_drew1) | exact HB.out))) hk))); (case aO_11 => exact (by (with_reducible repeat (first | apply Kd.R_alloc | apply Kd.R_drewN | apply Kd.R_drew)); exact HO_5.out)); (case aS_11 => exact (below_size (by repeat (first | (with_reducible first | exact HB.out | apply below_alloc | apply pw_below_drewN | apply below_drew1) | exact HB.out)))); (case aL_11 => rw [od_len]; omega); intro v125 w12 ho hb hg hat; have n0_ := Aside0.mk (hb); have n1_ := Aside0.mk (ho); clear HB; clear HO_5; have HB := n0_; have HO126 := n1_; clear n0_ n1_; clear ho hb hg hat))
              go_roundw
              case rel => exact ⟨4, 12, by decide, by decide, rfl, rfl, ⟨by (with_reducible repeat (first | apply Kd.R_alloc | apply Kd.R_drewN | apply Kd.R_drew)); have h_ := HO126.out; rw [od_succ a 11]; exact h_⟩, ⟨by repeat (first | (with_reducible first | exact HB.out | apply below_alloc | apply pw_below_drewN | apply below_drew1) | exact HB.out)⟩⟩
              case measure => simp [intOf]
          · have : i = 4 := by omega
            subst this
            obtain rfl : t = 12 := by omega
            clear hn h4 ht hn0
            go_wp2_with fail
            go_roundw
            case rel => exact ⟨3, 12, by decide, by decide, rfl, rfl, ⟨by (with_reducible repeat (first | apply Kd.R_alloc | apply Kd.R_drewN | apply Kd.R_drew)); exact HO_5.out⟩, ⟨by repeat (first | (with_reducible first | exact HB.out | apply below_alloc | apply pw_below_drewN | apply below_drew1) | exact HB.out)⟩⟩
            case measure => simp [intOf]
      · subst h
        obtain rfl : t = 12 := by omega
        clear hn h4 ht hn0
        have hix := fun x0 x1 x2 x3 w => index23_3 x0 x1 x2 x3 w
        go_wp2_with fail
        go_loopw [3, 6] (fun s j wr => ∃ (i : Int) (t : Nat), 0 ≤ i ∧ i ≤ 4 ∧ (t : Int) = 12 + i ∧ j = .int .i64 i ∧ Aside0 (Kd.R (Kd.int .u64) 22 wr w.heap.size (fun k_ => w.heap.size ≤ k_) s (od a t)) ∧ Aside0 (Below w.heap.size w wr)) (fun s j wr => 4 - (intOf j).toNat)
        case atStart => exact ⟨0, 12, by decide, by decide, rfl, rfl, ⟨by (with_reducible repeat (first | apply Kd.R_alloc | apply Kd.R_drewN | apply Kd.R_drew)); exact HO_5.out⟩, ⟨by repeat (first | (with_reducible first | exact HB.out | apply below_alloc | apply pw_below_drewN | apply below_drew1) | exact HB.out)⟩⟩
        case round =>
          clear HB HO_5
          obtain ⟨i, t, hn0, hn, ht, rfl, HO_5, HB⟩ := hrel
          by_cases h4 : i < 4
          · obtain h | h | h | h : i = 0 ∨ i = 1 ∨ i = 2 ∨ i = 3 := by omega
            · subst h
              obtain rfl : t = 12 := by omega
              clear hn h4 ht hn0
              go_wp2_with (first | ((with_reducible refine gate_builtin (b := .append) (xs := #[.tmp 16, .tmp 22]) rfl ?_); (try (refine gate_guard (by rfl) ?_; dsimp only)); at_builtin; refine Kd.R_append (Kd.int .u64) (w0 := w) w.heap.size ?aG_12 (.tmp 16) (.tmp 22) 34 22 (.int .u64 0) 8 ?aH_12 Try.underlying34 info22 rfl (by decide) (by omega) ?aV_12 (od a (12)) ?aX_12 [.int .u64 ?aX_12] (fun k_ => (w.heap.size ≤ k_)) (fun _ => False) ?aR1_12 ?aR2_12 ?aP_12 (fun _ hk => hk.elim) ?aF_12 ?aO_12 ?aB_12 ?aS_12 ?aL_12 ?_; (case aG_12 => rfl); (case aH_12 => rfl); (case aR1_12 => rfl); (case aR2_12 => rfl); (case aP_12 => exact rfl); (case aB_12 => exact (by repeat (first | (with_reducible first | exact HB.out | apply below_alloc | apply pw_below_drewN | apply below_drew1) | exact HB.out))); (case aF_12 => exact (fun k_ hk => (Nat.le_trans (below_size (by repeat (first | (with_reducible first | exact HB.out | apply below_alloc | apply pw_below_drewN | apply below_drew1) | exact HB.out))) hk))); (case aO_12 => exact (by (with_reducible repeat (first | apply Kd.R_alloc | apply Kd.R_drewN | apply Kd.R_drew)); exact HO_5.out)); (case aS_12 => exact (below_size (by repeat (first | (with_reducible first | exact HB.out | apply below_alloc | apply pw_below_drewN | apply below_drew1) | exact HB.out)))); (case aL_12 => rw [od_len]; omega); intro v125 w12 ho hb hg hat; have n0_ := Aside0.mk (hb); have n1_ := Aside0.mk (ho); clear HB; clear HO_5; have HB := n0_; have HO126 := n1_; clear n0_ n1_; clear ho hb hg hat))
              go_roundw
              case rel => exact ⟨1, 13, by decide, by decide, rfl, rfl, ⟨by (with_reducible repeat (first | apply Kd.R_alloc | apply Kd.R_drewN | apply Kd.R_drew)); have h_ := HO126.out; rw [od_succ a 12]; rw [show ((wj a (12 / 4) / 2 ^ (16 * (12 % 4)) % 65536 : Nat) : Int) = ((w3 a : Nat) : Int) % 65536 from by (show ((w3 a / 2 ^ 0 % 65536 : Nat) : Int) = _; rw [Nat.pow_zero, Nat.div_one]; rfl)]; exact h_⟩, ⟨by repeat (first | (with_reducible first | exact HB.out | apply below_alloc | apply pw_below_drewN | apply below_drew1) | exact HB.out)⟩⟩
              case measure => simp [intOf]
            · subst h
              obtain rfl : t = 13 := by omega
              clear hn h4 ht hn0
              go_wp2_with (first | ((with_reducible refine gate_builtin (b := .append) (xs := #[.tmp 16, .tmp 22]) rfl ?_); (try (refine gate_guard (by rfl) ?_; dsimp only)); at_builtin; refine Kd.R_append (Kd.int .u64) (w0 := w) w.heap.size ?aG_13 (.tmp 16) (.tmp 22) 34 22 (.int .u64 0) 8 ?aH_13 Try.underlying34 info22 rfl (by decide) (by omega) ?aV_13 (od a (13)) ?aX_13 [.int .u64 ?aX_13] (fun k_ => (w.heap.size ≤ k_)) (fun _ => False) ?aR1_13 ?aR2_13 ?aP_13 (fun _ hk => hk.elim) ?aF_13 ?aO_13 ?aB_13 ?aS_13 ?aL_13 ?_; (case aG_13 => rfl); (case aH_13 => rfl); (case aR1_13 => rfl); (case aR2_13 => rfl); (case aP_13 => exact rfl); (case aB_13 => exact (by repeat (first | (with_reducible first | exact HB.out | apply below_alloc | apply pw_below_drewN | apply below_drew1) | exact HB.out))); (case aF_13 => exact (fun k_ hk => (Nat.le_trans (below_size (by repeat (first | (with_reducible first | exact HB.out | apply below_alloc | apply pw_below_drewN | apply below_drew1) | exact HB.out))) hk))); (case aO_13 => exact (by (with_reducible repeat (first | apply Kd.R_alloc | apply Kd.R_drewN | apply Kd.R_drew)); exact HO_5.out)); (case aS_13 => exact (below_size (by repeat (first | (with_reducible first | exact HB.out | apply below_alloc | apply pw_below_drewN | apply below_drew1) | exact HB.out)))); (case aL_13 => rw [od_len]; omega); intro v125 w12 ho hb hg hat; have n0_ := Aside0.mk (hb); have n1_ := Aside0.mk (ho); clear HB; clear HO_5; have HB := n0_; have HO126 := n1_; clear n0_ n1_; clear ho hb hg hat))
              go_roundw
              case rel => exact ⟨2, 14, by decide, by decide, rfl, rfl, ⟨by (with_reducible repeat (first | apply Kd.R_alloc | apply Kd.R_drewN | apply Kd.R_drew)); have h_ := HO126.out; rw [od_succ a 13]; exact h_⟩, ⟨by repeat (first | (with_reducible first | exact HB.out | apply below_alloc | apply pw_below_drewN | apply below_drew1) | exact HB.out)⟩⟩
              case measure => simp [intOf]
            · subst h
              obtain rfl : t = 14 := by omega
              clear hn h4 ht hn0
              go_wp2_with (first | ((with_reducible refine gate_builtin (b := .append) (xs := #[.tmp 16, .tmp 22]) rfl ?_); (try (refine gate_guard (by rfl) ?_; dsimp only)); at_builtin; refine Kd.R_append (Kd.int .u64) (w0 := w) w.heap.size ?aG_14 (.tmp 16) (.tmp 22) 34 22 (.int .u64 0) 8 ?aH_14 Try.underlying34 info22 rfl (by decide) (by omega) ?aV_14 (od a (14)) ?aX_14 [.int .u64 ?aX_14] (fun k_ => (w.heap.size ≤ k_)) (fun _ => False) ?aR1_14 ?aR2_14 ?aP_14 (fun _ hk => hk.elim) ?aF_14 ?aO_14 ?aB_14 ?aS_14 ?aL_14 ?_; (case aG_14 => rfl); (case aH_14 => rfl); (case aR1_14 => rfl); (case aR2_14 => rfl); (case aP_14 => exact rfl); (case aB_14 => exact (by repeat (first | (with_reducible first | exact HB.out | apply below_alloc | apply pw_below_drewN | apply below_drew1) | exact HB.out))); (case aF_14 => exact (fun k_ hk => (Nat.le_trans (below_size (by repeat (first | (with_reducible first | exact HB.out | apply below_alloc | apply pw_below_drewN | apply below_drew1) | exact HB.out))) hk))); (case aO_14 => exact (by (with_reducible repeat (first | apply Kd.R_alloc | apply Kd.R_drewN | apply Kd.R_drew)); exact HO_5.out)); (case aS_14 => exact (below_size (by repeat (first | (with_reducible first | exact HB.out | apply below_alloc | apply pw_below_drewN | apply below_drew1) | exact HB.out)))); (case aL_14 => rw [od_len]; omega); intro v125 w12 ho hb hg hat; have n0_ := Aside0.mk (hb); have n1_ := Aside0.mk (ho); clear HB; clear HO_5; have HB := n0_; have HO126 := n1_; clear n0_ n1_; clear ho hb hg hat))
              go_roundw
              case rel => exact ⟨3, 15, by decide, by decide, rfl, rfl, ⟨by (with_reducible repeat (first | apply Kd.R_alloc | apply Kd.R_drewN | apply Kd.R_drew)); have h_ := HO126.out; rw [od_succ a 14]; exact h_⟩, ⟨by repeat (first | (with_reducible first | exact HB.out | apply below_alloc | apply pw_below_drewN | apply below_drew1) | exact HB.out)⟩⟩
              case measure => simp [intOf]
            · subst h
              obtain rfl : t = 15 := by omega
              clear hn h4 ht hn0
              go_wp2_with (first | ((with_reducible refine gate_builtin (b := .append) (xs := #[.tmp 16, .tmp 22]) rfl ?_); (try (refine gate_guard (by rfl) ?_; dsimp only)); at_builtin; refine Kd.R_append (Kd.int .u64) (w0 := w) w.heap.size ?aG_15 (.tmp 16) (.tmp 22) 34 22 (.int .u64 0) 8 ?aH_15 Try.underlying34 info22 rfl (by decide) (by omega) ?aV_15 (od a (15)) ?aX_15 [.int .u64 ?aX_15] (fun k_ => (w.heap.size ≤ k_)) (fun _ => False) ?aR1_15 ?aR2_15 ?aP_15 (fun _ hk => hk.elim) ?aF_15 ?aO_15 ?aB_15 ?aS_15 ?aL_15 ?_; (case aG_15 => rfl); (case aH_15 => rfl); (case aR1_15 => rfl); (case aR2_15 => rfl); (case aP_15 => exact rfl); (case aB_15 => exact (by repeat (first | (with_reducible first | exact HB.out | apply below_alloc | apply pw_below_drewN | apply below_drew1) | exact HB.out))); (case aF_15 => exact (fun k_ hk => (Nat.le_trans (below_size (by repeat (first | (with_reducible first | exact HB.out | apply below_alloc | apply pw_below_drewN | apply below_drew1) | exact HB.out))) hk))); (case aO_15 => exact (by (with_reducible repeat (first | apply Kd.R_alloc | apply Kd.R_drewN | apply Kd.R_drew)); exact HO_5.out)); (case aS_15 => exact (below_size (by repeat (first | (with_reducible first | exact HB.out | apply below_alloc | apply pw_below_drewN | apply below_drew1) | exact HB.out)))); (case aL_15 => rw [od_len]; omega); intro v125 w12 ho hb hg hat; have n0_ := Aside0.mk (hb); have n1_ := Aside0.mk (ho); clear HB; clear HO_5; have HB := n0_; have HO126 := n1_; clear n0_ n1_; clear ho hb hg hat))
              go_roundw
              case rel => exact ⟨4, 16, by decide, by decide, rfl, rfl, ⟨by (with_reducible repeat (first | apply Kd.R_alloc | apply Kd.R_drewN | apply Kd.R_drew)); have h_ := HO126.out; rw [od_succ a 15]; exact h_⟩, ⟨by repeat (first | (with_reducible first | exact HB.out | apply below_alloc | apply pw_below_drewN | apply below_drew1) | exact HB.out)⟩⟩
              case measure => simp [intOf]
          · have : i = 4 := by omega
            subst this
            obtain rfl : t = 16 := by omega
            clear hn h4 ht hn0
            go_wp2_with fail
            go_roundw
            case rel => exact ⟨4, 16, by decide, by decide, rfl, rfl, ⟨by (with_reducible repeat (first | apply Kd.R_alloc | apply Kd.R_drewN | apply Kd.R_drew)); exact HO_5.out⟩, ⟨by repeat (first | (with_reducible first | exact HB.out | apply below_alloc | apply pw_below_drewN | apply below_drew1) | exact HB.out)⟩⟩
            case measure => simp [intOf]
    · have : n = 4 := by omega
      subst this
      obtain rfl : t = 16 := by omega
      obtain ⟨Ao14, co14, eo14⟩ := Kd.R_slice HO_5.out
      subst eo14
      go_wp2_with fail
      refine (pontageref03_trim.calls KK (fun k_ => some k_ = (.slice Ao14 (od a 16).length co14 : Value).ownBlock) _ _ (od a 16) LL _ ?side1 A13).mono ?_
      case side1 => exact Kd.R_V (Kd.R_tight rfl (HO_5.out))
      rintro e w15 ⟨v128, rfl, ho0, hb⟩
      have n0_ := Aside0.mk (Kd.R_below (by (with_reducible repeat (first | apply Kd.R_alloc | apply Kd.R_drewN | apply Kd.R_drew)); exact HO_5.out) hb); have n1_ := Aside0.mk (Kd.V_lower (Kd.V_mono (ok' := fun k_ => (w.heap.size ≤ k_)) ho0 (fun k_ hk_ => Or.elim hk_ (fun hs_ => ((HO_5.out).1 k_ hs_.symm)) (fun hn_ => (Nat.le_trans (below_size (by repeat (first | (with_reducible first | exact HB.out | apply below_alloc | apply pw_below_drewN | apply below_drew1) | exact HB.out))) hn_)))) (below_size (by repeat (first | (with_reducible first | exact HB.out | apply below_alloc | apply pw_below_drewN | apply below_drew1) | exact HB.out)))); have n2_ := Aside0.mk (below_step (by repeat (first | (with_reducible first | exact HB.out | apply below_alloc | apply pw_below_drewN | apply below_drew1) | exact HB.out)) hb); clear HO_5; clear HB; have HO_5 := n0_; have HO129 := n1_; have HB := n2_; clear n0_ n1_ n2_
      go_wp2_with fail
      go_ret
      exact ⟨_, rfl, by (with_reducible repeat (first | apply Kd.V_alloc | apply Kd.V_drewN | apply Kd.V_drew)); exact HO129.out, by repeat (first | (with_reducible first | exact HB.out | apply below_alloc | apply pw_below_drewN | apply below_drew1) | exact HB.out)⟩
end Go.Proofs.Ytgghopmlcpcpkaa.PResiduePowers
namespace Go.Proofs.Ytgghopmlcpcpkaa.PResiduePowers
open Go.RowKit PlainK Go.Proofs.YtgghopmlcpcpkaaW.PrintWords Go.Proofs.YtgghopmlcpcpkaaW.PrintLast Go.Proofs.YtgghopmlcpcpkaaW.PrintMore
set_option linter.unusedVariables false
set_option linter.unusedSimpArgs false
theorem wAt_mod {a i : Nat} (hi : i < 4) : wAt a i = a / 2 ^ (64 * i) % 2 ^ 64 := by
  have : i = 0 ∨ i = 1 ∨ i = 2 ∨ i = 3 := by omega
  rcases this with rfl | rfl | rfl | rfl
  · show w0 a = _; unfold w0; rw [Nat.mul_zero, Nat.pow_zero, Nat.div_one]
  · rfl
  · rfl
  · rfl
theorem mod_div16 (x s : Nat) (h : s + 16 ≤ 64) : x % 2 ^ 64 / 2 ^ s % 2 ^ 16 = x / 2 ^ s % 2 ^ 16 := by
  apply Nat.eq_of_testBit_eq
  intro i
  rw [Nat.testBit_mod_two_pow, Nat.testBit_mod_two_pow, Nat.testBit_div_two_pow, Nat.testBit_div_two_pow, Nat.testBit_mod_two_pow]
  by_cases hi : i < 16
  · have : s + i < 64 := by omega
    simp [hi, this, Nat.add_comm i s]
  · simp [hi]
theorem od_digit {a t : Nat} (ht : t < 16) : wj a (t / 4) / 2 ^ (16 * (t % 4)) % 65536 = a / 65536 ^ t % 65536 := by
  show wAt a (t / 4) / 2 ^ (16 * (t % 4)) % 65536 = _
  rw [wAt_mod (by omega), show (65536 : Nat) = 2 ^ 16 from rfl, mod_div16 _ _ (by omega), Nat.div_div_eq_div_mul, ← Nat.pow_add, ← Nat.pow_mul, show 64 * (t / 4) + 16 * (t % 4) = 16 * t by omega]
theorem od_dv (a : Nat) : ∀ n, n ≤ 16 → dv (od a n) = ((a % 65536 ^ n : Nat) : Int)
  | 0, _ => by simp [od, dv, Nat.mod_one]
  | n + 1, h => by
    rw [od_succ, snoc_dv, od_dv a n (by omega), od_len, od_digit (by omega), Nat.mod_pow_succ, Int.natCast_add, Int.natCast_mul, pow_cast]
theorem od_dg (a n : Nat) : Dg (od a n) := fun d hd => by
  obtain ⟨t, _, rfl⟩ := List.mem_map.1 hd
  have : wj a (t / 4) / 2 ^ (16 * (t % 4)) % 65536 < 65536 := Nat.mod_lt _ (by decide)
  omega
/-- Of: the digits of a number -/
theorem ofd_any {a : Nat} (ha : a < 2 ^ 256) (w : World) :
   Calls Try.prog 22 #[.agg #[.int .u64 (w0 a : Nat), .int .u64 (w1 a : Nat), .int .u64 (w2 a : Nat), .int .u64 (w3 a : Nat)]] w fun e w' => ∃ (v : Value) (l : List Int), e = .returned v ∧ Num l a ∧ Kd.V (Kd.int .u64) 22 w' w.heap.size (fun k_ => w.heap.size ≤ k_) v l ∧ Below w.heap.size w w' := by
  obtain ⟨l, ⟨k, e⟩, h1, h2, h3⟩ := trim_is (od_dg a 16) (by rw [od_len]; decide)
  refine (of_walk a w (e k (Nat.le_refl _))).mono ?_
  rintro e w' ⟨v, rfl, hv, hb⟩
  refine ⟨v, l, rfl, ⟨h1, h2, ?_⟩, hv, hb⟩
  rw [h3, od_dv a 16 (by decide), Nat.mod_eq_of_lt (by rw [show (65536 : Nat) ^ 16 = 2 ^ 256 from rfl]; exact ha)]
end Go.Proofs.Ytgghopmlcpcpkaa.PResiduePowers
namespace Go.Proofs.Ytgghopmlcpcpkaa.PResiduePowers
open Go.RowKit PlainK Go.Proofs.YtgghopmlcpcpkaaW.PrintWords Go.Proofs.YtgghopmlcpcpkaaW.PrintLast Go.Proofs.YtgghopmlcpcpkaaW.PrintMore
set_option linter.unusedVariables false
set_option linter.unusedSimpArgs false
/-- the number of the k lowest digits -/
def ldN (f : Nat → Nat) : Nat → Nat
  | 0 => 0
  | k + 1 => ldN f k + f k * 2 ^ (16 * k)
theorem ldN_lt {f : Nat → Nat} (hf : ∀ i, f i < 65536) : ∀ k, ldN f k < 2 ^ (16 * k)
  | 0 => by simp [ldN]
  | k + 1 => by
    have h1 := ldN_lt hf k
    have h2 := hf k
    show ldN f k + f k * 2 ^ (16 * k) < 2 ^ (16 * (k + 1))
    rw [show 16 * (k + 1) = 16 * k + 16 by omega, Nat.pow_add]
    have h3 : (f k + 1) * 2 ^ (16 * k) ≤ 65536 * 2 ^ (16 * k) := Nat.mul_le_mul_right _ (by omega)
    rw [Nat.add_mul] at h3
    omega
theorem word_keep {a x k i : Nat} (ha : a < 2 ^ (16 * k)) (hx : x < 65536) (hi : i < 4) (h : i ≠ k / 4) : wAt (a + x * 2 ^ (16 * k)) i = wAt a i := by
  rw [wAt_mod hi, wAt_mod hi]
  by_cases h1 : i < k / 4
  · obtain ⟨d, hd⟩ : ∃ d, 16 * k = 64 * i + 64 + d := ⟨16 * k - 64 * i - 64, by omega⟩
    rw [hd, Nat.pow_add, Nat.pow_add, show x * (2 ^ (64 * i) * 2 ^ 64 * 2 ^ d) = 2 ^ (64 * i) * (2 ^ 64 * (x * 2 ^ d)) by ac_rfl, Nat.add_mul_div_left _ _ (Nat.two_pow_pos _), Nat.add_mul_mod_self_left]
  · have hp : 2 ^ (16 * k) * 65536 ≤ 2 ^ (64 * i) := by
      rw [show (65536 : Nat) = 2 ^ 16 from rfl, ← Nat.pow_add]; exact Nat.pow_le_pow_right (by omega) (by omega)
    have h2 : x * 2 ^ (16 * k) ≤ 65535 * 2 ^ (16 * k) := Nat.mul_le_mul_right _ (by omega)
    rw [Nat.div_eq_of_lt (by omega), Nat.div_eq_of_lt (by omega)]
theorem word_new' {a x q y : Nat} (ha : a < 2 ^ (64 * q + y)) (hx : x < 65536) (hy : y + 16 ≤ 64) : (a + x * 2 ^ (64 * q + y)) / 2 ^ (64 * q) % 2 ^ 64 = a / 2 ^ (64 * q) % 2 ^ 64 + x * 2 ^ y := by
  have h1 : a / 2 ^ (64 * q) < 2 ^ y := by
    rw [Nat.div_lt_iff_lt_mul (Nat.two_pow_pos _), ← Nat.pow_add, Nat.add_comm]; exact ha
  have hp : 2 ^ y * 65536 ≤ 2 ^ 64 := by
    rw [show (65536 : Nat) = 2 ^ 16 from rfl, ← Nat.pow_add]; exact Nat.pow_le_pow_right (by omega) (by omega)
  have h2 : x * 2 ^ y ≤ 65535 * 2 ^ y := Nat.mul_le_mul_right _ (by omega)
  have h3 : (a + x * 2 ^ (64 * q + y)) / 2 ^ (64 * q) = a / 2 ^ (64 * q) + x * 2 ^ y := by
    rw [Nat.pow_add, show x * (2 ^ (64 * q) * 2 ^ y) = 2 ^ (64 * q) * (x * 2 ^ y) by ac_rfl, Nat.add_mul_div_left _ _ (Nat.two_pow_pos _)]
  rw [h3]
  generalize a / 2 ^ (64 * q) = b at *
  generalize 2 ^ 64 = M at *
  rw [Nat.mod_eq_of_lt (by omega), Nat.mod_eq_of_lt (by omega)]
theorem word_new {a x k : Nat} (ha : a < 2 ^ (16 * k)) (hx : x < 65536) (hk : k < 16) : wAt (a + x * 2 ^ (16 * k)) (k / 4) = wAt a (k / 4) + x * 2 ^ (16 * (k % 4)) := by
  rw [wAt_mod (by omega), wAt_mod (by omega)]
  have e : 64 * (k / 4) + 16 * (k % 4) = 16 * k := by omega
  have := word_new' (a := a) (x := x) (q := k / 4) (y := 16 * (k % 4)) (by rw [e]; exact ha) hx (by omega)
  rwa [e] at this
theorem row_set {a b q : Nat} (hq : q < 4) (h : ∀ i, i < 4 → i ≠ q → wAt b i = wAt a i) : (#[.int .u64 (w0 (a) : Nat), .int .u64 (w1 (a) : Nat), .int .u64 (w2 (a) : Nat), .int .u64 (w3 (a) : Nat)] : Array Value).setIfInBounds q (.int .u64 (wAt b q : Nat)) = #[.int .u64 (w0 (b) : Nat), .int .u64 (w1 (b) : Nat), .int .u64 (w2 (b) : Nat), .int .u64 (w3 (b) : Nat)] := by
  have : q = 0 ∨ q = 1 ∨ q = 2 ∨ q = 3 := by omega
  rcases this with rfl | rfl | rfl | rfl
  · have h1 : w1 b = w1 a := h 1 (by omega) (by omega)
    have h2 : w2 b = w2 a := h 2 (by omega) (by omega)
    have h3 : w3 b = w3 a := h 3 (by omega) (by omega)
    rw [h1, h2, h3]; rfl
  · have h1 : w0 b = w0 a := h 0 (by omega) (by omega)
    have h2 : w2 b = w2 a := h 2 (by omega) (by omega)
    have h3 : w3 b = w3 a := h 3 (by omega) (by omega)
    rw [h1, h2, h3]; rfl
  · have h1 : w0 b = w0 a := h 0 (by omega) (by omega)
    have h2 : w1 b = w1 a := h 1 (by omega) (by omega)
    have h3 : w3 b = w3 a := h 3 (by omega) (by omega)
    rw [h1, h2, h3]; rfl
  · have h1 : w0 b = w0 a := h 0 (by omega) (by omega)
    have h2 : w1 b = w1 a := h 1 (by omega) (by omega)
    have h3 : w2 b = w2 a := h 2 (by omega) (by omega)
    rw [h1, h2, h3]; rfl
/-- the digits as natural numbers -/
def fd (l : List Int) (i : Nat) : Nat := (dg l i).toNat
theorem fd_int {l : List Int} (h : Dg l) (i : Nat) : ((fd l i : Nat) : Int) = dg l i := Int.toNat_of_nonneg (dg_bound h i).1
theorem fd_lt {l : List Int} (h : Dg l) (i : Nat) : fd l i < 65536 := by have := dg_bound h i; unfold fd; omega
theorem ldN_dv {l : List Int} (h : Dg l) : ∀ k, k ≤ l.length → ((ldN (fd l) k : Nat) : Int) = dv (l.take k)
  | 0, _ => by simp [ldN, dv]
  | k + 1, hk => by
    have ih := ldN_dv h k (by omega)
    rw [List.take_succ_eq_append_getElem (by omega), snoc_dv, List.length_take, Nat.min_eq_left (by omega), ← ih, ldN, Int.natCast_add, Int.natCast_mul, fd_int h, Nat.pow_mul, show (2 : Nat) ^ 16 = 65536 from rfl, pow_cast, Int.mul_comm]
    unfold dg; rw [List.getD_eq_getElem?_getD, List.getElem?_eq_getElem (show k < l.length by omega)]; rfl
set_option maxRecDepth 10000 in
set_option maxHeartbeats 8000000 in
theorem words_walk {l : List Int} {A0 : Option Addr} {c0 : Nat} (hd : Dg l) (h16 : l.length ≤ 16) (w : World) (hr0 : Kd.C (Kd.int .u64) w A0 l.length l) (hc0 : l.length ≤ c0) :
   Calls Try.prog 58 #[.slice A0 l.length c0] w fun e w' => e = .returned (.tuple #[.agg #[.int .u64 (w0 (ldN (fd l) l.length) : Nat), .int .u64 (w1 (ldN (fd l) l.length) : Nat), .int .u64 (w2 (ldN (fd l) l.length) : Nat), .int .u64 (w3 (ldN (fd l) l.length) : Nat)], .bool false]) ∧ Below w.heap.size w w' := by
  have hff := Lib.hid (fd_lt hd)
  have hfi := Lib.hid (fd_int hd)
  have HR0 := Lib.hid hr0
  have H16 := Lib.hid h16
  clear hd hr0 hc0 h16
  go_enter Try.func58, Try.ntmps58
  go_upto_region 2 with fail
  obtain ⟨V0, hW⟩ : ∃ V, (w.alloc (.cells #[.int .u64 0, .int .u64 0, .int .u64 0, .int .u64 0] 23)).alloc (.cells #[.int .u64 0, .int .u64 0, .int .u64 0, .int .u64 0] 23) = V := ⟨_, rfl⟩
  rw [hW]
  have hR : V0.heap[w.heap.size]? = some (.cells #[.int .u64 0, .int .u64 0, .int .u64 0, .int .u64 0] 23 (0, 0)) := by
    rw [← hW]; simp only [alloc_at, World.size_alloc]; repeat (first | rw [if_pos trivial] | rw [if_pos (by omega)] | rw [if_neg (by omega)])
  have hO : V0.heap[w.heap.size + 1]? = some (.cells #[.int .u64 0, .int .u64 0, .int .u64 0, .int .u64 0] 23 (0, 0)) := by
    rw [← hW]; simp only [alloc_at, World.size_alloc]; repeat (first | rw [if_pos trivial] | rw [if_pos (by omega)] | rw [if_neg (by omega)])
  have kk : Below w.heap.size w V0 := by
    rw [← hW]
    repeat (first | exact Below.refl _ _ | refine Below.drew ?_ | refine bal ?_ _)
  clear hW
  go_wp2_with fail
  go_loopw [5] (fun i wr => ∃ (k : Nat), k ≤ l.length ∧ i = .int .i64 (k : Int) ∧ wr.heap[w.heap.size]? = some (.cells #[.int .u64 0, .int .u64 0, .int .u64 0, .int .u64 0] 23 (0, 0)) ∧ wr.heap[w.heap.size + 1]? = some (.cells #[.int .u64 (w0 (ldN (fd l) k) : Nat), .int .u64 (w1 (ldN (fd l) k) : Nat), .int .u64 (w2 (ldN (fd l) k) : Nat), .int .u64 (w3 (ldN (fd l) k) : Nat)] 23 (0, 0)) ∧ Below w.heap.size w wr) (fun i wr => (16 - intOf i).toNat)
  case atStart => exact ⟨0, by omega, rfl, hR, by rw [hO]; unfold ldN; congr 2, kk⟩
  case round =>
    clear hR hO kk
    obtain ⟨k, hk, rfl, hR, hO, kk⟩ := hrel
    have h16 := H16.out
    by_cases hk2 : k < l.length
    · have k1 : (k : Int) < 16 := by omega
      have k2 : (0 : Int) ≤ (k : Int) := by omega
      have k3 : (k : Int) < (l.length : Int) := by omega
      have hq : k / 4 < 4 := by omega
      have t1 : IntKind.i64.wrap ((k : Int).tdiv 4) = ((k / 4 : Nat) : Int) := by rw [show (k : Int).tdiv 4 = ((k / 4 : Nat) : Int) from by rw [Int.tdiv_eq_ediv_of_nonneg (by omega)]; omega]; exact IntWalk.i64_in _ (by omega)
      have t2 : (k : Int).tmod 4 = ((k % 4 : Nat) : Int) := by rw [Int.tmod_eq_emod_of_nonneg (by omega)]; omega
      have t1' : IntKind.i64.wrap ((k : Int) / 4) = (k : Int) / 4 := IntWalk.i64_in _ (by omega)
      have t6 : IntKind.i64.wrap (16 * ((k : Int) % 4)) = 16 * ((k : Int) % 4) := IntWalk.i64_in _ (by omega)
      have t9 : (16 * ((k : Int) % 4)).toNat = 16 * (k % 4) := by omega
      have t4 : (k : Int) / 4 < 4 := by omega
      have t5 : (0 : Int) ≤ (k : Int) / 4 := by omega
      have t10 : ((k : Int) / 4).toNat = k / 4 := by omega
      have hwk := word_new (a := ldN (fd l) k) (x := fd l k) (k := k) (ldN_lt hff.out k) (hff.out k) (by omega)
      have hwl := wAt_lt (ldN (fd l) k + fd l k * 2 ^ (16 * k)) (k / 4)
      obtain ⟨sh, hsh⟩ : ∃ n, fd l k * 2 ^ (16 * (k % 4)) = n := ⟨_, rfl⟩
      rw [hsh] at hwk
      have t11 : IntKind.u64.wrap ((fd l k : Nat) * 2 ^ (16 * (k % 4)) : Int) = (sh : Nat) := by
        have e : ((fd l k : Nat) * 2 ^ (16 * (k % 4)) : Int) = ((fd l k * 2 ^ (16 * (k % 4)) : Nat) : Int) := by rw [Int.natCast_mul, Int.natCast_pow]; rfl
        rw [e, hsh]; exact IntWalk.u64_in _ (by omega)
      obtain ⟨acc, hacc⟩ : ∃ n, ldN (fd l) k = n := ⟨_, rfl⟩
      obtain ⟨nxt, hnx⟩ : ∃ n, ldN (fd l) (k + 1) = n := ⟨_, rfl⟩
      have hnv : nxt = acc + fd l k * 2 ^ (16 * k) := by rw [← hnx, ← hacc]; rfl
      have hal : acc < 2 ^ (16 * k) := by rw [← hacc]; exact ldN_lt hff.out k
      rw [hacc] at hO hwk hwl
      rw [← hnv] at hwk hwl
      have t12 : IntKind.u64.wrap (((wAt acc (k / 4) : Nat) : Int) + (sh : Nat)) = ((wAt nxt (k / 4) : Nat) : Int) := by rw [hwk]; exact IntWalk.u64_in _ (by omega)
      have HA := Lib.hid hacc
      have HN := Lib.hid hnx
      have HV := Lib.hid hnv
      have HL := Lib.hid hal
      clear hacc hnx hnv hal hwk hwl hsh
      obtain ⟨ad, e101, cl0⟩ := Kd.at_int (Kd.C_below HR0.out kk) k k2 k3
      subst e101
      rw [rd_dg, ← hfi.out, Int.toNat_natCast] at cl0
      go_upto_region 5 with fail
      obtain ⟨S0, hS0⟩ : ∃ S : World → Prop, S = (fun w' => w'.heap[w.heap.size + 1]? = some (.cells #[.int .u64 (w0 (acc) : Nat), .int .u64 (w1 (acc) : Nat), .int .u64 (w2 (acc) : Nat), .int .u64 (w3 (acc) : Nat)] 23 (0, 0)) ∧ w'.cell? (ad.add k) = some (.int .u64 (fd l k : Nat))) := ⟨_, rfl⟩
      refine startT (S := S0) 16 (by kernel_rfl) (by rw [hS0]; exact ⟨hO, cl0⟩) (fun hHeld => ?_)
      refine takeT (i := 0) (d := some 17) (v := ?_) _ rfl rfl (by rfl) (by kernel_rfl) (by decide) (by kernel_rfl) (by kernel_rfl) (by kernel_rfl) (fun _ _ _ h => h) (by assumption) (by kernel_rfl) ?_ ?_
      rotate_left
      · (first | (intro w' hSw; clear hSw; go_simp; try (with_reducible rfl)) | (intro w'; go_simp; try (with_reducible rfl)))
      try simp only [Act.put, List.setIfInBounds_toArray, List.set_cons_zero, List.set_cons_succ]
      refine takeT (i := 1) (d := some 18) (v := ?_) _ rfl rfl (by rfl) (by kernel_rfl) (by decide) (by kernel_rfl) (by kernel_rfl) (by kernel_rfl) (fun _ _ _ h => h) (by assumption) (by kernel_rfl) ?_ ?_
      rotate_left
      · (first | (intro w' hSw; clear hSw; go_simp; try (with_reducible rfl)) | (intro w'; go_simp; try (with_reducible rfl)))
      try simp only [Act.put, List.setIfInBounds_toArray, List.set_cons_zero, List.set_cons_succ]
      refine takeT (i := 2) (d := some 19) (v := ?_) _ rfl rfl (by rfl) (by kernel_rfl) (by decide) (by kernel_rfl) (by kernel_rfl) (by kernel_rfl) (fun _ _ _ h => h) (by assumption) (by kernel_rfl) ?_ ?_
      rotate_left
      · (first | (intro w' hSw; clear hSw; go_simp; try (with_reducible rfl)) | (intro w'; go_simp; try (with_reducible rfl)))
      try simp only [Act.put, List.setIfInBounds_toArray, List.set_cons_zero, List.set_cons_succ]
      refine takeT (i := 3) (d := some 20) (v := ?_) _ rfl rfl (by rfl) (by kernel_rfl) (by decide) (by kernel_rfl) (by kernel_rfl) (by kernel_rfl) (fun _ _ _ h => h) (by assumption) (by kernel_rfl) ?_ ?_
      rotate_left
      · (first | (intro w' hSw; clear hSw; go_simp; try (with_reducible rfl)) | (intro w'; go_simp; try (with_reducible rfl)))
      try simp only [Act.put, List.setIfInBounds_toArray, List.set_cons_zero, List.set_cons_succ]
      refine takeT (i := 4) (d := some 21) (v := ?_) _ rfl rfl (by rfl) (by kernel_rfl) (by decide) (by kernel_rfl) (by kernel_rfl) (by kernel_rfl) (fun _ _ _ h => h) (by assumption) (by kernel_rfl) ?_ ?_
      rotate_left
      · (first | (intro w' hSw; clear hSw; go_simp; try (with_reducible rfl)) | (intro w'; go_simp; try (with_reducible rfl)))
      try simp only [Act.put, List.setIfInBounds_toArray, List.set_cons_zero, List.set_cons_succ]
      refine takeT (i := 5) (d := some 22) (v := ?_) _ rfl rfl (by rfl) (by kernel_rfl) (by decide) (by kernel_rfl) (by kernel_rfl) (by kernel_rfl) (fun _ _ _ h => h) (by assumption) (by kernel_rfl) ?_ ?_
      rotate_left
      · (intro w' hSw; rw [hS0] at hSw; obtain ⟨hSw, cl⟩ := hSw; have cb := wAt_cell hSw hq; go_simp; try (with_reducible rfl))
      try simp only [Act.put, List.setIfInBounds_toArray, List.set_cons_zero, List.set_cons_succ]
      refine takeT (i := 6) (d := some 23) (v := ?_) _ rfl rfl (by rfl) (by kernel_rfl) (by decide) (by kernel_rfl) (by kernel_rfl) (by kernel_rfl) (fun _ _ _ h => h) (by assumption) (by kernel_rfl) ?_ ?_
      rotate_left
      · (first | (intro w' hSw; clear hSw; go_simp; try (with_reducible rfl)) | (intro w'; go_simp; try (with_reducible rfl)))
      try simp only [Act.put, List.setIfInBounds_toArray, List.set_cons_zero, List.set_cons_succ]
      refine takeT (i := 7) (d := some 24) (v := ?_) _ rfl rfl (by rfl) (by kernel_rfl) (by decide) (by kernel_rfl) (by kernel_rfl) (by kernel_rfl) (fun _ _ _ h => h) (by assumption) (by kernel_rfl) ?_ ?_
      rotate_left
      · (first | (intro w' hSw; clear hSw; go_simp; try (with_reducible rfl)) | (intro w'; go_simp; try (with_reducible rfl)))
      try simp only [Act.put, List.setIfInBounds_toArray, List.set_cons_zero, List.set_cons_succ]
      refine takeT (i := 8) (d := some 25) (v := ?_) _ rfl rfl (by rfl) (by kernel_rfl) (by decide) (by kernel_rfl) (by kernel_rfl) (by kernel_rfl) (fun _ _ _ h => h) (by assumption) (by kernel_rfl) ?_ ?_
      rotate_left
      · (first | (intro w' hSw; clear hSw; go_simp; try (with_reducible rfl)) | (intro w'; go_simp; try (with_reducible rfl)))
      try simp only [Act.put, List.setIfInBounds_toArray, List.set_cons_zero, List.set_cons_succ]
      refine takeT (i := 9) (d := some 26) (v := ?_) _ rfl rfl (by rfl) (by kernel_rfl) (by decide) (by kernel_rfl) (by kernel_rfl) (by kernel_rfl) (fun _ _ _ h => h) (by assumption) (by kernel_rfl) ?_ ?_
      rotate_left
      · (intro w' hSw; rw [hS0] at hSw; obtain ⟨hSw, cl⟩ := hSw; have cb := wAt_cell hSw hq; go_simp; try (with_reducible rfl))
      try simp only [Act.put, List.setIfInBounds_toArray, List.set_cons_zero, List.set_cons_succ]
      refine takeT (i := 10) (d := some 27) (v := ?_) _ rfl rfl (by rfl) (by kernel_rfl) (by decide) (by kernel_rfl) (by kernel_rfl) (by kernel_rfl) (fun _ _ _ h => h) (by assumption) (by kernel_rfl) ?_ ?_
      rotate_left
      · (first | (intro w' hSw; clear hSw; go_simp; try (with_reducible rfl)) | (intro w'; go_simp; try (with_reducible rfl)))
      try simp only [Act.put, List.setIfInBounds_toArray, List.set_cons_zero, List.set_cons_succ]
      refine takeT (i := 11) (d := some 28) (v := ?_) _ rfl rfl (by rfl) (by kernel_rfl) (by decide) (by kernel_rfl) (by kernel_rfl) (by kernel_rfl) (fun _ _ _ h => h) (by assumption) (by kernel_rfl) ?_ ?_
      rotate_left
      · (first | (intro w' hSw; clear hSw; go_simp; try (with_reducible rfl)) | (intro w'; go_simp; try (with_reducible rfl)))
      try simp only [Act.put, List.setIfInBounds_toArray, List.set_cons_zero, List.set_cons_succ]
      refine takeT (i := 12) (d := some 29) (v := ?_) _ rfl rfl (by rfl) (by kernel_rfl) (by decide) (by kernel_rfl) (by kernel_rfl) (by kernel_rfl) (fun _ _ _ h => h) (by assumption) (by kernel_rfl) ?_ ?_
      rotate_left
      · (first | (intro w' hSw; clear hSw; go_simp; try (with_reducible rfl)) | (intro w'; go_simp; try (with_reducible rfl)))
      try simp only [Act.put, List.setIfInBounds_toArray, List.set_cons_zero, List.set_cons_succ]
      refine takeT (i := 13) (d := some 30) (v := ?_) _ rfl rfl (by rfl) (by kernel_rfl) (by decide) (by kernel_rfl) (by kernel_rfl) (by kernel_rfl) (fun _ _ _ h => h) (by assumption) (by kernel_rfl) ?_ ?_
      rotate_left
      · (first | (intro w' hSw; clear hSw; go_simp; try (with_reducible rfl)) | (intro w'; go_simp; try (with_reducible rfl)))
      try simp only [Act.put, List.setIfInBounds_toArray, List.set_cons_zero, List.set_cons_succ]
      refine takeT (i := 14) (d := some 31) (v := ?_) _ rfl rfl (by rfl) (by kernel_rfl) (by decide) (by kernel_rfl) (by kernel_rfl) (by kernel_rfl) (fun _ _ _ h => h) (by assumption) (by kernel_rfl) ?_ ?_
      rotate_left
      · (first | (intro w' hSw; clear hSw; go_simp; try (with_reducible rfl)) | (intro w'; go_simp; try (with_reducible rfl)))
      try simp only [Act.put, List.setIfInBounds_toArray, List.set_cons_zero, List.set_cons_succ]
      refine takeT (i := 15) (d := some 32) (v := ?_) _ rfl rfl (by rfl) (by kernel_rfl) (by decide) (by kernel_rfl) (by kernel_rfl) (by kernel_rfl) (fun _ _ _ h => h) (by assumption) (by kernel_rfl) ?_ ?_
      rotate_left
      · (first | (intro w' hSw; clear hSw; go_simp; try (with_reducible rfl)) | (intro w'; go_simp; try (with_reducible rfl)))
      try simp only [Act.put, List.setIfInBounds_toArray, List.set_cons_zero, List.set_cons_succ]
      have cb := wAt_cell hO hq
      have zb := frozen_of_row _ _ (k / 4) _ _ hO
      refine callT (i := 16) _ rfl (by rfl) (by kernel_rfl) (fun K hK => ?_)
      go_simp
      have P1 := put1 (i := k / 4) (.int .u64 (wAt nxt (k / 4) : Nat)) hO
      rw [row_set hq (fun i hi hne => by rw [HV.out]; exact word_keep HL.out (hff.out k) hi hne)] at P1
      obtain ⟨V1, hV1⟩ : ∃ V, wr.setCell ⟨w.heap.size + 1, k / 4, none⟩ (.int .u64 (wAt nxt (k / 4) : Nat)) = V := ⟨_, rfl⟩
      rw [hV1] at P1
      rw [hV1]
      refine hK.out _ _ (Or.inl (by kernel_rfl)) ?_
      clear hK K
      try simp only [Act.put, List.setIfInBounds_toArray, List.set_cons_zero, List.set_cons_succ]
      refine doneT (by kernel_rfl) ?_ _
      go_simp
      go_wp2_with fail
      refine ⟨⟨k + 1, by omega, congrArg (Value.int .i64) (by omega), (P1.there _ (by omega)).trans hR, by rw [HN.out]; exact P1.here, by first | exact P1.below (by omega) kk | exact (P1.below (by omega) kk).drew⟩, ?_⟩
      simp only [intOf]; omega
    · obtain rfl : k = l.length := by omega
      obtain ⟨nn, hnn⟩ : ∃ n, ldN (fd l) l.length = n := ⟨_, rfl⟩
      rw [hnn] at hO
      have HN := Lib.hid hnn
      clear hnn
      obtain ⟨cO0, cO1, cO2, cO3⟩ := row4c hO
      obtain ⟨zO0, zO1, zO2, zO3⟩ := row4z hO
      obtain ⟨cR0, cR1, cR2, cR3⟩ := row4c hR
      obtain ⟨zR0, zR1, zR2, zR3⟩ := row4z hR
      have k3 : ¬ (l.length : Int) < (l.length : Int) := by omega
      have k5 : ¬ (16 : Int) < (l.length : Int) := by omega
      rcases (by omega : (l.length : Int) < 16 ∨ ¬ (l.length : Int) < 16) with k1 | k1
      · go_wp2_with fail
        have P := put4 (.int .u64 (w0 (nn) : Nat)) (.int .u64 (w1 (nn) : Nat)) (.int .u64 (w2 (nn) : Nat)) (.int .u64 (w3 (nn) : Nat)) hR
        replace P := put_hid P
        obtain ⟨V9, hV9, P⟩ := P
        rw [hV9]
        have P9 := P.here
        have k9 := P.below (by omega) (show Below w.heap.size w wr from by first | exact kk | exact kk.drew | exact below_drewN kk _)
        obtain ⟨v0, v1, v2, v3⟩ := row4c P9
        refine bodyPost_ret (v := _) (by simp [results, Try.results58, go_sem, v0, v1, v2, v3]; rfl) rfl ?_
        rw [HN.out]
        exact ⟨rfl, k9⟩
      · go_wp2_with fail
        have P := put4 (.int .u64 (w0 (nn) : Nat)) (.int .u64 (w1 (nn) : Nat)) (.int .u64 (w2 (nn) : Nat)) (.int .u64 (w3 (nn) : Nat)) hR
        replace P := put_hid P
        obtain ⟨V9, hV9, P⟩ := P
        rw [hV9]
        have P9 := P.here
        have k9 := P.below (by omega) (show Below w.heap.size w wr from by first | exact kk | exact kk.drew | exact below_drewN kk _)
        obtain ⟨v0, v1, v2, v3⟩ := row4c P9
        refine bodyPost_ret (v := _) (by simp [results, Try.results58, go_sem, v0, v1, v2, v3]; rfl) rfl ?_
        rw [HN.out]
        exact ⟨rfl, k9⟩
/-- Words: a number's words -/
theorem words_any {l : List Int} {n : Nat} {A0 : Option Addr} {c0 : Nat} (hl : Num l n) (hn : n < 2 ^ 256) (w : World) (hr0 : Kd.C (Kd.int .u64) w A0 l.length l) (hc0 : l.length ≤ c0) :
   Calls Try.prog 58 #[.slice A0 l.length c0] w fun e w' => e = .returned (.tuple #[.agg #[.int .u64 (w0 (n) : Nat), .int .u64 (w1 (n) : Nat), .int .u64 (w2 (n) : Nat), .int .u64 (w3 (n) : Nat)], .bool false]) ∧ Below w.heap.size w w' := by
  have h16 : l.length ≤ 16 := hl.len (by rw [show (65536 : Nat) ^ 16 = 2 ^ 256 from rfl]; exact hn)
  have e : ldN (fd l) l.length = n := by
    have h := ldN_dv hl.dg l.length (Nat.le_refl _)
    rw [List.take_length, hl.val] at h
    exact Int.ofNat_inj.1 h
  have := words_walk hl.dg h16 w hr0 hc0
  rw [e] at this
  exact this
end Go.Proofs.Ytgghopmlcpcpkaa.PResiduePowers
namespace Go.Proofs.Ytgghopmlcpcpkaa.PResiduePowers
open Go.RowKit PlainK Go.Proofs.YtgghopmlcpcpkaaW.PrintWords Go.Proofs.YtgghopmlcpcpkaaW.PrintLast Go.Proofs.YtgghopmlcpcpkaaW.PrintMore
set_option linter.unusedVariables false
set_option linter.unusedSimpArgs false
def bigK : Nat := 1000
/-- a slice that holds a number's digits -/
def NumV (w : World) (v : Value) (n : Nat) : Prop := ∃ A c l, v = .slice A (l : List Int).length c ∧ l.length ≤ c ∧ Num l n ∧ Kd.C (Kd.int .u64) w A l.length l
theorem NumV.below {w w' : World} {v : Value} {n : Nat} (h : NumV w v n) (hb : Below w.heap.size w w') : NumV w' v n := by
  obtain ⟨A, c, l, e, hc, hl, h⟩ := h
  exact ⟨A, c, l, e, hc, hl, Kd.C_below h hb⟩
theorem NumV.drew {w : World} {v : Value} {n : Nat} (h : NumV w v n) : NumV w.drew v n := h.below (Below.refl _ w).drew
theorem NumV.of {w : World} {B : Nat} {P : Nat → Prop} {v : Value} {l : List Int} {n : Nat} (h : Kd.V (Kd.int .u64) 22 w B P v l) (hl : Num l n) : NumV w v n := by
  obtain ⟨A, c, rfl⟩ := Kd.V_slice h
  obtain ⟨_, h1, h2⟩ := Kd.V_reads' h
  exact ⟨A, c, l, rfl, h1, hl, h2⟩
theorem num_of {a : Nat} (ha : a < 2 ^ 256) (w : World) : Calls Try.prog 22 #[.agg #[.int .u64 (w0 (a) : Nat), .int .u64 (w1 (a) : Nat), .int .u64 (w2 (a) : Nat), .int .u64 (w3 (a) : Nat)]] w fun e w' => ∃ v, e = .returned v ∧ NumV w' v a ∧ Below w.heap.size w w' := by
  refine (ofd_any ha w).mono ?_
  rintro e w' ⟨v, l, rfl, hl, hv, hb⟩
  exact ⟨v, rfl, NumV.of hv hl, hb⟩
theorem num_add {a b : Value} {n m : Nat} {w : World} (ha : NumV w a n) (hb : NumV w b m) (hn : n < 2 ^ bigK) (hm : m < 2 ^ bigK) : Calls Try.prog 35 #[a, b] w fun e w' => ∃ v, e = .returned v ∧ NumV w' v (n + m) ∧ Below w.heap.size w w' := by
  obtain ⟨A, c, l, rfl, hc, hl, hC⟩ := ha
  obtain ⟨A', c', l', rfl, hc', hl', hC'⟩ := hb
  obtain ⟨r, ⟨k, e⟩, hr⟩ := add_is hl hl' (two_pow_len (by decide) hl hn) (two_pow_len (by decide) hl' hm)
  refine (pontageref03_Add.calls k A c l A' c' l' r w hC hc hC' hc' (e k (Nat.le_refl _))).mono ?_
  rintro e w' ⟨v, rfl, hv, hb⟩
  exact ⟨v, rfl, NumV.of hv hr, hb⟩
theorem num_sub {a b : Value} {n m : Nat} {w : World} (ha : NumV w a n) (hb : NumV w b m) (hn : n < 2 ^ bigK) (hm : m ≤ n) : Calls Try.prog 34 #[a, b] w fun e w' => ∃ v, e = .returned v ∧ NumV w' v (n - m) ∧ Below w.heap.size w w' := by
  obtain ⟨A, c, l, rfl, hc, hl, hC⟩ := ha
  obtain ⟨A', c', l', rfl, hc', hl', hC'⟩ := hb
  obtain ⟨r, ⟨k, e⟩, hr⟩ := sub_is hl hl' (two_pow_len (by decide) hl hn) hm
  refine (pontageref03_Sub.calls k A c l A' c' l' r w hC hc hC' hc' (e k (Nat.le_refl _))).mono ?_
  rintro e w' ⟨v, rfl, hv, hb⟩
  exact ⟨v, rfl, NumV.of hv hr, hb⟩
theorem num_mul {a b : Value} {n m : Nat} {w : World} (ha : NumV w a n) (hb : NumV w b m) (hn : n < 2 ^ bigK) (hm : m < 2 ^ bigK) : Calls Try.prog 21 #[a, b] w fun e w' => ∃ v, e = .returned v ∧ NumV w' v (n * m) ∧ Below w.heap.size w w' := by
  obtain ⟨A, c, l, rfl, hc, hl, hC⟩ := ha
  obtain ⟨A', c', l', rfl, hc', hl', hC'⟩ := hb
  obtain ⟨r, ⟨k, e⟩, hr⟩ := mul_is hl hl' (two_pow_lenK (m := 3900) (by decide) hl hn) (two_pow_lenK (m := 3900) (by decide) hl' hm)
  refine (pontageref03_Mul.calls k A c l A' c' l' r w hC hc hC' hc' (e k (Nat.le_refl _))).mono ?_
  rintro e w' ⟨v, rfl, hv, hb⟩
  exact ⟨v, rfl, NumV.of hv hr, hb⟩
theorem num_div {a b : Value} {n m : Nat} {w : World} (ha : NumV w a n) (hb : NumV w b m) (h0 : 0 < m) (hn : n < 2 ^ bigK) (hm : m < 2 ^ bigK) : Calls Try.prog 63 #[a, b] w fun e w' => ∃ q v, e = .returned (.tuple #[q, v]) ∧ NumV w' v (n % m) ∧ Below w.heap.size w w' := by
  obtain ⟨A, c, l, rfl, hc, hl, hC⟩ := ha
  obtain ⟨A', c', l', rfl, hc', hl', hC'⟩ := hb
  obtain ⟨q, r, ⟨k, e⟩, hr⟩ := div_is hl hl' h0 hn hm (by decide)
  refine (pontageref03_Div.calls k A c l A' c' l' q r w hC hc hC' hc' (e k (Nat.le_refl _))).mono ?_
  rintro e w' ⟨v, v', rfl, hv, hv', hb⟩
  exact ⟨v, v', rfl, NumV.of hv' hr, hb⟩
theorem num_words {a : Value} {n : Nat} {w : World} (ha : NumV w a n) (hn : n < 2 ^ 256) : Calls Try.prog 58 #[a] w fun e w' => e = .returned (.tuple #[.agg #[.int .u64 (w0 (n) : Nat), .int .u64 (w1 (n) : Nat), .int .u64 (w2 (n) : Nat), .int .u64 (w3 (n) : Nat)], .bool false]) ∧ Below w.heap.size w w' := by
  obtain ⟨A, c, l, rfl, hc, hl, hC⟩ := ha
  exact words_any hl hn w hC hc
set_option maxRecDepth 10000 in
set_option maxHeartbeats 8000000 in
theorem num_mod {a b : Value} {n m : Nat} {w : World} (ha : NumV w a n) (hb : NumV w b m) (h0 : 0 < m) (hn : n < 2 ^ bigK) (hm : m < 2 ^ 256) : Calls Try.prog 20 #[a, b] w fun e w' => e = .returned (.agg #[.int .u64 (w0 (n % m) : Nat), .int .u64 (w1 (n % m) : Nat), .int .u64 (w2 (n % m) : Nat), .int .u64 (w3 (n % m) : Nat)]) ∧ Below w.heap.size w w' := by
  have HA := Lib.hid ha
  have HB := Lib.hid hb
  have HN := Lib.hid hn
  have HM := Lib.hid hm
  have hm2 : m < 2 ^ bigK := Nat.lt_of_lt_of_le hm (Nat.pow_le_pow_right (by decide) (by decide))
  have HM2 := Lib.hid hm2
  have HR := Lib.hid (Nat.lt_trans (Nat.mod_lt n h0) hm)
  clear ha hb hn hm hm2
  go_enter Try.func20, Try.ntmps20
  go_upto_region 1 with fail
  obtain ⟨V0, hW⟩ : ∃ V, w.alloc (.cells #[.int .u64 0, .int .u64 0, .int .u64 0, .int .u64 0] 24) = V := ⟨_, rfl⟩
  rw [hW]
  have hR : V0.heap[w.heap.size]? = some (.cells #[.int .u64 0, .int .u64 0, .int .u64 0, .int .u64 0] 24 (0, 0)) := by
    rw [← hW]; simp only [alloc_at, World.size_alloc]; repeat (first | rw [if_pos trivial] | rw [if_pos (by omega)] | rw [if_neg (by omega)])
  have kk : Below w.heap.size w V0 := by
    rw [← hW]
    repeat (first | exact Below.refl _ _ | refine Below.drew ?_ | refine bal ?_ _)
  clear hW
  go_wp2_with fail
  refine (num_div (HA.out.below kk) (HB.out.below kk) h0 HN.out HM2.out).mono ?_
  rintro e V1 ⟨q, v, rfl, hv, hb⟩
  replace hR := below_get hb hR
  replace kk := bcl (by first | exact kk | exact kk.drew | exact below_drewN kk _) hb
  clear hb
  have HV := Lib.hid hv
  clear hv
  go_wp2_with fail
  refine (num_words HV.out HR.out).mono ?_
  rintro e V2 ⟨rfl, hb⟩
  replace hR := below_get hb hR
  replace kk := bcl (by first | exact kk | exact kk.drew | exact below_drewN kk _) hb
  clear hb
  clear HV
  go_upto_region 3 with fail
  obtain ⟨V3, hW⟩ : ∃ V, V2.alloc (.cells #[.int .u64 (w0 (n % m) : Nat), .int .u64 (w1 (n % m) : Nat), .int .u64 (w2 (n % m) : Nat), .int .u64 (w3 (n % m) : Nat)] 23 (0, 0)) = V := ⟨_, rfl⟩
  rw [hW]
  obtain ⟨b3, hbx⟩ : ∃ n, V2.heap.size = n := ⟨_, rfl⟩
  rw [hbx]
  have hNEW : V3.heap[b3]? = some (.cells #[.int .u64 (w0 (n % m) : Nat), .int .u64 (w1 (n % m) : Nat), .int .u64 (w2 (n % m) : Nat), .int .u64 (w3 (n % m) : Nat)] 23 (0, 0)) := by rw [← hW, ← hbx]; exact heap_alloc_new _ _
  have lXR : w.heap.size < b3 := by rw [← hbx]; exact lt_of_heap hR
  replace hR : V3.heap[w.heap.size]? = some (.cells #[.int .u64 0, .int .u64 0, .int .u64 0, .int .u64 0] 24 (0, 0)) := by rw [← hW]; exact ak hR
  have lX : w.heap.size ≤ b3 := by rw [← hbx]; exact kk.size
  replace kk : Below w.heap.size w V3 := by rw [← hW]; exact bal kk _
  have hX := hNEW
  clear hNEW hW hbx
  obtain ⟨cR0, cR1, cR2, cR3⟩ := row4c hR
  obtain ⟨zR0, zR1, zR2, zR3⟩ := row4z hR
  obtain ⟨cX0, cX1, cX2, cX3⟩ := row4c hX
  obtain ⟨zX0, zX1, zX2, zX3⟩ := row4z hX
  go_wp2_with fail
  have P := put4 (.int .u64 (w0 (n % m) : Nat)) (.int .u64 (w1 (n % m) : Nat)) (.int .u64 (w2 (n % m) : Nat)) (.int .u64 (w3 (n % m) : Nat)) hR
  replace P := put_hid P
  obtain ⟨V9, hV9, P⟩ := P
  rw [hV9]
  have P9 := P.here
  have k9 := P.below (by omega) (show Below w.heap.size w V3 from by first | exact kk | exact kk.drew | exact below_drewN kk _)
  obtain ⟨v0, v1, v2, v3⟩ := row4c P9
  refine bodyPost_ret (v := _) (by simp [results, Try.results20, go_sem, v0, v1, v2, v3]; rfl) rfl ?_
  exact ⟨rfl, k9⟩
end Go.Proofs.Ytgghopmlcpcpkaa.PResiduePowers
