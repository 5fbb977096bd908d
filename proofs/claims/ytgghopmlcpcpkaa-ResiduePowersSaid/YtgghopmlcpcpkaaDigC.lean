/- A step of the proof: what a function of the program computes, or a plain law of numbers. -/
import Derived.Test.YtgghopmlcpcpkaaRefB
namespace Go.Proofs.Ytgghopmlcpcpkaa.PResiduePowers
open Go.RowKit Go.Proofs.YtgghopmlcpcpkaaW.PrintWords Go.Proofs.YtgghopmlcpcpkaaW.PrintLast Go.Proofs.YtgghopmlcpcpkaaW.PrintMore
attribute [local go_sem] max2_int min2_int max_two min_two max_three min_three max_four min_four
set_option linter.unusedVariables false
set_option linter.unusedSimpArgs false

/-! ### pontageref03_Mul: function 21 -/
mutual
def pontageref03_Mul.l0 : Nat → List Int → List Int → List Int → Int → Int → Option (List Int)
  | 0, _, _, _, _, _ => none
  | k + 1, x1, x5, x17, x18, x19 => if x19 < x18 then (if 0 ≤ x19 then (if x19 < (x17.length : Int) then (pontageref03_Mul.l1 k x1 x5 x19 (rd x17 x19) 0 0 x17 x18 x19) else (none)) else (none)) else ((pontageref03_trim.f k x5).bind fun t193 => (some t193))
def pontageref03_Mul.l1 : Nat → List Int → List Int → Int → Int → Int → Int → List Int → Int → Int → Option (List Int)
  | 0, _, _, _, _, _, _, _, _, _ => none
  | k + 1, x1, x5, x6, x7, x8, x9, x17, x18, x19 => if x9 < (x1.length : Int) then (if 0 ≤ (wrap64 (x6 + x9)) then (if (wrap64 (x6 + x9)) < (x5.length : Int) then ((pontageref03_digit.f x1 x9).bind fun t198 => (pontageref03_Mul.l1 k x1 (x5.set ((wrap64 (x6 + x9)) : Int).toNat (Int.tmod (IntKind.u64.wrap ((IntKind.u64.wrap (x8 + (rd x5 (wrap64 (x6 + x9))))) + (IntKind.u64.wrap (x7 * t198)))) 65536)) x6 x7 (IntKind.u64.wrap (Int.tdiv (IntKind.u64.wrap ((IntKind.u64.wrap (x8 + (rd x5 (wrap64 (x6 + x9))))) + (IntKind.u64.wrap (x7 * t198)))) 65536)) (wrap64 (x9 + 1)) x17 x18 x19)) else (none)) else (none)) else (if x8 > 0 then (if 0 ≤ (wrap64 (x6 + x9)) then (if (wrap64 (x6 + x9)) < (x5.length : Int) then ((pontageref03_digit.f x1 x9).bind fun t201 => (pontageref03_Mul.l1 k x1 (x5.set ((wrap64 (x6 + x9)) : Int).toNat (Int.tmod (IntKind.u64.wrap ((IntKind.u64.wrap (x8 + (rd x5 (wrap64 (x6 + x9))))) + (IntKind.u64.wrap (x7 * t201)))) 65536)) x6 x7 (IntKind.u64.wrap (Int.tdiv (IntKind.u64.wrap ((IntKind.u64.wrap (x8 + (rd x5 (wrap64 (x6 + x9))))) + (IntKind.u64.wrap (x7 * t201)))) 65536)) (wrap64 (x9 + 1)) x17 x18 x19)) else (none)) else (none)) else (pontageref03_Mul.l0 k x1 x5 x17 x18 (wrap64 (x19 + 1))))
end
def pontageref03_Mul.f (k : Nat) (l0 : List Int) (l1 : List Int) : Option (List Int) := if 0 ≤ (wrap64 ((wrap64 ((l0.length : Int) + (l1.length : Int))) + 1)) then (if (wrap64 ((wrap64 ((l0.length : Int) + (l1.length : Int))) + 1) : Int).toNat ≤ 35184372088832 then (pontageref03_Mul.l0 k l1 (List.replicate (wrap64 ((wrap64 ((l0.length : Int) + (l1.length : Int))) + 1) : Int).toNat 0) l0 (l0.length : Int) 0) else (none)) else (none)
theorem pontageref03_Mul.mono_l : ∀ k, (∀ y0 y1 y2 y3 y4, LeO (pontageref03_Mul.l0 k y0 y1 y2 y3 y4) (pontageref03_Mul.l0 (k + 1) y0 y1 y2 y3 y4)) ∧ (∀ y0 y1 y2 y3 y4 y5 y6 y7 y8, LeO (pontageref03_Mul.l1 k y0 y1 y2 y3 y4 y5 y6 y7 y8) (pontageref03_Mul.l1 (k + 1) y0 y1 y2 y3 y4 y5 y6 y7 y8))
  | 0 => ⟨fun _ _ _ _ _ r h => by simp [pontageref03_Mul.l0] at h, fun _ _ _ _ _ _ _ _ _ r h => by simp [pontageref03_Mul.l1] at h⟩
  | k + 1 => by
    obtain ⟨ih0, ih1⟩ := pontageref03_Mul.mono_l k
    refine ⟨?_, ?_⟩
    · intro y0 y1 y2 y3 y4
      unfold pontageref03_Mul.l0
      repeat' first
      | (with_reducible exact ih0 _ _ _ _ _)
      | (with_reducible exact ih1 _ _ _ _ _ _ _ _ _)
      | (with_reducible exact pontageref03_trim.mono _ _)
      | (with_reducible exact LeO.refl _)
      | (with_reducible exact LeO.none _)
      | (with_reducible refine LeO.ite ?_ ?_)
      | (with_reducible refine LeO.bind ?_ (fun _ => ?_))
      | exact ih0 _ _ _ _ _
      | exact ih1 _ _ _ _ _ _ _ _ _
      | exact pontageref03_trim.mono _ _
      | exact LeO.none _
      | refine LeO.ite ?_ ?_
      | refine LeO.bind ?_ (fun _ => ?_)
    · intro y0 y1 y2 y3 y4 y5 y6 y7 y8
      unfold pontageref03_Mul.l1
      repeat' first
      | (with_reducible exact ih0 _ _ _ _ _)
      | (with_reducible exact ih1 _ _ _ _ _ _ _ _ _)
      | (with_reducible exact pontageref03_trim.mono _ _)
      | (with_reducible exact LeO.refl _)
      | (with_reducible exact LeO.none _)
      | (with_reducible refine LeO.ite ?_ ?_)
      | (with_reducible refine LeO.bind ?_ (fun _ => ?_))
      | exact ih0 _ _ _ _ _
      | exact ih1 _ _ _ _ _ _ _ _ _
      | exact pontageref03_trim.mono _ _
      | exact LeO.none _
      | refine LeO.ite ?_ ?_
      | refine LeO.bind ?_ (fun _ => ?_)
theorem pontageref03_Mul.mono : ∀ a0 a1 k, LeO (pontageref03_Mul.f k a0 a1) (pontageref03_Mul.f (k + 1) a0 a1) := by
  intro a0 a1 k
  obtain ⟨ih0, ih1⟩ := pontageref03_Mul.mono_l k
  unfold pontageref03_Mul.f
  repeat' first
      | (with_reducible exact ih0 _ _ _ _ _)
      | (with_reducible exact ih1 _ _ _ _ _ _ _ _ _)
      | (with_reducible exact pontageref03_trim.mono _ _)
      | (with_reducible exact LeO.refl _)
      | (with_reducible exact LeO.none _)
      | (with_reducible refine LeO.ite ?_ ?_)
      | (with_reducible refine LeO.bind ?_ (fun _ => ?_))
      | exact ih0 _ _ _ _ _
      | exact ih1 _ _ _ _ _ _ _ _ _
      | exact pontageref03_trim.mono _ _
      | exact LeO.none _
      | refine LeO.ite ?_ ?_
      | refine LeO.bind ?_ (fun _ => ?_)
set_option maxHeartbeats 8000000 in
set_option maxRecDepth 100000 in
theorem pontageref03_Mul.calls (k : Nat) (A0 : Option Addr) (c0 : Nat) (l0 : List Int) (A1 : Option Addr) (c1 : Nat) (l1 : List Int) (r : List Int) (w : World) (hr0 : Kd.C (Kd.int .u64) w A0 l0.length l0) (hc0 : l0.length ≤ c0) (hr1 : Kd.C (Kd.int .u64) w A1 l1.length l1) (hc1 : l1.length ≤ c1) (h : pontageref03_Mul.f k l0 l1 = some r) :
    Calls Try.prog 21 #[.slice A0 l0.length c0, .slice A1 l1.length c1] w fun e w' => ∃ v0_ : Value, e = .returned (v0_) ∧ Kd.V (Kd.int .u64) 22 w' w.heap.size (fun k_ => (w.heap.size ≤ k_)) v0_ r ∧ Below w.heap.size w w' := by
  have HR0 := Aside0.mk hr0
  have HC0 := Aside0.mk hc0
  clear hr0 hc0
  have HR1 := Aside0.mk hr1
  have HC1 := Aside0.mk hc1
  clear hr1 hc1
  have HB := Aside0.mk (Below.refl w.heap.size w)
  have H : (if 0 ≤ (wrap64 ((wrap64 ((l0.length : Int) + (l1.length : Int))) + 1)) then (if (wrap64 ((wrap64 ((l0.length : Int) + (l1.length : Int))) + 1) : Int).toNat ≤ 35184372088832 then (pontageref03_Mul.l0 k l1 (List.replicate (wrap64 ((wrap64 ((l0.length : Int) + (l1.length : Int))) + 1) : Int).toNat 0) l0 (l0.length : Int) 0) else (none)) else (none)) = some r := h
  clear h
  obtain ⟨ji3, hji3⟩ : ∃ j_ : Int, (wrap64 ((wrap64 ((l0.length : Int) + (l1.length : Int))) + 1)) = j_ := ⟨_, rfl⟩
  replace H : (if 0 ≤ (ji3) then (if (ji3 : Int).toNat ≤ 35184372088832 then (pontageref03_Mul.l0 k l1 (List.replicate (ji3 : Int).toNat 0) l0 (l0.length : Int) 0) else (none)) else (none)) = some r := by first | (rw [hji3] at H; exact H) | (simp only [hji3] at H ⊢; exact H)
  have hji3w : (IntKind.i64.wrap ((wrap64 ((l0.length : Int) + (l1.length : Int))) + 1)) = ji3 := (i64_w _).trans hji3
  by_cases c4 : 0 ≤ (ji3)
  · rw [if_pos c4] at H
    have c4b0 := eq_true c4
    have c4b1 : decide (0 ≤ (ji3)) = true := decide_eq_true c4
    clear c4
    by_cases c5 : (ji3 : Int).toNat ≤ 35184372088832
    · rw [if_pos c5] at H
      have c5b0 := eq_true c5
      have c5b1 : decide ((ji3 : Int).toNat ≤ 35184372088832) = true := decide_eq_true c5
      clear c5
      obtain ⟨y190, hy190⟩ : ∃ y_ : List Int, y_ = (List.replicate (ji3 : Int).toNat 0) := ⟨_, rfl⟩
      replace H : (pontageref03_Mul.l0 k l1 y190 l0 (l0.length : Int) 0) = some r := by first | (rw [hy190]; with_reducible exact H) | (have H2_ := (Option.bind_some _ _).symm.trans H; rw [hy190]; with_reducible exact H2_) | (have H2_ := (Option.bind_some _ _).symm.trans H; with_reducible exact H2_) | with_reducible exact H | (rw [hy190]; exact H) | exact H
      have Ny190 := Aside0.mk hy190
      clear hy190
      have H' := Aside0.mk H
      clear H
      go_enter Try.func21, Try.ntmps21
      go_wp2_with (first | ((with_reducible refine gate_dst (N := 16) rfl ?_); refine Kd.R_make (Kd.int .u64) _ 22 rfl (N := 16) rfl 34 _ _ rfl ji3 rfl rfl Try.underlying34 (.int .u64 0) 8 info22 rfl (by decide) (by omega) 0 (ok := fun _ => True) (okp := fun _ => True) rfl (fun _ hk => hk) trivial (of_decide_eq_true (by first | (with_reducible assumption) | assumption)) (Nat.le_trans (Nat.mul_le_mul_right _ (of_decide_eq_true (by first | (with_reducible assumption) | assumption) : ji3.toNat ≤ 35184372088832)) (by omega)) (Below.refl _ _) (Nat.le_refl _) ?_; intro v191 w6 ho7 hb hg_ hnew_; clear hg_ hnew_; (first | rw [← Ny190.out] at ho7 | (simp only [Int.reduceToNat] at ho7; rw [← Ny190.out] at ho7)); have n0_ := Aside0.mk (Kd.R_lower (Kd.R_newM (M := fun k_ => (w.heap.size ≤ k_)) ho7 (below_size (by repeat (first | (with_reducible first | exact HB.out | apply below_alloc | apply pw_below_drewN | apply below_drew1) | exact HB.out))) (fun k_ h_ => h_)) (below_size (by repeat (first | (with_reducible first | exact HB.out | apply below_alloc | apply pw_below_drewN | apply below_drew1) | exact HB.out)))); have n1_ := Aside0.mk (below_step (by repeat (first | (with_reducible first | exact HB.out | apply below_alloc | apply pw_below_drewN | apply below_drew1) | exact HB.out)) hb); clear HB; have HO192 := n0_; have HB := n1_; clear n0_ n1_; clear hb ho7))
      repeat (go_quiet (first | ((with_reducible refine gate_dst (N := 16) rfl ?_); refine Kd.R_make (Kd.int .u64) _ 22 rfl (N := 16) rfl 34 _ _ rfl ji3 rfl rfl Try.underlying34 (.int .u64 0) 8 info22 rfl (by decide) (by omega) 0 (ok := fun _ => True) (okp := fun _ => True) rfl (fun _ hk => hk) trivial (of_decide_eq_true (by first | (with_reducible assumption) | assumption)) (Nat.le_trans (Nat.mul_le_mul_right _ (of_decide_eq_true (by first | (with_reducible assumption) | assumption) : ji3.toNat ≤ 35184372088832)) (by omega)) (Below.refl _ _) (Nat.le_refl _) ?_; intro v191 w6 ho7 hb hg_ hnew_; clear hg_ hnew_; (first | rw [← Ny190.out] at ho7 | (simp only [Int.reduceToNat] at ho7; rw [← Ny190.out] at ho7)); have n0_ := Aside0.mk (Kd.R_lower (Kd.R_newM (M := fun k_ => (w.heap.size ≤ k_)) ho7 (below_size (by repeat (first | (with_reducible first | exact HB.out | apply below_alloc | apply pw_below_drewN | apply below_drew1) | exact HB.out))) (fun k_ h_ => h_)) (below_size (by repeat (first | (with_reducible first | exact HB.out | apply below_alloc | apply pw_below_drewN | apply below_drew1) | exact HB.out)))); have n1_ := Aside0.mk (below_step (by repeat (first | (with_reducible first | exact HB.out | apply below_alloc | apply pw_below_drewN | apply below_drew1) | exact HB.out)) hb); clear HB; have HO192 := n0_; have HB := n1_; clear n0_ n1_; clear hb ho7)); try go_wp2_with (first | ((with_reducible refine gate_dst (N := 16) rfl ?_); refine Kd.R_make (Kd.int .u64) _ 22 rfl (N := 16) rfl 34 _ _ rfl ji3 rfl rfl Try.underlying34 (.int .u64 0) 8 info22 rfl (by decide) (by omega) 0 (ok := fun _ => True) (okp := fun _ => True) rfl (fun _ hk => hk) trivial (of_decide_eq_true (by first | (with_reducible assumption) | assumption)) (Nat.le_trans (Nat.mul_le_mul_right _ (of_decide_eq_true (by first | (with_reducible assumption) | assumption) : ji3.toNat ≤ 35184372088832)) (by omega)) (Below.refl _ _) (Nat.le_refl _) ?_; intro v191 w6 ho7 hb hg_ hnew_; clear hg_ hnew_; (first | rw [← Ny190.out] at ho7 | (simp only [Int.reduceToNat] at ho7; rw [← Ny190.out] at ho7)); have n0_ := Aside0.mk (Kd.R_lower (Kd.R_newM (M := fun k_ => (w.heap.size ≤ k_)) ho7 (below_size (by repeat (first | (with_reducible first | exact HB.out | apply below_alloc | apply pw_below_drewN | apply below_drew1) | exact HB.out))) (fun k_ h_ => h_)) (below_size (by repeat (first | (with_reducible first | exact HB.out | apply below_alloc | apply pw_below_drewN | apply below_drew1) | exact HB.out)))); have n1_ := Aside0.mk (below_step (by repeat (first | (with_reducible first | exact HB.out | apply below_alloc | apply pw_below_drewN | apply below_drew1) | exact HB.out)) hb); clear HB; have HO192 := n0_; have HB := n1_; clear n0_ n1_; clear hb ho7)))
      go_loopg [19] k (fun kq v19 w' => ∃ (x5_1 : List Int) (x19_1 : Int), v19 = .int .i64 x19_1 ∧ Aside0 (pontageref03_Mul.l0 kq l1 x5_1 l0 (l0.length : Int) x19_1 = some r) ∧ Aside0 (kq ≤ k) ∧ Aside0 (Kd.R (Kd.int .u64) 22 w' w.heap.size (fun k_ => (w.heap.size ≤ k_)) v191 x5_1) ∧ Aside0 (Below w.heap.size w w'))
      case atStart => exact ⟨(y190), (0), (by first | rfl | (simp; done) | (simp [*]; done)), H', ⟨Nat.le_refl _⟩, ⟨by (with_reducible repeat (first | apply Kd.R_alloc | apply Kd.R_drewN | apply Kd.R_drew)); exact Kd.R_mono HO192.out (fun _ hk => hk.1)⟩, ⟨by repeat (first | (with_reducible first | exact HB.out | apply below_alloc | apply pw_below_drewN | apply below_drew1) | exact HB.out)⟩⟩
      case round =>
        clear H'
        try clear c1
        try clear c2
        try clear p2
        try clear c4
        try clear c4b0
        try clear c4b1
        try clear c5
        try clear c5b0
        try clear c5b1
        try clear p6
        obtain ⟨x5_1, x19_1, rfl, HA, HK1, HO_5, HB⟩ := hrel
        cases gk with
        | zero => exact absurd HA.out (by simp [pontageref03_Mul.l0])
        | succ k1 =>
          have H := HA.out
          clear HA
          simp only [pontageref03_Mul.l0] at H
          by_cases c8 : x19_1 < (l0.length : Int)
          · rw [if_pos c8] at H
            have c8b0 : decide (x19_1 < (l0.length : Int)) = true := decide_eq_true c8
            clear c8
            by_cases c9 : 0 ≤ x19_1
            · rw [if_pos c9] at H
              have c9b0 : decide (0 ≤ x19_1) = true := decide_eq_true c9
              clear c9
              by_cases c10 : x19_1 < (l0.length : Int)
              · rw [if_pos c10] at H
                have c10b0 : decide (x19_1 < (l0.length : Int)) = true := decide_eq_true c10
                clear c10
                have H' := Aside0.mk H
                clear H
                have p196 : 0 ≤ (x19_1 : Int) := of_decide_eq_true (by first | (with_reducible assumption) | assumption)
                have q196 : x19_1 < (l0.length : Int) := of_decide_eq_true (by first | (with_reducible assumption) | assumption)
                obtain ⟨ad196, e196, hx196_0⟩ := Kd.at_int HR0.out x19_1 p196 q196
                cases e196
                replace hx196_0 := (HB.out.cell (World.block_lt_of_cell? w _ hx196_0)).trans hx196_0
                replace p196 := eq_true p196
                replace q196 := eq_true q196
                go_wp2
                repeat (go_quiet (fail); try go_wp2)
                go_loopg [8, 9] k1 (fun kq v8 v9 w' => ∃ (x5_2 : List Int) (x8_2 : Int) (x9_2 : Int), v8 = .int .u64 x8_2 ∧ v9 = .int .i64 x9_2 ∧ Aside0 (pontageref03_Mul.l1 kq l1 x5_2 x19_1 (rd l0 x19_1) x8_2 x9_2 l0 (l0.length : Int) x19_1 = some r) ∧ Aside0 (kq ≤ k1) ∧ Aside0 (Kd.R (Kd.int .u64) 22 w' w.heap.size (fun k_ => (w.heap.size ≤ k_)) v191 x5_2) ∧ Aside0 (Below w.heap.size w w'))
                case atStart => exact ⟨(x5_1), (0), (0), (by first | rfl | (simp; done) | (simp [*]; done)), (by first | rfl | (simp; done) | (simp [*]; done)), H', ⟨Nat.le_refl _⟩, ⟨by (with_reducible repeat (first | apply Kd.R_alloc | apply Kd.R_drewN | apply Kd.R_drew)); exact HO_5.out⟩, ⟨by repeat (first | (with_reducible first | exact HB.out | apply below_alloc | apply pw_below_drewN | apply below_drew1) | exact HB.out)⟩⟩
                case round =>
                  clear H'
                  try clear c1
                  try clear p1
                  try clear q1
                  try clear hx1
                  try clear c2
                  try clear p2
                  try clear c4
                  try clear c4b0
                  try clear c4b1
                  try clear c5
                  try clear c5b0
                  try clear c5b1
                  try clear p6
                  try clear c8
                  try clear c8b0
                  try clear c9
                  try clear c9b0
                  try clear c10
                  try clear c10b0
                  try clear hx196_0
                  try clear p196
                  try clear p2
                  try clear p6
                  try clear q196
                  obtain ⟨x5_2, x8_2, x9_2, rfl, rfl, HA, HK2, HO_5, HB⟩ := hrel
                  cases gk with
                  | zero => exact absurd HA.out (by simp [pontageref03_Mul.l1])
                  | succ k2 =>
                    have H := HA.out
                    clear HA
                    simp only [pontageref03_Mul.l1] at H
                    by_cases c11 : x9_2 < (l1.length : Int)
                    · rw [if_pos c11] at H
                      have c11b0 : decide (x9_2 < (l1.length : Int)) = true := decide_eq_true c11
                      clear c11
                      obtain ⟨ji12, hji12⟩ : ∃ j_ : Int, (wrap64 (x19_1 + x9_2)) = j_ := ⟨_, rfl⟩
                      replace H : (if 0 ≤ (ji12) then (if (ji12) < (x5_2.length : Int) then ((pontageref03_digit.f l1 x9_2).bind fun t198 => (pontageref03_Mul.l1 k2 l1 (x5_2.set ((ji12) : Int).toNat (Int.tmod (IntKind.u64.wrap ((IntKind.u64.wrap (x8_2 + (rd x5_2 (ji12)))) + (IntKind.u64.wrap ((rd l0 x19_1) * t198)))) 65536)) x19_1 (rd l0 x19_1) (IntKind.u64.wrap (Int.tdiv (IntKind.u64.wrap ((IntKind.u64.wrap (x8_2 + (rd x5_2 (ji12)))) + (IntKind.u64.wrap ((rd l0 x19_1) * t198)))) 65536)) (wrap64 (x9_2 + 1)) l0 (l0.length : Int) x19_1)) else (none)) else (none)) = some r := by first | (rw [hji12] at H; exact H) | (simp only [hji12] at H ⊢; exact H)
                      have hji12w : (IntKind.i64.wrap (x19_1 + x9_2)) = ji12 := (i64_w _).trans hji12
                      by_cases c13 : 0 ≤ (ji12)
                      · rw [if_pos c13] at H
                        have c13b0 : decide (0 ≤ (ji12)) = true := decide_eq_true c13
                        clear c13
                        by_cases c14 : (ji12) < (x5_2.length : Int)
                        · rw [if_pos c14] at H
                          have c14b0 : decide ((ji12) < (x5_2.length : Int)) = true := decide_eq_true c14
                          clear c14
                          replace H := Option.bind_eq_some_iff.mp H
                          obtain ⟨t198, A150, H⟩ := H
                          replace H : (pontageref03_Mul.l1 k2 l1 (x5_2.set ((ji12) : Int).toNat (Int.tmod (IntKind.u64.wrap ((IntKind.u64.wrap (x8_2 + (rd x5_2 (ji12)))) + (IntKind.u64.wrap ((rd l0 x19_1) * t198)))) 65536)) x19_1 (rd l0 x19_1) (IntKind.u64.wrap (Int.tdiv (IntKind.u64.wrap ((IntKind.u64.wrap (x8_2 + (rd x5_2 (ji12)))) + (IntKind.u64.wrap ((rd l0 x19_1) * t198)))) 65536)) (wrap64 (x9_2 + 1)) l0 (l0.length : Int) x19_1) = some r := H
                          have A15 := Aside0.mk A150
                          clear A150
                          obtain ⟨y199, hy199⟩ : ∃ y_ : List Int, y_ = (x5_2.set ((ji12) : Int).toNat (Int.tmod (IntKind.u64.wrap ((IntKind.u64.wrap (x8_2 + (rd x5_2 (ji12)))) + (IntKind.u64.wrap ((rd l0 x19_1) * t198)))) 65536)) := ⟨_, rfl⟩
                          replace H : (pontageref03_Mul.l1 k2 l1 y199 x19_1 (rd l0 x19_1) (IntKind.u64.wrap (Int.tdiv (IntKind.u64.wrap ((IntKind.u64.wrap (x8_2 + (rd x5_2 (ji12)))) + (IntKind.u64.wrap ((rd l0 x19_1) * t198)))) 65536)) (wrap64 (x9_2 + 1)) l0 (l0.length : Int) x19_1) = some r := by first | (rw [hy199]; with_reducible exact H) | (have H2_ := (Option.bind_some _ _).symm.trans H; rw [hy199]; with_reducible exact H2_) | (have H2_ := (Option.bind_some _ _).symm.trans H; with_reducible exact H2_) | with_reducible exact H | (rw [hy199]; exact H) | exact H
                          have Ny199 := Aside0.mk hy199
                          clear hy199
                          have H' := Aside0.mk H
                          clear H
                          obtain ⟨Ao17, co17, eo17⟩ := Kd.R_slice HO_5.out
                          subst eo17
                          have p197 : 0 ≤ ((ji12) : Int) := of_decide_eq_true (by first | (with_reducible assumption) | assumption)
                          have q197 : (ji12) < (x5_2.length : Int) := of_decide_eq_true (by first | (with_reducible assumption) | assumption)
                          obtain ⟨ad197, e197, hx197_0⟩ := Kd.at_int (Kd.R_reads' HO_5.out).2.2 (ji12) p197 q197
                          cases e197
                          replace p197 := eq_true p197
                          replace q197 := eq_true q197
                          go_wp2_with (first | (go_at_call 64; (with_reducible refine (pontageref03_digit.calls _ _ l1 x9_2 t198 _ ?side1 ?side2 A15.out).mono ?_); (case side1 => repeat (first | exact (Kd.C_below HR1.out HB.out) | (with_reducible refine Kd.C_alloc ?_ _) | (with_reducible refine Kd.C_drewN ?_ _) | (with_reducible refine Kd.C_drew ?_))); (case side2 => exact HC1.out); rintro e w' ⟨rfl, ⟨nd, rfl⟩⟩; (try first | exact ⟨rfl, _, World.drewN_drewN _ _ _⟩ | exact ⟨rfl, _, Eq.trans (World.drewN_drewN _ _ _) (congrArg (World.drewN _) (Nat.add_assoc _ _ _))⟩); have p16 : 0 ≤ ((ji12) : Int) := of_decide_eq_true (by first | (with_reducible assumption) | assumption); have q16 : ((ji12) : Int) < ((x5_2.length : Int) : Int) := of_decide_eq_true (by first | (with_reducible assumption) | assumption); obtain ⟨go16, co16, eo16, gb16, gl16, cl16, HG16⟩ := Kd.R_form HO_5.out (by omega); (first | cases eo16 | (injection eo16 with ea_ en_ ec_; (first | subst ea_ | (injection ea_ with ea_; subst ea_)); subst ec_; clear en_)); have GB16 := Aside0.mk gb16; have GG16 := Aside0.mk HG16; clear gb16 gl16 HG16; (first | simp only [add_plain] at hx197_0 | skip); obtain ⟨hx16_0, hf16_0⟩ := Kd.R_celln 0 HO_5.out ((ji12) : Int) p16 q16; replace p16 := eq_true p16; replace q16 := eq_true q16; obtain ⟨hy18_, hz18_⟩ := Kd.R_celln 0 HO_5.out ((ji12) : Int) (of_decide_eq_true (by first | (with_reducible assumption) | assumption)) (of_decide_eq_true (by first | (with_reducible assumption) | assumption)); have HP18 := Kd.R_putg HO_5.out ((ji12) : Int) (Int.tmod (IntKind.u64.wrap ((IntKind.u64.wrap (x8_2 + (rd x5_2 (ji12)))) + (IntKind.u64.wrap ((rd l0 x19_1) * t198)))) 65536)) | ((with_reducible refine gate_store (t := 22) (p := 54) rfl ?_); (try (rw [drewN_self wr]; generalize hq_ : World.drewN wr _ = wr; have n0_ := Aside0.mk (Kd.R_at hq_ HO_5.out); have n1_ := Aside0.mk (below_at hq_ HB.out); clear hq_ HO_5 HB; have HO_5 := n0_; have HB := n1_; clear n0_ n1_; (try (obtain ⟨hy18_, hz18_⟩ := Kd.R_celln 0 HO_5.out ((ji12) : Int) (of_decide_eq_true (by first | (with_reducible assumption) | assumption)) (of_decide_eq_true (by first | (with_reducible assumption) | assumption)))); (try (have HP18 := Kd.R_putg HO_5.out ((ji12) : Int) (Int.tmod (IntKind.u64.wrap ((IntKind.u64.wrap (x8_2 + (rd x5_2 (ji12)))) + (IntKind.u64.wrap ((rd l0 x19_1) * t198)))) 65536))))); refine store_event (t := 22) (p := 54) (v := ?vo_w19) (w1 := (wr.setCell ⟨go16, ((ji12) : Int).toNat, none⟩ (.int .u64 (Int.tmod (IntKind.u64.wrap ((IntKind.u64.wrap (x8_2 + (rd x5_2 (ji12)))) + (IntKind.u64.wrap ((rd l0 x19_1) * t198)))) 65536)))) ?hg ?ho ?hn ?hr ?_; (case ho => rfl); (case hg => rfl); (case hn => rfl); (case hr => first | (go_simp; done) | (go_simp; rfl)); intro w19 hw; have hg : wr.grownBy w19 (some go16) := (by rw [hw]; exact HP18.2); have hp_ : Kd.R (Kd.int .u64) 22 w19 w.heap.size (fun k_ => (w.heap.size ≤ k_)) (.slice (some ⟨go16, 0, none⟩) x5_2.length co17) y199 := (by rw [hw, Ny199.out]; exact HP18.1); clear HP18; have n0_ := Aside0.mk (hp_); have n1_ := Aside0.mk ((by rw [hw]; exact below_set (HB.out) GB16.out : Below w.heap.size w w19)); clear HO_5; clear HB; have HO_5 := n0_; have HB := n1_; clear n0_ n1_; clear hg hw hp_))
                          repeat (go_quiet (first | (go_at_call 64; (with_reducible refine (pontageref03_digit.calls _ _ l1 x9_2 t198 _ ?side1 ?side2 A15.out).mono ?_); (case side1 => repeat (first | exact (Kd.C_below HR1.out HB.out) | (with_reducible refine Kd.C_alloc ?_ _) | (with_reducible refine Kd.C_drewN ?_ _) | (with_reducible refine Kd.C_drew ?_))); (case side2 => exact HC1.out); rintro e w' ⟨rfl, ⟨nd, rfl⟩⟩; (try first | exact ⟨rfl, _, World.drewN_drewN _ _ _⟩ | exact ⟨rfl, _, Eq.trans (World.drewN_drewN _ _ _) (congrArg (World.drewN _) (Nat.add_assoc _ _ _))⟩); have p16 : 0 ≤ ((ji12) : Int) := of_decide_eq_true (by first | (with_reducible assumption) | assumption); have q16 : ((ji12) : Int) < ((x5_2.length : Int) : Int) := of_decide_eq_true (by first | (with_reducible assumption) | assumption); obtain ⟨go16, co16, eo16, gb16, gl16, cl16, HG16⟩ := Kd.R_form HO_5.out (by omega); (first | cases eo16 | (injection eo16 with ea_ en_ ec_; (first | subst ea_ | (injection ea_ with ea_; subst ea_)); subst ec_; clear en_)); have GB16 := Aside0.mk gb16; have GG16 := Aside0.mk HG16; clear gb16 gl16 HG16; (first | simp only [add_plain] at hx197_0 | skip); obtain ⟨hx16_0, hf16_0⟩ := Kd.R_celln 0 HO_5.out ((ji12) : Int) p16 q16; replace p16 := eq_true p16; replace q16 := eq_true q16; obtain ⟨hy18_, hz18_⟩ := Kd.R_celln 0 HO_5.out ((ji12) : Int) (of_decide_eq_true (by first | (with_reducible assumption) | assumption)) (of_decide_eq_true (by first | (with_reducible assumption) | assumption)); have HP18 := Kd.R_putg HO_5.out ((ji12) : Int) (Int.tmod (IntKind.u64.wrap ((IntKind.u64.wrap (x8_2 + (rd x5_2 (ji12)))) + (IntKind.u64.wrap ((rd l0 x19_1) * t198)))) 65536)) | ((with_reducible refine gate_store (t := 22) (p := 54) rfl ?_); (try (rw [drewN_self wr]; generalize hq_ : World.drewN wr _ = wr; have n0_ := Aside0.mk (Kd.R_at hq_ HO_5.out); have n1_ := Aside0.mk (below_at hq_ HB.out); clear hq_ HO_5 HB; have HO_5 := n0_; have HB := n1_; clear n0_ n1_; (try (obtain ⟨hy18_, hz18_⟩ := Kd.R_celln 0 HO_5.out ((ji12) : Int) (of_decide_eq_true (by first | (with_reducible assumption) | assumption)) (of_decide_eq_true (by first | (with_reducible assumption) | assumption)))); (try (have HP18 := Kd.R_putg HO_5.out ((ji12) : Int) (Int.tmod (IntKind.u64.wrap ((IntKind.u64.wrap (x8_2 + (rd x5_2 (ji12)))) + (IntKind.u64.wrap ((rd l0 x19_1) * t198)))) 65536))))); refine store_event (t := 22) (p := 54) (v := ?vo_w19) (w1 := (wr.setCell ⟨go16, ((ji12) : Int).toNat, none⟩ (.int .u64 (Int.tmod (IntKind.u64.wrap ((IntKind.u64.wrap (x8_2 + (rd x5_2 (ji12)))) + (IntKind.u64.wrap ((rd l0 x19_1) * t198)))) 65536)))) ?hg ?ho ?hn ?hr ?_; (case ho => rfl); (case hg => rfl); (case hn => rfl); (case hr => first | (go_simp; done) | (go_simp; rfl)); intro w19 hw; have hg : wr.grownBy w19 (some go16) := (by rw [hw]; exact HP18.2); have hp_ : Kd.R (Kd.int .u64) 22 w19 w.heap.size (fun k_ => (w.heap.size ≤ k_)) (.slice (some ⟨go16, 0, none⟩) x5_2.length co17) y199 := (by rw [hw, Ny199.out]; exact HP18.1); clear HP18; have n0_ := Aside0.mk (hp_); have n1_ := Aside0.mk ((by rw [hw]; exact below_set (HB.out) GB16.out : Below w.heap.size w w19)); clear HO_5; clear HB; have HO_5 := n0_; have HB := n1_; clear n0_ n1_; clear hg hw hp_)); try go_wp2_with (first | (go_at_call 64; (with_reducible refine (pontageref03_digit.calls _ _ l1 x9_2 t198 _ ?side1 ?side2 A15.out).mono ?_); (case side1 => repeat (first | exact (Kd.C_below HR1.out HB.out) | (with_reducible refine Kd.C_alloc ?_ _) | (with_reducible refine Kd.C_drewN ?_ _) | (with_reducible refine Kd.C_drew ?_))); (case side2 => exact HC1.out); rintro e w' ⟨rfl, ⟨nd, rfl⟩⟩; (try first | exact ⟨rfl, _, World.drewN_drewN _ _ _⟩ | exact ⟨rfl, _, Eq.trans (World.drewN_drewN _ _ _) (congrArg (World.drewN _) (Nat.add_assoc _ _ _))⟩); have p16 : 0 ≤ ((ji12) : Int) := of_decide_eq_true (by first | (with_reducible assumption) | assumption); have q16 : ((ji12) : Int) < ((x5_2.length : Int) : Int) := of_decide_eq_true (by first | (with_reducible assumption) | assumption); obtain ⟨go16, co16, eo16, gb16, gl16, cl16, HG16⟩ := Kd.R_form HO_5.out (by omega); (first | cases eo16 | (injection eo16 with ea_ en_ ec_; (first | subst ea_ | (injection ea_ with ea_; subst ea_)); subst ec_; clear en_)); have GB16 := Aside0.mk gb16; have GG16 := Aside0.mk HG16; clear gb16 gl16 HG16; (first | simp only [add_plain] at hx197_0 | skip); obtain ⟨hx16_0, hf16_0⟩ := Kd.R_celln 0 HO_5.out ((ji12) : Int) p16 q16; replace p16 := eq_true p16; replace q16 := eq_true q16; obtain ⟨hy18_, hz18_⟩ := Kd.R_celln 0 HO_5.out ((ji12) : Int) (of_decide_eq_true (by first | (with_reducible assumption) | assumption)) (of_decide_eq_true (by first | (with_reducible assumption) | assumption)); have HP18 := Kd.R_putg HO_5.out ((ji12) : Int) (Int.tmod (IntKind.u64.wrap ((IntKind.u64.wrap (x8_2 + (rd x5_2 (ji12)))) + (IntKind.u64.wrap ((rd l0 x19_1) * t198)))) 65536)) | ((with_reducible refine gate_store (t := 22) (p := 54) rfl ?_); (try (rw [drewN_self wr]; generalize hq_ : World.drewN wr _ = wr; have n0_ := Aside0.mk (Kd.R_at hq_ HO_5.out); have n1_ := Aside0.mk (below_at hq_ HB.out); clear hq_ HO_5 HB; have HO_5 := n0_; have HB := n1_; clear n0_ n1_; (try (obtain ⟨hy18_, hz18_⟩ := Kd.R_celln 0 HO_5.out ((ji12) : Int) (of_decide_eq_true (by first | (with_reducible assumption) | assumption)) (of_decide_eq_true (by first | (with_reducible assumption) | assumption)))); (try (have HP18 := Kd.R_putg HO_5.out ((ji12) : Int) (Int.tmod (IntKind.u64.wrap ((IntKind.u64.wrap (x8_2 + (rd x5_2 (ji12)))) + (IntKind.u64.wrap ((rd l0 x19_1) * t198)))) 65536))))); refine store_event (t := 22) (p := 54) (v := ?vo_w19) (w1 := (wr.setCell ⟨go16, ((ji12) : Int).toNat, none⟩ (.int .u64 (Int.tmod (IntKind.u64.wrap ((IntKind.u64.wrap (x8_2 + (rd x5_2 (ji12)))) + (IntKind.u64.wrap ((rd l0 x19_1) * t198)))) 65536)))) ?hg ?ho ?hn ?hr ?_; (case ho => rfl); (case hg => rfl); (case hn => rfl); (case hr => first | (go_simp; done) | (go_simp; rfl)); intro w19 hw; have hg : wr.grownBy w19 (some go16) := (by rw [hw]; exact HP18.2); have hp_ : Kd.R (Kd.int .u64) 22 w19 w.heap.size (fun k_ => (w.heap.size ≤ k_)) (.slice (some ⟨go16, 0, none⟩) x5_2.length co17) y199 := (by rw [hw, Ny199.out]; exact HP18.1); clear HP18; have n0_ := Aside0.mk (hp_); have n1_ := Aside0.mk ((by rw [hw]; exact below_set (HB.out) GB16.out : Below w.heap.size w w19)); clear HO_5; clear HB; have HO_5 := n0_; have HB := n1_; clear n0_ n1_; clear hg hw hp_)))
                          go_roundg k2
                          case measure => have := HK1.out; have := HK2.out; omega
                          case rel => exact ⟨(y199), (IntKind.u64.wrap (Int.tdiv (IntKind.u64.wrap ((IntKind.u64.wrap (x8_2 + (rd x5_2 (ji12)))) + (IntKind.u64.wrap ((rd l0 x19_1) * t198)))) 65536)), (wrap64 (x9_2 + 1)), (by first | rfl | (simp; done) | (simp only [← hji12] <;> (first | rfl | simp)) | (simp [*]; done)), (by first | rfl | (simp; done) | (simp [*]; done)), H', ⟨by have := HK1.out; have := HK2.out; omega⟩, ⟨by (with_reducible repeat (first | apply Kd.R_alloc | apply Kd.R_drewN | apply Kd.R_drew)); exact HO_5.out⟩, ⟨by repeat (first | (with_reducible first | exact HB.out | apply below_alloc | apply pw_below_drewN | apply below_drew1) | exact HB.out)⟩⟩
                        · rw [if_neg c14] at H
                          exact absurd H (by simp)
                      · rw [if_neg c13] at H
                        exact absurd H (by simp)
                    · rw [if_neg c11] at H
                      have c11b0 : decide (x9_2 < (l1.length : Int)) = false := decide_eq_false c11
                      clear c11
                      by_cases c20 : x8_2 > 0
                      · rw [if_pos c20] at H
                        have c20b0 : decide (0 < x8_2) = true := decide_eq_true c20
                        clear c20
                        obtain ⟨ji21, hji21⟩ : ∃ j_ : Int, (wrap64 (x19_1 + x9_2)) = j_ := ⟨_, rfl⟩
                        replace H : (if 0 ≤ (ji21) then (if (ji21) < (x5_2.length : Int) then ((pontageref03_digit.f l1 x9_2).bind fun t201 => (pontageref03_Mul.l1 k2 l1 (x5_2.set ((ji21) : Int).toNat (Int.tmod (IntKind.u64.wrap ((IntKind.u64.wrap (x8_2 + (rd x5_2 (ji21)))) + (IntKind.u64.wrap ((rd l0 x19_1) * t201)))) 65536)) x19_1 (rd l0 x19_1) (IntKind.u64.wrap (Int.tdiv (IntKind.u64.wrap ((IntKind.u64.wrap (x8_2 + (rd x5_2 (ji21)))) + (IntKind.u64.wrap ((rd l0 x19_1) * t201)))) 65536)) (wrap64 (x9_2 + 1)) l0 (l0.length : Int) x19_1)) else (none)) else (none)) = some r := by first | (rw [hji21] at H; exact H) | (simp only [hji21] at H ⊢; exact H)
                        have hji21w : (IntKind.i64.wrap (x19_1 + x9_2)) = ji21 := (i64_w _).trans hji21
                        by_cases c22 : 0 ≤ (ji21)
                        · rw [if_pos c22] at H
                          have c22b0 : decide (0 ≤ (ji21)) = true := decide_eq_true c22
                          clear c22
                          by_cases c23 : (ji21) < (x5_2.length : Int)
                          · rw [if_pos c23] at H
                            have c23b0 : decide ((ji21) < (x5_2.length : Int)) = true := decide_eq_true c23
                            clear c23
                            replace H := Option.bind_eq_some_iff.mp H
                            obtain ⟨t201, A240, H⟩ := H
                            replace H : (pontageref03_Mul.l1 k2 l1 (x5_2.set ((ji21) : Int).toNat (Int.tmod (IntKind.u64.wrap ((IntKind.u64.wrap (x8_2 + (rd x5_2 (ji21)))) + (IntKind.u64.wrap ((rd l0 x19_1) * t201)))) 65536)) x19_1 (rd l0 x19_1) (IntKind.u64.wrap (Int.tdiv (IntKind.u64.wrap ((IntKind.u64.wrap (x8_2 + (rd x5_2 (ji21)))) + (IntKind.u64.wrap ((rd l0 x19_1) * t201)))) 65536)) (wrap64 (x9_2 + 1)) l0 (l0.length : Int) x19_1) = some r := H
                            have A24 := Aside0.mk A240
                            clear A240
                            obtain ⟨y202, hy202⟩ : ∃ y_ : List Int, y_ = (x5_2.set ((ji21) : Int).toNat (Int.tmod (IntKind.u64.wrap ((IntKind.u64.wrap (x8_2 + (rd x5_2 (ji21)))) + (IntKind.u64.wrap ((rd l0 x19_1) * t201)))) 65536)) := ⟨_, rfl⟩
                            replace H : (pontageref03_Mul.l1 k2 l1 y202 x19_1 (rd l0 x19_1) (IntKind.u64.wrap (Int.tdiv (IntKind.u64.wrap ((IntKind.u64.wrap (x8_2 + (rd x5_2 (ji21)))) + (IntKind.u64.wrap ((rd l0 x19_1) * t201)))) 65536)) (wrap64 (x9_2 + 1)) l0 (l0.length : Int) x19_1) = some r := by first | (rw [hy202]; with_reducible exact H) | (have H2_ := (Option.bind_some _ _).symm.trans H; rw [hy202]; with_reducible exact H2_) | (have H2_ := (Option.bind_some _ _).symm.trans H; with_reducible exact H2_) | with_reducible exact H | (rw [hy202]; exact H) | exact H
                            have Ny202 := Aside0.mk hy202
                            clear hy202
                            have H' := Aside0.mk H
                            clear H
                            obtain ⟨Ao26, co26, eo26⟩ := Kd.R_slice HO_5.out
                            subst eo26
                            have p200 : 0 ≤ ((ji21) : Int) := of_decide_eq_true (by first | (with_reducible assumption) | assumption)
                            have q200 : (ji21) < (x5_2.length : Int) := of_decide_eq_true (by first | (with_reducible assumption) | assumption)
                            obtain ⟨ad200, e200, hx200_0⟩ := Kd.at_int (Kd.R_reads' HO_5.out).2.2 (ji21) p200 q200
                            cases e200
                            replace p200 := eq_true p200
                            replace q200 := eq_true q200
                            go_wp2_with (first | (go_at_call 64; (with_reducible refine (pontageref03_digit.calls _ _ l1 x9_2 t201 _ ?side1 ?side2 A24.out).mono ?_); (case side1 => repeat (first | exact (Kd.C_below HR1.out HB.out) | (with_reducible refine Kd.C_alloc ?_ _) | (with_reducible refine Kd.C_drewN ?_ _) | (with_reducible refine Kd.C_drew ?_))); (case side2 => exact HC1.out); rintro e w' ⟨rfl, ⟨nd, rfl⟩⟩; (try first | exact ⟨rfl, _, World.drewN_drewN _ _ _⟩ | exact ⟨rfl, _, Eq.trans (World.drewN_drewN _ _ _) (congrArg (World.drewN _) (Nat.add_assoc _ _ _))⟩); have p25 : 0 ≤ ((ji21) : Int) := of_decide_eq_true (by first | (with_reducible assumption) | assumption); have q25 : ((ji21) : Int) < ((x5_2.length : Int) : Int) := of_decide_eq_true (by first | (with_reducible assumption) | assumption); obtain ⟨go25, co25, eo25, gb25, gl25, cl25, HG25⟩ := Kd.R_form HO_5.out (by omega); (first | cases eo25 | (injection eo25 with ea_ en_ ec_; (first | subst ea_ | (injection ea_ with ea_; subst ea_)); subst ec_; clear en_)); have GB25 := Aside0.mk gb25; have GG25 := Aside0.mk HG25; clear gb25 gl25 HG25; (first | simp only [add_plain] at hx200_0 | skip); obtain ⟨hx25_0, hf25_0⟩ := Kd.R_celln 0 HO_5.out ((ji21) : Int) p25 q25; replace p25 := eq_true p25; replace q25 := eq_true q25; obtain ⟨hy27_, hz27_⟩ := Kd.R_celln 0 HO_5.out ((ji21) : Int) (of_decide_eq_true (by first | (with_reducible assumption) | assumption)) (of_decide_eq_true (by first | (with_reducible assumption) | assumption)); have HP27 := Kd.R_putg HO_5.out ((ji21) : Int) (Int.tmod (IntKind.u64.wrap ((IntKind.u64.wrap (x8_2 + (rd x5_2 (ji21)))) + (IntKind.u64.wrap ((rd l0 x19_1) * t201)))) 65536)) | ((with_reducible refine gate_store (t := 22) (p := 54) rfl ?_); (try (rw [drewN_self wr]; generalize hq_ : World.drewN wr _ = wr; have n0_ := Aside0.mk (Kd.R_at hq_ HO_5.out); have n1_ := Aside0.mk (below_at hq_ HB.out); clear hq_ HO_5 HB; have HO_5 := n0_; have HB := n1_; clear n0_ n1_; (try (obtain ⟨hy27_, hz27_⟩ := Kd.R_celln 0 HO_5.out ((ji21) : Int) (of_decide_eq_true (by first | (with_reducible assumption) | assumption)) (of_decide_eq_true (by first | (with_reducible assumption) | assumption)))); (try (have HP27 := Kd.R_putg HO_5.out ((ji21) : Int) (Int.tmod (IntKind.u64.wrap ((IntKind.u64.wrap (x8_2 + (rd x5_2 (ji21)))) + (IntKind.u64.wrap ((rd l0 x19_1) * t201)))) 65536))))); refine store_event (t := 22) (p := 54) (v := ?vo_w28) (w1 := (wr.setCell ⟨go25, ((ji21) : Int).toNat, none⟩ (.int .u64 (Int.tmod (IntKind.u64.wrap ((IntKind.u64.wrap (x8_2 + (rd x5_2 (ji21)))) + (IntKind.u64.wrap ((rd l0 x19_1) * t201)))) 65536)))) ?hg ?ho ?hn ?hr ?_; (case ho => rfl); (case hg => rfl); (case hn => rfl); (case hr => first | (go_simp; done) | (go_simp; rfl)); intro w28 hw; have hg : wr.grownBy w28 (some go25) := (by rw [hw]; exact HP27.2); have hp_ : Kd.R (Kd.int .u64) 22 w28 w.heap.size (fun k_ => (w.heap.size ≤ k_)) (.slice (some ⟨go25, 0, none⟩) x5_2.length co26) y202 := (by rw [hw, Ny202.out]; exact HP27.1); clear HP27; have n0_ := Aside0.mk (hp_); have n1_ := Aside0.mk ((by rw [hw]; exact below_set (HB.out) GB25.out : Below w.heap.size w w28)); clear HO_5; clear HB; have HO_5 := n0_; have HB := n1_; clear n0_ n1_; clear hg hw hp_))
                            repeat (go_quiet (first | (go_at_call 64; (with_reducible refine (pontageref03_digit.calls _ _ l1 x9_2 t201 _ ?side1 ?side2 A24.out).mono ?_); (case side1 => repeat (first | exact (Kd.C_below HR1.out HB.out) | (with_reducible refine Kd.C_alloc ?_ _) | (with_reducible refine Kd.C_drewN ?_ _) | (with_reducible refine Kd.C_drew ?_))); (case side2 => exact HC1.out); rintro e w' ⟨rfl, ⟨nd, rfl⟩⟩; (try first | exact ⟨rfl, _, World.drewN_drewN _ _ _⟩ | exact ⟨rfl, _, Eq.trans (World.drewN_drewN _ _ _) (congrArg (World.drewN _) (Nat.add_assoc _ _ _))⟩); have p25 : 0 ≤ ((ji21) : Int) := of_decide_eq_true (by first | (with_reducible assumption) | assumption); have q25 : ((ji21) : Int) < ((x5_2.length : Int) : Int) := of_decide_eq_true (by first | (with_reducible assumption) | assumption); obtain ⟨go25, co25, eo25, gb25, gl25, cl25, HG25⟩ := Kd.R_form HO_5.out (by omega); (first | cases eo25 | (injection eo25 with ea_ en_ ec_; (first | subst ea_ | (injection ea_ with ea_; subst ea_)); subst ec_; clear en_)); have GB25 := Aside0.mk gb25; have GG25 := Aside0.mk HG25; clear gb25 gl25 HG25; (first | simp only [add_plain] at hx200_0 | skip); obtain ⟨hx25_0, hf25_0⟩ := Kd.R_celln 0 HO_5.out ((ji21) : Int) p25 q25; replace p25 := eq_true p25; replace q25 := eq_true q25; obtain ⟨hy27_, hz27_⟩ := Kd.R_celln 0 HO_5.out ((ji21) : Int) (of_decide_eq_true (by first | (with_reducible assumption) | assumption)) (of_decide_eq_true (by first | (with_reducible assumption) | assumption)); have HP27 := Kd.R_putg HO_5.out ((ji21) : Int) (Int.tmod (IntKind.u64.wrap ((IntKind.u64.wrap (x8_2 + (rd x5_2 (ji21)))) + (IntKind.u64.wrap ((rd l0 x19_1) * t201)))) 65536)) | ((with_reducible refine gate_store (t := 22) (p := 54) rfl ?_); (try (rw [drewN_self wr]; generalize hq_ : World.drewN wr _ = wr; have n0_ := Aside0.mk (Kd.R_at hq_ HO_5.out); have n1_ := Aside0.mk (below_at hq_ HB.out); clear hq_ HO_5 HB; have HO_5 := n0_; have HB := n1_; clear n0_ n1_; (try (obtain ⟨hy27_, hz27_⟩ := Kd.R_celln 0 HO_5.out ((ji21) : Int) (of_decide_eq_true (by first | (with_reducible assumption) | assumption)) (of_decide_eq_true (by first | (with_reducible assumption) | assumption)))); (try (have HP27 := Kd.R_putg HO_5.out ((ji21) : Int) (Int.tmod (IntKind.u64.wrap ((IntKind.u64.wrap (x8_2 + (rd x5_2 (ji21)))) + (IntKind.u64.wrap ((rd l0 x19_1) * t201)))) 65536))))); refine store_event (t := 22) (p := 54) (v := ?vo_w28) (w1 := (wr.setCell ⟨go25, ((ji21) : Int).toNat, none⟩ (.int .u64 (Int.tmod (IntKind.u64.wrap ((IntKind.u64.wrap (x8_2 + (rd x5_2 (ji21)))) + (IntKind.u64.wrap ((rd l0 x19_1) * t201)))) 65536)))) ?hg ?ho ?hn ?hr ?_; (case ho => rfl); (case hg => rfl); (case hn => rfl); (case hr => first | (go_simp; done) | (go_simp; rfl)); intro w28 hw; have hg : wr.grownBy w28 (some go25) := (by rw [hw]; exact HP27.2); have hp_ : Kd.R (Kd.int .u64) 22 w28 w.heap.size (fun k_ => (w.heap.size ≤ k_)) (.slice (some ⟨go25, 0, none⟩) x5_2.length co26) y202 := (by rw [hw, Ny202.out]; exact HP27.1); clear HP27; have n0_ := Aside0.mk (hp_); have n1_ := Aside0.mk ((by rw [hw]; exact below_set (HB.out) GB25.out : Below w.heap.size w w28)); clear HO_5; clear HB; have HO_5 := n0_; have HB := n1_; clear n0_ n1_; clear hg hw hp_)); try go_wp2_with (first | (go_at_call 64; (with_reducible refine (pontageref03_digit.calls _ _ l1 x9_2 t201 _ ?side1 ?side2 A24.out).mono ?_); (case side1 => repeat (first | exact (Kd.C_below HR1.out HB.out) | (with_reducible refine Kd.C_alloc ?_ _) | (with_reducible refine Kd.C_drewN ?_ _) | (with_reducible refine Kd.C_drew ?_))); (case side2 => exact HC1.out); rintro e w' ⟨rfl, ⟨nd, rfl⟩⟩; (try first | exact ⟨rfl, _, World.drewN_drewN _ _ _⟩ | exact ⟨rfl, _, Eq.trans (World.drewN_drewN _ _ _) (congrArg (World.drewN _) (Nat.add_assoc _ _ _))⟩); have p25 : 0 ≤ ((ji21) : Int) := of_decide_eq_true (by first | (with_reducible assumption) | assumption); have q25 : ((ji21) : Int) < ((x5_2.length : Int) : Int) := of_decide_eq_true (by first | (with_reducible assumption) | assumption); obtain ⟨go25, co25, eo25, gb25, gl25, cl25, HG25⟩ := Kd.R_form HO_5.out (by omega); (first | cases eo25 | (injection eo25 with ea_ en_ ec_; (first | subst ea_ | (injection ea_ with ea_; subst ea_)); subst ec_; clear en_)); have GB25 := Aside0.mk gb25; have GG25 := Aside0.mk HG25; clear gb25 gl25 HG25; (first | simp only [add_plain] at hx200_0 | skip); obtain ⟨hx25_0, hf25_0⟩ := Kd.R_celln 0 HO_5.out ((ji21) : Int) p25 q25; replace p25 := eq_true p25; replace q25 := eq_true q25; obtain ⟨hy27_, hz27_⟩ := Kd.R_celln 0 HO_5.out ((ji21) : Int) (of_decide_eq_true (by first | (with_reducible assumption) | assumption)) (of_decide_eq_true (by first | (with_reducible assumption) | assumption)); have HP27 := Kd.R_putg HO_5.out ((ji21) : Int) (Int.tmod (IntKind.u64.wrap ((IntKind.u64.wrap (x8_2 + (rd x5_2 (ji21)))) + (IntKind.u64.wrap ((rd l0 x19_1) * t201)))) 65536)) | ((with_reducible refine gate_store (t := 22) (p := 54) rfl ?_); (try (rw [drewN_self wr]; generalize hq_ : World.drewN wr _ = wr; have n0_ := Aside0.mk (Kd.R_at hq_ HO_5.out); have n1_ := Aside0.mk (below_at hq_ HB.out); clear hq_ HO_5 HB; have HO_5 := n0_; have HB := n1_; clear n0_ n1_; (try (obtain ⟨hy27_, hz27_⟩ := Kd.R_celln 0 HO_5.out ((ji21) : Int) (of_decide_eq_true (by first | (with_reducible assumption) | assumption)) (of_decide_eq_true (by first | (with_reducible assumption) | assumption)))); (try (have HP27 := Kd.R_putg HO_5.out ((ji21) : Int) (Int.tmod (IntKind.u64.wrap ((IntKind.u64.wrap (x8_2 + (rd x5_2 (ji21)))) + (IntKind.u64.wrap ((rd l0 x19_1) * t201)))) 65536))))); refine store_event (t := 22) (p := 54) (v := ?vo_w28) (w1 := (wr.setCell ⟨go25, ((ji21) : Int).toNat, none⟩ (.int .u64 (Int.tmod (IntKind.u64.wrap ((IntKind.u64.wrap (x8_2 + (rd x5_2 (ji21)))) + (IntKind.u64.wrap ((rd l0 x19_1) * t201)))) 65536)))) ?hg ?ho ?hn ?hr ?_; (case ho => rfl); (case hg => rfl); (case hn => rfl); (case hr => first | (go_simp; done) | (go_simp; rfl)); intro w28 hw; have hg : wr.grownBy w28 (some go25) := (by rw [hw]; exact HP27.2); have hp_ : Kd.R (Kd.int .u64) 22 w28 w.heap.size (fun k_ => (w.heap.size ≤ k_)) (.slice (some ⟨go25, 0, none⟩) x5_2.length co26) y202 := (by rw [hw, Ny202.out]; exact HP27.1); clear HP27; have n0_ := Aside0.mk (hp_); have n1_ := Aside0.mk ((by rw [hw]; exact below_set (HB.out) GB25.out : Below w.heap.size w w28)); clear HO_5; clear HB; have HO_5 := n0_; have HB := n1_; clear n0_ n1_; clear hg hw hp_)))
                            go_roundg k2
                            case measure => have := HK1.out; have := HK2.out; omega
                            case rel => exact ⟨(y202), (IntKind.u64.wrap (Int.tdiv (IntKind.u64.wrap ((IntKind.u64.wrap (x8_2 + (rd x5_2 (ji21)))) + (IntKind.u64.wrap ((rd l0 x19_1) * t201)))) 65536)), (wrap64 (x9_2 + 1)), (by first | rfl | (simp; done) | (simp only [← hji21] <;> (first | rfl | simp)) | (simp [*]; done)), (by first | rfl | (simp; done) | (simp [*]; done)), H', ⟨by have := HK1.out; have := HK2.out; omega⟩, ⟨by (with_reducible repeat (first | apply Kd.R_alloc | apply Kd.R_drewN | apply Kd.R_drew)); exact HO_5.out⟩, ⟨by repeat (first | (with_reducible first | exact HB.out | apply below_alloc | apply pw_below_drewN | apply below_drew1) | exact HB.out)⟩⟩
                          · rw [if_neg c23] at H
                            exact absurd H (by simp)
                        · rw [if_neg c22] at H
                          exact absurd H (by simp)
                      · rw [if_neg c20] at H
                        have c20b0 : decide (0 < x8_2) = false := decide_eq_false c20
                        clear c20
                        have H' := Aside0.mk H
                        clear H
                        go_wp2
                        repeat (go_quiet (fail); try go_wp2)
                        go_roundg k2
                        case measure => have := HK1.out; have := HK2.out; omega
                        case rel => exact ⟨(x5_2), (wrap64 (x19_1 + 1)), (by first | rfl | (simp; done) | (simp [*]; done)), H', ⟨by have := HK1.out; have := HK2.out; omega⟩, ⟨by (with_reducible repeat (first | apply Kd.R_alloc | apply Kd.R_drewN | apply Kd.R_drew)); exact HO_5.out⟩, ⟨by repeat (first | (with_reducible first | exact HB.out | apply below_alloc | apply pw_below_drewN | apply below_drew1) | exact HB.out)⟩⟩
              · rw [if_neg c10] at H
                exact absurd H (by simp)
            · rw [if_neg c9] at H
              exact absurd H (by simp)
          · rw [if_neg c8] at H
            have c8b0 : decide (x19_1 < (l0.length : Int)) = false := decide_eq_false c8
            clear c8
            replace H := Option.bind_eq_some_iff.mp H
            obtain ⟨t193, A290, H⟩ := H
            replace H : (some t193) = some r := H
            have A29 := Aside0.mk A290
            clear A290
            obtain rfl := Option.some.inj H
            obtain ⟨Ao30, co30, eo30⟩ := Kd.R_slice HO_5.out
            subst eo30
            go_wp2_with (first | (go_at_call 65; (with_reducible refine (pontageref03_trim.calls k1 (fun k_ => some k_ = (.slice Ao30 x5_1.length co30 : Value).ownBlock) _ _ x5_1 t193 _ ?side1 A29.out).mono ?_); (case side1 => exact Kd.R_V (Kd.R_tight rfl (HO_5.out))); rintro e w31 ⟨v194, rfl, ho0, hb⟩; have n0_ := Aside0.mk (Kd.R_below (by (with_reducible repeat (first | apply Kd.R_alloc | apply Kd.R_drewN | apply Kd.R_drew)); exact HO_5.out) hb); have n1_ := Aside0.mk (Kd.V_lower (Kd.V_mono (ok' := fun k_ => (w.heap.size ≤ k_)) ho0 (fun k_ hk_ => Or.elim hk_ (fun hs_ => ((HO_5.out).1 k_ hs_.symm)) (fun hn_ => (Nat.le_trans (below_size (by repeat (first | (with_reducible first | exact HB.out | apply below_alloc | apply pw_below_drewN | apply below_drew1) | exact HB.out))) hn_)))) (below_size (by repeat (first | (with_reducible first | exact HB.out | apply below_alloc | apply pw_below_drewN | apply below_drew1) | exact HB.out)))); have n2_ := Aside0.mk (below_step (by repeat (first | (with_reducible first | exact HB.out | apply below_alloc | apply pw_below_drewN | apply below_drew1) | exact HB.out)) hb); clear HO_5; clear HB; have HO_5 := n0_; have HO195 := n1_; have HB := n2_; clear n0_ n1_ n2_; (try clear hb); (try clear hb2); (try clear hk); (try clear hi); (try clear ho0)))
            repeat (go_quiet (first | (go_at_call 65; (with_reducible refine (pontageref03_trim.calls k1 (fun k_ => some k_ = (.slice Ao30 x5_1.length co30 : Value).ownBlock) _ _ x5_1 t193 _ ?side1 A29.out).mono ?_); (case side1 => exact Kd.R_V (Kd.R_tight rfl (HO_5.out))); rintro e w31 ⟨v194, rfl, ho0, hb⟩; have n0_ := Aside0.mk (Kd.R_below (by (with_reducible repeat (first | apply Kd.R_alloc | apply Kd.R_drewN | apply Kd.R_drew)); exact HO_5.out) hb); have n1_ := Aside0.mk (Kd.V_lower (Kd.V_mono (ok' := fun k_ => (w.heap.size ≤ k_)) ho0 (fun k_ hk_ => Or.elim hk_ (fun hs_ => ((HO_5.out).1 k_ hs_.symm)) (fun hn_ => (Nat.le_trans (below_size (by repeat (first | (with_reducible first | exact HB.out | apply below_alloc | apply pw_below_drewN | apply below_drew1) | exact HB.out))) hn_)))) (below_size (by repeat (first | (with_reducible first | exact HB.out | apply below_alloc | apply pw_below_drewN | apply below_drew1) | exact HB.out)))); have n2_ := Aside0.mk (below_step (by repeat (first | (with_reducible first | exact HB.out | apply below_alloc | apply pw_below_drewN | apply below_drew1) | exact HB.out)) hb); clear HO_5; clear HB; have HO_5 := n0_; have HO195 := n1_; have HB := n2_; clear n0_ n1_ n2_; (try clear hb); (try clear hb2); (try clear hk); (try clear hi); (try clear ho0))); try go_wp2_with (first | (go_at_call 65; (with_reducible refine (pontageref03_trim.calls k1 (fun k_ => some k_ = (.slice Ao30 x5_1.length co30 : Value).ownBlock) _ _ x5_1 t193 _ ?side1 A29.out).mono ?_); (case side1 => exact Kd.R_V (Kd.R_tight rfl (HO_5.out))); rintro e w31 ⟨v194, rfl, ho0, hb⟩; have n0_ := Aside0.mk (Kd.R_below (by (with_reducible repeat (first | apply Kd.R_alloc | apply Kd.R_drewN | apply Kd.R_drew)); exact HO_5.out) hb); have n1_ := Aside0.mk (Kd.V_lower (Kd.V_mono (ok' := fun k_ => (w.heap.size ≤ k_)) ho0 (fun k_ hk_ => Or.elim hk_ (fun hs_ => ((HO_5.out).1 k_ hs_.symm)) (fun hn_ => (Nat.le_trans (below_size (by repeat (first | (with_reducible first | exact HB.out | apply below_alloc | apply pw_below_drewN | apply below_drew1) | exact HB.out))) hn_)))) (below_size (by repeat (first | (with_reducible first | exact HB.out | apply below_alloc | apply pw_below_drewN | apply below_drew1) | exact HB.out)))); have n2_ := Aside0.mk (below_step (by repeat (first | (with_reducible first | exact HB.out | apply below_alloc | apply pw_below_drewN | apply below_drew1) | exact HB.out)) hb); clear HO_5; clear HB; have HO_5 := n0_; have HO195 := n1_; have HB := n2_; clear n0_ n1_ n2_; (try clear hb); (try clear hb2); (try clear hk); (try clear hi); (try clear ho0))))
            go_ret
            exact ⟨_, by first | rfl | (simp [errW_none, errW_some] <;> rfl) | (simp only [← hji3]; first | rfl | (simp [errW_none, errW_some] <;> rfl)) | (simp [*, errW_none, errW_some] <;> rfl), by (with_reducible repeat (first | apply Kd.V_alloc | apply Kd.V_drewN | apply Kd.V_drew)); exact HO195.out, by repeat (first | (with_reducible first | exact HB.out | apply below_alloc | apply pw_below_drewN | apply below_drew1) | exact HB.out)⟩
    · rw [if_neg c5] at H
      exact absurd H (by simp)
  · rw [if_neg c4] at H
    exact absurd H (by simp)



end Go.Proofs.Ytgghopmlcpcpkaa.PResiduePowers
namespace Go.Proofs.Ytgghopmlcpcpkaa.PResiduePowers
open Go.RowKit Go.Proofs.YtgghopmlcpcpkaaW.PrintWords Go.Proofs.YtgghopmlcpcpkaaW.PrintLast Go.Proofs.YtgghopmlcpcpkaaW.PrintMore
set_option linter.unusedVariables false
set_option linter.unusedSimpArgs false
/-- with enough fuel it is r -/
def Ev {α : Type} (g : Nat → Option α) (r : α) : Prop := ∃ k0, ∀ k, k0 ≤ k → g k = some r
theorem Ev.now {α : Type} (r : α) : Ev (fun _ => some r) r := ⟨0, fun _ _ => rfl⟩
theorem Ev.up {α : Type} {g h : Nat → Option α} {r : α} (e : Ev g r) (hs : ∀ k, h (k + 1) = g k) : Ev h r := by
  obtain ⟨k0, h0⟩ := e
  refine ⟨k0 + 1, fun k hk => ?_⟩
  obtain ⟨j, rfl⟩ : ∃ j, k = j + 1 := ⟨k - 1, by omega⟩
  rw [hs]; exact h0 j (by omega)
theorem Ev.bind {α β : Type} {g : Nat → Option α} {F : α → Nat → Option β} {r : α} {s : β} (e : Ev g r) (f : Ev (F r) s) : Ev (fun k => (g k).bind fun x => F x k) s := by
  obtain ⟨k0, h0⟩ := e
  obtain ⟨k1, h1⟩ := f
  refine ⟨k0 + k1, fun k hk => ?_⟩
  show (g k).bind _ = _
  rw [h0 k (by omega)]; exact h1 k (by omega)
theorem Ev.same {α : Type} {g h : Nat → Option α} {r : α} (e : Ev g r) (hs : ∀ k, h k = g k) : Ev h r := by
  obtain ⟨k0, h0⟩ := e
  exact ⟨k0, fun k hk => by rw [hs]; exact h0 k hk⟩
/-- digits of 16 bits -/
def Dg (l : List Int) : Prop := ∀ d ∈ l, 0 ≤ d ∧ d < 65536
/-- without noughts at the end -/
def Nm (l : List Int) : Prop := ∀ l' d, l = l' ++ [d] → d ≠ 0
def dv : List Int → Int
  | [] => 0
  | d :: l => d + 65536 * dv l
/-- the i-th digit, or 0 -/
def dg (l : List Int) (i : Nat) : Int := l.getD i 0
/-- from the i-th on -/
def dr (l : List Int) (i : Nat) : Int := dv (l.drop i)
theorem dg_bound {l : List Int} (h : Dg l) (i : Nat) : 0 ≤ dg l i ∧ dg l i < 65536 := by
  unfold dg
  rw [List.getD_eq_getElem?_getD]
  cases hi : l[i]? with
  | none => simp
  | some d => simpa using h d (List.mem_of_getElem? hi)
theorem dg_far {l : List Int} {i : Nat} (h : l.length ≤ i) : dg l i = 0 := by
  unfold dg; rw [List.getD_eq_getElem?_getD, List.getElem?_eq_none h]; rfl
theorem dr_far {l : List Int} {i : Nat} (h : l.length ≤ i) : dr l i = 0 := by
  unfold dr; rw [List.drop_eq_nil_of_le h]; rfl
theorem dr_step (l : List Int) (i : Nat) : dr l i = dg l i + 65536 * dr l (i + 1) := by
  rcases Nat.lt_or_ge i l.length with h | h
  · unfold dr dg
    rw [List.drop_eq_getElem_cons h, List.getD_eq_getElem?_getD, List.getElem?_eq_getElem h]
    rfl
  · rw [dr_far h, dg_far h, dr_far (by omega)]; rfl
theorem dv_app (a b : List Int) : dv (a ++ b) = dv a + 65536 ^ a.length * dv b := by
  induction a with
  | nil => simp [dv]
  | cons d a ih => rw [List.cons_append, dv, ih, dv, List.length_cons, Int.pow_succ]; grind
theorem dv_nonneg {l : List Int} (h : Dg l) : 0 ≤ dv l := by
  induction l with
  | nil => exact Int.le_refl _
  | cons d l ih =>
    have h1 := h d (List.mem_cons_self ..)
    have h2 := ih (fun x hx => h x (List.mem_cons_of_mem _ hx))
    rw [dv]; omega
theorem pow_pos (n : Nat) : (0 : Int) < 65536 ^ n := Int.pow_pos (by decide)
theorem dv_lt {l : List Int} (h : Dg l) : dv l < 65536 ^ l.length := by
  induction l with
  | nil => decide
  | cons d l ih =>
    have h1 := h d (List.mem_cons_self ..)
    have h2 := ih (fun x hx => h x (List.mem_cons_of_mem _ hx))
    rw [dv, List.length_cons, Int.pow_succ]
    generalize (65536 : Int) ^ l.length = p at *
    omega
theorem Dg.drop {l : List Int} (h : Dg l) (i : Nat) : Dg (l.drop i) := fun d hd => h d (List.mem_of_mem_drop hd)
theorem Dg.take {l : List Int} (h : Dg l) (i : Nat) : Dg (l.take i) := fun d hd => h d (List.mem_of_mem_take hd)
theorem dr_nonneg {l : List Int} (h : Dg l) (i : Nat) : 0 ≤ dr l i := dv_nonneg (h.drop i)
theorem dv_split (l : List Int) (i : Nat) (hi : i ≤ l.length) : dv l = dv (l.take i) + 65536 ^ i * dr l i := by
  have := dv_app (l.take i) (l.drop i)
  rw [List.take_append_drop, List.length_take, Nat.min_eq_left hi] at this
  exact this
theorem dv_set {l : List Int} {j : Nat} (hj : j < l.length) (d : Int) : dv (l.set j d) = dv l + 65536 ^ j * (d - dg l j) := by
  induction l generalizing j with
  | nil => exact absurd hj (by simp)
  | cons x l ih =>
    cases j with
    | zero => simp only [List.set, dv, dg, List.getD_cons_zero, Int.pow_zero]; omega
    | succ j =>
      have hj' : j < l.length := by simpa using hj
      have := ih hj'
      simp only [List.set, dv, dg, List.getD_cons_succ] at this ⊢
      rw [this, Int.pow_succ]; grind
theorem Dg.app {a b : List Int} (h : Dg a) (k : Dg b) : Dg (a ++ b) := fun d hd => (List.mem_append.1 hd).elim (h d) (k d)
theorem Dg.one {d : Int} (h : 0 ≤ d ∧ d < 65536) : Dg [d] := fun x hx => by rw [List.mem_singleton.1 hx]; exact h
theorem Dg.nil : Dg [] := fun d hd => absurd hd (List.not_mem_nil)
theorem Dg.set {l : List Int} (h : Dg l) (j : Nat) {d : Int} (hd : 0 ≤ d ∧ d < 65536) : Dg (l.set j d) := fun x hx => by
  rcases List.mem_or_eq_of_mem_set hx with hx | rfl
  · exact h x hx
  · exact hd
theorem Dg.zeros (n : Nat) : Dg (List.replicate n 0) := fun d hd => by rw [List.eq_of_mem_replicate hd]; decide
theorem dv_zeros (n : Nat) : dv (List.replicate n 0) = 0 := by
  induction n with
  | zero => rfl
  | succ n ih => rw [List.replicate_succ, dv, ih]; rfl
theorem pow_cast (k : Nat) : ((65536 ^ k : Nat) : Int) = (65536 : Int) ^ k := by
  induction k with
  | zero => rfl
  | succ k ih => rw [Nat.pow_succ, Int.pow_succ, ← ih]; rfl
theorem pow_le {a b : Nat} (h : a ≤ b) : (65536 : Int) ^ a ≤ 65536 ^ b := by
  rw [← pow_cast, ← pow_cast]; exact Int.ofNat_le.2 (Nat.pow_le_pow_right (by decide) h)
theorem Nm.nil : Nm [] := fun l' d h => by simp at h
/-- many digits, a great number -/
theorem Nm.great {l : List Int} (hd : Dg l) (hn : Nm l) (h : l ≠ []) : 65536 ^ (l.length - 1) ≤ dv l := by
  obtain ⟨l', d, rfl⟩ : ∃ l' d, l = l' ++ [d] := ⟨l.dropLast, l.getLast h, (List.dropLast_concat_getLast h).symm⟩
  have h1 := hn l' d rfl
  have h2 := hd d (by simp)
  have h3 : 0 ≤ dv l' := dv_nonneg (fun x hx => hd x (by simp [hx]))
  rw [dv_app, List.length_append, List.length_singleton, Nat.add_sub_cancel, dv, dv]
  have hp := pow_pos l'.length
  generalize (65536 : Int) ^ l'.length = p at *
  have : p * 1 ≤ p * (d + 65536 * 0) := Int.mul_le_mul_of_nonneg_left (by omega) (by omega)
  omega
theorem Nm.len {l : List Int} (hd : Dg l) (hn : Nm l) {n : Nat} (h : dv l < 65536 ^ n) : l.length ≤ n := by
  rcases Nat.lt_or_ge n l.length with hl | hl
  · have h1 := Nm.great hd hn (by intro e; rw [e] at hl; simp at hl)
    have h2 : (65536 : Int) ^ n ≤ 65536 ^ (l.length - 1) := pow_le (by omega)
    omega
  · exact hl
/-- the digits of a number -/
structure Num (l : List Int) (n : Nat) : Prop where
  dg : Dg l
  nm : Nm l
  val : dv l = n
theorem Num.len {l : List Int} {n : Nat} (h : Num l n) {k : Nat} (hn : n < 65536 ^ k) : l.length ≤ k := by
  refine h.nm.len h.dg ?_
  rw [h.val, ← pow_cast]; exact Int.ofNat_lt.2 hn
theorem Num.zero : Num [] 0 := ⟨Dg.nil, Nm.nil, rfl⟩
theorem Num.nil_of {l : List Int} (h : Num l 0) : l = [] := by
  have := h.len (k := 0) (by decide)
  exact List.length_eq_zero_iff.1 (by omega)
theorem rd_dg (l : List Int) (i : Nat) : rd l (i : Int) = dg l i := by unfold rd dg; rw [Int.toNat_natCast]
theorem digit_is (l : List Int) (i : Nat) : pontageref03_digit.f l (i : Int) = some (dg l i) := by
  unfold pontageref03_digit.f
  by_cases h : (i : Int) < (l.length : Int)
  · rw [if_pos h, if_pos (by omega), rd_dg]
  · rw [if_neg h, dg_far (by omega)]
theorem w64 {n : Int} (h : -9223372036854775808 ≤ n ∧ n ≤ 9223372036854775807) : wrap64 n = n := by unfold wrap64; omega
theorem u64r {n : Int} (h : 0 ≤ n ∧ n ≤ 18446744073709551615) : IntKind.u64.wrap n = n := by rw [IntKind.wrap_u64]; omega
/-! ### trim -/
theorem trim_ok : ∀ (n : Nat) (l : List Int), l.length = n → n < 100000 → Dg l → ∃ r, Ev (fun k => pontageref03_trim.l0 k l) r ∧ Dg r ∧ Nm r ∧ dv r = dv l := by
  intro n
  induction n with
  | zero =>
    intro l hl _ hd
    have : l = [] := List.length_eq_zero_iff.1 hl
    subst this
    exact ⟨[], (Ev.now _).up (fun k => by simp [pontageref03_trim.l0]), Dg.nil, Nm.nil, rfl⟩
  | succ n ih =>
    intro l hl hb hd
    have hne : l ≠ [] := by intro e; rw [e] at hl; simp at hl
    obtain ⟨l', d, rfl⟩ : ∃ l' d, l = l' ++ [d] := ⟨l.dropLast, l.getLast hne, (List.dropLast_concat_getLast hne).symm⟩
    have hl' : l'.length = n := by simpa using hl
    have hw : wrap64 (((l' ++ [d]).length : Int) - 1) = (n : Int) := by rw [hl, w64 (by omega)]; omega
    have hr : rd (l' ++ [d]) (n : Int) = d := by rw [rd_dg]; unfold dg; rw [← hl']; simp
    have step : ∀ k, pontageref03_trim.l0 (k + 1) (l' ++ [d]) = if d = 0 then pontageref03_trim.l0 k l' else some (l' ++ [d]) := by
      intro k
      simp only [pontageref03_trim.l0]
      rw [hw, if_pos (by rw [hl]; omega), if_pos (by omega), if_pos (by rw [hl]; omega), hr, if_pos (show (n : Int) ≤ _ by rw [hl]; omega)]
      rw [Int.toNat_natCast, ← hl', List.take_left]
    by_cases h0 : d = 0
    · obtain ⟨r, e, h1, h2, h3⟩ := ih l' hl' (by omega) (fun x hx => hd x (by simp [hx]))
      refine ⟨r, e.up (fun k => by rw [step, if_pos h0]), h1, h2, ?_⟩
      rw [h3, dv_app, h0, dv, dv]; omega
    · refine ⟨l' ++ [d], (Ev.now _).up (fun k => by rw [step, if_neg h0]), hd, ?_, rfl⟩
      intro a b hab
      have := List.append_inj' hab rfl
      simp at this
      rw [← this.2]; exact h0
theorem trim_is {l : List Int} (hd : Dg l) (hl : l.length < 100000) : ∃ r, Ev (fun k => pontageref03_trim.f k l) r ∧ Dg r ∧ Nm r ∧ dv r = dv l := trim_ok _ l rfl hl hd
end Go.Proofs.Ytgghopmlcpcpkaa.PResiduePowers
namespace Go.Proofs.Ytgghopmlcpcpkaa.PResiduePowers
open Go.RowKit Go.Proofs.YtgghopmlcpcpkaaW.PrintWords Go.Proofs.YtgghopmlcpcpkaaW.PrintLast Go.Proofs.YtgghopmlcpcpkaaW.PrintMore
set_option linter.unusedVariables false
set_option linter.unusedSimpArgs false
theorem dr_zero (l : List Int) : dr l 0 = dv l := rfl
theorem snoc_dv (out : List Int) (d : Int) : dv (out ++ [d]) = dv out + 65536 ^ out.length * d := by
  rw [dv_app, dv, dv]; grind
/-! ### Add -/
theorem add_loop {a b : List Int} (ha : Dg a) (hb : Dg b) (la : a.length ≤ 4000) (lb : b.length ≤ 4000) : ∀ (m i : Nat) (out : List Int) (c : Int),
    max a.length b.length + 1 = m + i → out.length = i → 0 ≤ c → c ≤ 1 → (m = 0 → c = 0) → Dg out →
    ∃ r, Ev (fun k => pontageref03_Add.l0 k a b out c i) r ∧ Dg r ∧ Nm r ∧ dv r = dv out + 65536 ^ i * (c + dr a i + dr b i) := by
  intro m
  induction m with
  | zero =>
    intro i out c hm ho h0 h1 hc hd
    obtain rfl := hc rfl
    obtain ⟨r, e, e1, e2, e3⟩ := trim_is hd (by omega)
    have st : ∀ k, pontageref03_Add.l0 (k + 1 + 1) a b out 0 i = (pontageref03_trim.f k out).bind fun t => some t := by
      intro k
      simp only [pontageref03_Add.l0, pontageref03_Add.j1]
      rw [if_neg (by omega), if_neg (by omega)]
      simp
    refine ⟨r, ((e.bind (F := fun t _ => some t) (Ev.now r)).up (h := fun k => pontageref03_Add.l0 (k + 1) a b out 0 i) st).up (fun _ => rfl), e1, e2, ?_⟩
    rw [e3, dr_far (by omega), dr_far (by omega)]; simp
  | succ m ih =>
    intro i out c hm ho h0 h1 hc hd
    by_cases hgo : (i : Int) < (a.length : Int) ∨ (i : Int) < (b.length : Int) ∨ c > 0
    · have da := dg_bound ha i
      have db := dg_bound hb i
      have st : ∀ k, pontageref03_Add.l0 (k + 1 + 1) a b out c i = pontageref03_Add.l0 k a b (out ++ [(c + dg a i + dg b i) % 65536]) ((c + dg a i + dg b i) / 65536) ((i + 1 : Nat) : Int) := by
        intro k
        have hlen : out.length < 17592186044416 := by omega
        simp only [pontageref03_Add.l0, pontageref03_Add.j1, digit_is, Option.bind_some]
        have e1 : IntKind.u64.wrap (c + dg a i) = c + dg a i := u64r (by omega)
        have e2 : IntKind.u64.wrap (c + dg a i + dg b i) = c + dg a i + dg b i := u64r (by omega)
        have e3 : Int.tmod (c + dg a i + dg b i) 65536 = (c + dg a i + dg b i) % 65536 := Int.tmod_eq_emod_of_nonneg (by omega)
        have e4 : Int.tdiv (c + dg a i + dg b i) 65536 = (c + dg a i + dg b i) / 65536 := Int.tdiv_eq_ediv_of_nonneg (by omega)
        have e5 : IntKind.u64.wrap ((c + dg a i + dg b i) / 65536) = (c + dg a i + dg b i) / 65536 := u64r (by omega)
        have e6 : wrap64 ((i : Int) + 1) = ((i + 1 : Nat) : Int) := by rw [w64 (by omega)]; omega
        rw [e1, e2, e3, e4, e5, e6, if_pos hlen]
        rcases hgo with h | h | h
        · rw [if_pos h]; rfl
        · by_cases h' : (i : Int) < (a.length : Int)
          · rw [if_pos h']; rfl
          · rw [if_neg h', if_pos h]; rfl
        · rw [if_pos (decide_eq_true h)]; split
          · rfl
          · split <;> rfl
      have hx : (c + dg a i + dg b i) = (c + dg a i + dg b i) % 65536 + 65536 * ((c + dg a i + dg b i) / 65536) := by omega
      obtain ⟨r, e, e1, e2, e3⟩ := ih (i + 1) (out ++ [(c + dg a i + dg b i) % 65536]) ((c + dg a i + dg b i) / 65536) (by omega) (by simp [ho]) (by omega) (by omega) (by
        intro hm0
        rw [dg_far (l := a) (by omega), dg_far (l := b) (by omega)]; omega) (hd.app (Dg.one (by omega)))
      refine ⟨r, (e.up (h := fun k => pontageref03_Add.l0 (k + 1) a b out c i) st).up (fun _ => rfl), e1, e2, ?_⟩
      rw [e3, snoc_dv, ho, dr_step a i, dr_step b i, Int.pow_succ]
      generalize (c + dg a i + dg b i) % 65536 = u at hx
      generalize (c + dg a i + dg b i) / 65536 = v at hx
      generalize (65536 : Int) ^ i = p
      have : c + (dg a i + 65536 * dr a (i + 1)) + (dg b i + 65536 * dr b (i + 1)) = u + 65536 * v + 65536 * dr a (i + 1) + 65536 * dr b (i + 1) := by omega
      rw [this]; grind
    · have hc0 : c = 0 := by omega
      subst hc0
      obtain ⟨r, e, e1, e2, e3⟩ := trim_is hd (by omega)
      have st : ∀ k, pontageref03_Add.l0 (k + 1 + 1) a b out 0 i = (pontageref03_trim.f k out).bind fun t => some t := by
        intro k
        simp only [pontageref03_Add.l0, pontageref03_Add.j1]
        rw [if_neg (by omega), if_neg (by omega)]
        simp
      refine ⟨r, ((e.bind (F := fun t _ => some t) (Ev.now r)).up (h := fun k => pontageref03_Add.l0 (k + 1) a b out 0 i) st).up (fun _ => rfl), e1, e2, ?_⟩
      rw [e3, dr_far (by omega), dr_far (by omega)]; simp
theorem add_is {a b : List Int} {n m : Nat} (ha : Num a n) (hb : Num b m) (la : a.length ≤ 4000) (lb : b.length ≤ 4000) : ∃ r, Ev (fun k => pontageref03_Add.f k a b) r ∧ Num r (n + m) := by
  obtain ⟨r, e, e1, e2, e3⟩ := add_loop ha.dg hb.dg la lb _ 0 [] 0 rfl rfl (by decide) (by decide) (by omega) Dg.nil
  refine ⟨r, e, e1, e2, ?_⟩
  rw [e3, dr_zero, dr_zero, ha.val, hb.val]; simp [dv]
/-! ### Sub -/
theorem sub_loop {a b : List Int} (ha : Dg a) (hb : Dg b) (la : a.length ≤ 4000) : ∀ (m i : Nat) (out : List Int) (c : Int),
    a.length = m + i → out.length = i → 0 ≤ c → c ≤ 1 → Dg out → dv b ≤ dv a → dv out + 65536 ^ i * (dr a i - dr b i - c) = dv a - dv b →
    ∃ r, Ev (fun k => pontageref03_Sub.l0 k a b out c a.length i) r ∧ Dg r ∧ Nm r ∧ dv r = dv a - dv b := by
  intro m
  induction m with
  | zero =>
    intro i out c hm ho h0 h1 hd hle hv
    obtain ⟨r, e, e1, e2, e3⟩ := trim_is hd (by omega)
    have st : ∀ k, pontageref03_Sub.l0 (k + 1) a b out c a.length i = (pontageref03_trim.f k out).bind fun t => some t := by
      intro k
      simp only [pontageref03_Sub.l0]
      rw [if_neg (by omega)]
    refine ⟨r, (e.bind (F := fun t _ => some t) (Ev.now r)).up st, e1, e2, ?_⟩
    rw [e3, ← hv]
    have hlt := dv_lt hd
    have hb0 := dr_nonneg hb i
    rw [ho] at hlt
    rw [dr_far (l := a) (by omega)] at hv ⊢
    have hp := pow_pos i
    generalize (65536 : Int) ^ i = p at *
    generalize dr b i = q at *
    rcases Int.lt_or_le 0 (q + c) with h | h
    · exfalso
      have : p * 1 ≤ p * (q + c) := Int.mul_le_mul_of_nonneg_left (by omega) (by omega)
      have e : p * (0 - q - c) = - (p * (q + c)) := by grind
      omega
    · have : q = 0 := by omega
      have : c = 0 := by omega
      subst_vars; simp
  | succ m ih =>
    intro i out c hm ho h0 h1 hd hle hv
    have da := dg_bound ha i
    have db := dg_bound hb i
    have st : ∀ k, pontageref03_Sub.l0 (k + 1) a b out c a.length i = pontageref03_Sub.l0 k a b (out ++ [(65536 + dg a i - dg b i - c) % 65536]) (1 - (65536 + dg a i - dg b i - c) / 65536) a.length ((i + 1 : Nat) : Int) := by
      intro k
      have hlen : out.length < 17592186044416 := by omega
      have hil : (i : Int) < (a.length : Int) := by omega
      simp only [pontageref03_Sub.l0, digit_is, Option.bind_some]
      have e1 : IntKind.u64.wrap (65536 + dg a i) = 65536 + dg a i := u64r (by omega)
      have e2 : IntKind.u64.wrap (65536 + dg a i - dg b i) = 65536 + dg a i - dg b i := u64r (by omega)
      have e2' : IntKind.u64.wrap (65536 + dg a i - dg b i - c) = 65536 + dg a i - dg b i - c := u64r (by omega)
      have e3 : Int.tmod (65536 + dg a i - dg b i - c) 65536 = (65536 + dg a i - dg b i - c) % 65536 := Int.tmod_eq_emod_of_nonneg (by omega)
      have e4 : Int.tdiv (65536 + dg a i - dg b i - c) 65536 = (65536 + dg a i - dg b i - c) / 65536 := Int.tdiv_eq_ediv_of_nonneg (by omega)
      have e5 : IntKind.u64.wrap ((65536 + dg a i - dg b i - c) / 65536) = (65536 + dg a i - dg b i - c) / 65536 := u64r (by omega)
      have e5' : IntKind.u64.wrap (1 - (65536 + dg a i - dg b i - c) / 65536) = 1 - (65536 + dg a i - dg b i - c) / 65536 := u64r (by omega)
      have e6 : wrap64 ((i : Int) + 1) = ((i + 1 : Nat) : Int) := by rw [w64 (by omega)]; omega
      rw [e1, e2, e2', e3, e4, e5, e5', e6, if_pos hlen, if_pos hil]
    have hx : 65536 + dg a i - dg b i - c = (65536 + dg a i - dg b i - c) % 65536 + 65536 * ((65536 + dg a i - dg b i - c) / 65536) := by omega
    obtain ⟨r, e, e1, e2, e3⟩ := ih (i + 1) (out ++ [(65536 + dg a i - dg b i - c) % 65536]) (1 - (65536 + dg a i - dg b i - c) / 65536) (by omega) (by simp [ho]) (by omega) (by omega) (hd.app (Dg.one (by omega))) hle (by
      rw [← hv, snoc_dv, ho, dr_step a i, dr_step b i, Int.pow_succ]
      generalize (65536 + dg a i - dg b i - c) % 65536 = u at hx
      generalize (65536 + dg a i - dg b i - c) / 65536 = v at hx
      generalize (65536 : Int) ^ i = p
      have : dg a i + 65536 * dr a (i + 1) - (dg b i + 65536 * dr b (i + 1)) - c = u + 65536 * v - 65536 + 65536 * dr a (i + 1) - 65536 * dr b (i + 1) := by omega
      rw [this]; grind)
    exact ⟨r, e.up st, e1, e2, e3⟩
theorem sub_is {a b : List Int} {n m : Nat} (ha : Num a n) (hb : Num b m) (la : a.length ≤ 4000) (h : m ≤ n) : ∃ r, Ev (fun k => pontageref03_Sub.f k a b) r ∧ Num r (n - m) := by
  have hle : dv b ≤ dv a := by rw [ha.val, hb.val]; omega
  obtain ⟨r, e, e1, e2, e3⟩ := sub_loop ha.dg hb.dg la _ 0 [] 0 rfl rfl (by decide) (by decide) Dg.nil hle (by rw [dr_zero, dr_zero]; simp [dv])
  refine ⟨r, e, e1, e2, ?_⟩
  rw [e3, ha.val, hb.val]; omega
/-! ### Cmp -/
theorem take_lt {l : List Int} (h : Dg l) (i : Nat) : dv (l.take i) < 65536 ^ i := by
  have h1 := dv_lt (h.take i)
  rcases Nat.le_total i l.length with hi | hi
  · rw [List.length_take, Nat.min_eq_left hi] at h1; exact h1
  · have : (65536 : Int) ^ (l.take i).length ≤ 65536 ^ i := pow_le (by rw [List.length_take]; omega)
    omega
theorem split_any (l : List Int) (i : Nat) : dv l = dv (l.take i) + 65536 ^ i * dr l i := by
  rcases Nat.le_total i l.length with hi | hi
  · exact dv_split l i hi
  · rw [dr_far hi, List.take_of_length_le hi]; simp
theorem lt_of_high {a b : List Int} (ha : Dg a) (hb : Dg b) {i : Nat} (h : dr a i < dr b i) : dv a < dv b := by
  rw [split_any a i, split_any b i]
  have h1 := take_lt ha i
  have h2 := dv_nonneg (hb.take i)
  have hp := pow_pos i
  generalize (65536 : Int) ^ i = p at *
  have : p * (dr a i + 1) ≤ p * dr b i := Int.mul_le_mul_of_nonneg_left (by omega) (by omega)
  have e : p * (dr a i + 1) = p * dr a i + p := by grind
  omega
theorem cmp_loop {a b : List Int} (ha : Dg a) (hb : Dg b) : ∀ (m : Nat), m ≤ 100000 → dr a m = dr b m →
    ∃ r, Ev (fun k => pontageref03_Cmp.l0 k a b ((m : Int) - 1)) r ∧ (dv a < dv b ∧ r = -1 ∨ dv a = dv b ∧ r = 0 ∨ dv b < dv a ∧ r = 1) := by
  intro m
  induction m with
  | zero =>
    intro _ h
    exact ⟨0, (Ev.now _).up (fun k => by simp [pontageref03_Cmp.l0]), Or.inr (Or.inl ⟨h, rfl⟩)⟩
  | succ m ih =>
    intro hm h
    have e0 : ((m + 1 : Nat) : Int) - 1 = (m : Int) := by omega
    rw [e0]
    have ea := dr_step a m
    have eb := dr_step b m
    rw [h] at ea
    have st : ∀ k, pontageref03_Cmp.l0 (k + 1) a b (m : Int) = if dg a m < dg b m then some (-1) else if dg a m > dg b m then some 1 else pontageref03_Cmp.l0 k a b ((m : Int) - 1) := by
      intro k
      simp only [pontageref03_Cmp.l0, digit_is, Option.bind_some]
      rw [if_pos (by omega), w64 (by omega)]
    by_cases c1 : dg a m < dg b m
    · exact ⟨-1, (Ev.now _).up (fun k => by rw [st, if_pos c1]), Or.inl ⟨lt_of_high ha hb (i := m) (by omega), rfl⟩⟩
    · by_cases c2 : dg a m > dg b m
      · exact ⟨1, (Ev.now _).up (fun k => by rw [st, if_neg c1, if_pos c2]), Or.inr (Or.inr ⟨lt_of_high hb ha (i := m) (by omega), rfl⟩)⟩
      · obtain ⟨r, e, hr⟩ := ih (by omega) (by omega)
        exact ⟨r, e.up (fun k => by rw [st, if_neg c1, if_neg c2]), hr⟩
theorem cmp_is {a b : List Int} {n m : Nat} (ha : Num a n) (hb : Num b m) (la : a.length ≤ 4000) (lb : b.length ≤ 4000) : ∃ r, Ev (fun k => pontageref03_Cmp.f k a b) r ∧ (n < m ∧ r = -1 ∨ n = m ∧ r = 0 ∨ m < n ∧ r = 1) := by
  obtain ⟨r, e, h⟩ := cmp_loop ha.dg hb.dg (max a.length b.length) (by omega) (by rw [dr_far (by omega), dr_far (by omega)])
  rw [ha.val, hb.val] at h
  refine ⟨r, e.same (fun k => ?_), by omega⟩
  unfold pontageref03_Cmp.f
  have : mx (a.length : Int) (b.length : Int) = ((max a.length b.length : Nat) : Int) := by unfold mx; split <;> omega
  rw [this, w64 (by omega)]
end Go.Proofs.Ytgghopmlcpcpkaa.PResiduePowers
namespace Go.Proofs.Ytgghopmlcpcpkaa.PResiduePowers
open Go.RowKit Go.Proofs.YtgghopmlcpcpkaaW.PrintWords Go.Proofs.YtgghopmlcpcpkaaW.PrintLast Go.Proofs.YtgghopmlcpcpkaaW.PrintMore
set_option linter.unusedVariables false
set_option linter.unusedSimpArgs false
theorem dg_set_ne {l : List Int} {i j : Nat} (h : i ≠ j) (d : Int) : dg (l.set j d) i = dg l i := by
  unfold dg; rw [List.getD_eq_getElem?_getD, List.getD_eq_getElem?_getD, List.getElem?_set_ne (Ne.symm h)]
theorem dg_set {l : List Int} {j : Nat} (h : j < l.length) (d : Int) : dg (l.set j d) j = d := by
  unfold dg; rw [List.getD_eq_getElem?_getD, List.getElem?_set_self h]; rfl
theorem dr_set {l : List Int} {i j : Nat} (h : j < i) (d : Int) : dr (l.set j d) i = dr l i := by
  unfold dr; rw [List.drop_set_of_lt h]
/-! ### Half -/
theorem half_loop {a : List Int} (ha : Dg a) (la : a.length ≤ 4000) : ∀ (m : Nat) (out : List Int) (c : Int), m ≤ a.length → out.length = a.length → 0 ≤ c → c ≤ 1 → Dg out → dr a m = 2 * dr out m + c →
    ∃ r c', Ev (fun k => pontageref03_Half.l0 k a out c ((m : Int) - 1)) (r, c') ∧ Dg r ∧ Nm r ∧ 0 ≤ c' ∧ c' ≤ 1 ∧ dv a = 2 * dv r + c' := by
  intro m
  induction m with
  | zero =>
    intro out c hm ho h0 h1 hd hv
    obtain ⟨r, e, e1, e2, e3⟩ := trim_is hd (by omega)
    refine ⟨r, c, (e.bind (F := fun t _ => some (t, c)) (Ev.now (r, c))).up (fun k => by simp [pontageref03_Half.l0]), e1, e2, h0, h1, ?_⟩
    rw [e3]; exact hv
  | succ m ih =>
    intro out c hm ho h0 h1 hd hv
    have da := dg_bound ha m
    have e0 : ((m + 1 : Nat) : Int) - 1 = (m : Int) := by omega
    rw [e0]
    have st : ∀ k, pontageref03_Half.l0 (k + 1) a out c (m : Int) = pontageref03_Half.l0 k a (out.set m ((c * 65536 + dg a m) / 2)) ((c * 65536 + dg a m) % 2) ((m : Int) - 1) := by
      intro k
      have l1 : (m : Int) ≥ 0 := by omega
      have l2 : (m : Int) < (a.length : Int) := by omega
      have l3 : (m : Int) < (out.length : Int) := by omega
      have e6 : wrap64 ((m : Int) - 1) = (m : Int) - 1 := w64 (by omega)
      simp only [pontageref03_Half.l0, rd_dg]
      rw [if_pos l1, if_pos (show 0 ≤ (m : Int) from l1), if_pos l2, if_pos l3, Int.toNat_natCast, e6]
      clear l1 l2 l3 e6
      have x1 : 0 ≤ c * 65536 ∧ c * 65536 ≤ 65536 := by omega
      have x2 : 0 ≤ c * 65536 + dg a m ∧ c * 65536 + dg a m ≤ 200000 := by omega
      rw [u64r (n := c * 65536) (by omega), u64r (n := c * 65536 + dg a m) (by omega), Int.tmod_eq_emod_of_nonneg x2.1, Int.tdiv_eq_ediv_of_nonneg x2.1, u64r (n := (c * 65536 + dg a m) / 2) (by omega)]
    have ea := dr_step a m
    obtain ⟨r, c', e, e1, e2, e3, e4, e5⟩ := ih (out.set m ((c * 65536 + dg a m) / 2)) ((c * 65536 + dg a m) % 2) (by omega) (by simp [ho]) (by omega) (by omega) (hd.set m (by omega)) (by
      rw [dr_step a m, dr_step (out.set m _) m, dg_set (by omega), dr_set (by omega), hv]; omega)
    exact ⟨r, c', e.up st, e1, e2, e3, e4, e5⟩
theorem half_is {a : List Int} {n : Nat} (ha : Num a n) (la : a.length ≤ 4000) : ∃ r, Ev (fun k => pontageref03_Half.f k a) (r, ((n % 2 : Nat) : Int)) ∧ Num r (n / 2) := by
  obtain ⟨r, c', e, e1, e2, e3, e4, e5⟩ := half_loop ha.dg la a.length (List.replicate a.length 0) 0 (Nat.le_refl _) (by simp) (by decide) (by decide) (Dg.zeros _) (by rw [dr_far (Nat.le_refl _), dr_far (by simp)]; rfl)
  rw [ha.val] at e5
  have hc : c' = ((n % 2 : Nat) : Int) := by omega
  subst hc
  refine ⟨r, e.same (fun k => ?_), e1, e2, by omega⟩
  have l1 : (0 : Int) ≤ (a.length : Int) := by omega
  have l2 : ((a.length : Int)).toNat ≤ 35184372088832 := by omega
  have e6 : wrap64 ((a.length : Int) - 1) = (a.length : Int) - 1 := w64 (by omega)
  unfold pontageref03_Half.f
  rw [if_pos l1, if_pos l2, e6, Int.toNat_natCast]
/-! ### Bits -/
def bv : List Int → Nat
  | [] => 0
  | b :: l => b.toNat + 2 * bv l
def B01 (l : List Int) : Prop := ∀ b ∈ l, b = 0 ∨ b = 1
theorem bv_app (a b : List Int) : bv (a ++ b) = bv a + 2 ^ a.length * bv b := by
  induction a with
  | nil => simp [bv]
  | cons d a ih => rw [List.cons_append, bv, ih, bv, List.length_cons, Nat.pow_succ]; grind
theorem bits_loop : ∀ (m : Nat) (a : List Int) (n : Nat) (out : List Int), Num a n → n < 2 ^ m → a.length ≤ 4000 → out.length + m ≤ 100000 →
    ∃ r, Ev (fun k => pontageref03_Bits.l0 k a out) (out ++ r) ∧ B01 r ∧ r.length ≤ m ∧ bv r = n := by
  intro m
  induction m with
  | zero =>
    intro a n out ha hn la lo
    have : n = 0 := by simpa using hn
    subst this
    obtain rfl := ha.nil_of
    exact ⟨[], (Ev.now _).up (fun k => by simp [pontageref03_Bits.l0]), fun b hb => absurd hb List.not_mem_nil, Nat.le_refl _, rfl⟩
  | succ m ih =>
    intro a n out ha hn la lo
    rcases Nat.eq_zero_or_pos a.length with h0 | h0
    · obtain rfl := List.length_eq_zero_iff.1 h0
      have : n = 0 := by have := ha.val; simp [dv] at this; omega
      subst this
      exact ⟨[], (Ev.now _).up (fun k => by simp [pontageref03_Bits.l0]), fun b hb => absurd hb List.not_mem_nil, Nat.zero_le _, rfl⟩
    · obtain ⟨h, e, hh⟩ := half_is ha la
      have hlen : h.length ≤ 4000 := by
        refine hh.nm.len hh.dg ?_
        have h1 := dv_lt ha.dg
        have h2 := pow_le la
        rw [hh.val]; rw [ha.val] at h1; omega
      obtain ⟨r, e', b1, b2, b3⟩ := ih h (n / 2) (out ++ [((n % 2 : Nat) : Int)]) hh (by rw [Nat.pow_succ] at hn; omega) hlen (by simp; omega)
      have lo' : out.length < 17592186044416 := by omega
      have l1 : (a.length : Int) > 0 := by omega
      refine ⟨((n % 2 : Nat) : Int) :: r, ((e.bind (F := fun bt k => if out.length < 17592186044416 then pontageref03_Bits.l0 k bt.1 (out ++ [bt.2]) else none) (e'.same (fun k => by rw [if_pos lo']))).up (fun k => by simp only [pontageref03_Bits.l0]; rw [if_pos l1])) |> fun z => by rw [List.append_assoc] at z; exact z, ?_, by simp; omega, ?_⟩
      · intro b hb
        rcases List.mem_cons.1 hb with rfl | hb
        · omega
        · exact b1 b hb
      · rw [bv, b3]; omega
theorem bits_is {a : List Int} {n m : Nat} (ha : Num a n) (hn : n < 2 ^ m) (la : a.length ≤ 4000) (hm : m ≤ 100000) : ∃ r, Ev (fun k => pontageref03_Bits.f k a) r ∧ B01 r ∧ r.length ≤ m ∧ bv r = n := by
  obtain ⟨r, e, h1, h2, h3⟩ := bits_loop m a n [] ha hn la (by simp; omega)
  exact ⟨r, e, h1, h2, h3⟩
/-! ### FromBits -/
theorem num_one : Num [1] 1 := ⟨Dg.one (by decide), fun l' d h => by
  have := List.append_inj' (s₁ := []) (s₂ := l') (t₁ := [1]) (t₂ := [d]) h rfl
  simp at this; omega, rfl⟩
theorem two_pow_lenK {k m : Nat} (h : k ≤ 16 * m) {l : List Int} {n : Nat} (hl : Num l n) (hn : n < 2 ^ k) : l.length ≤ m := by
  refine hl.len (k := m) (Nat.lt_of_lt_of_le hn ?_)
  have : (65536 : Nat) = 2 ^ 16 := rfl
  rw [this, ← Nat.pow_mul]
  exact Nat.pow_le_pow_right (by decide) h
theorem two_pow_len {k : Nat} (h : k ≤ 60000) {l : List Int} {n : Nat} (hl : Num l n) (hn : n < 2 ^ k) : l.length ≤ 4000 := two_pow_lenK (m := 4000) (by omega) hl hn
theorem from_loop (l : List Int) : ∀ (m : Nat) (out : List Int) (n j : Nat), m ≤ l.length → l.length ≤ 20000 → Num out n → n < 2 ^ j → j + 2 * m ≤ 50000 →
    ∃ r, Ev (fun k => pontageref03_FromBits.l0 k l out ((m : Int) - 1)) r := by
  intro m
  induction m with
  | zero =>
    intro out n j hm hl ho hn hj
    exact ⟨out, (Ev.now _).up (fun k => by simp [pontageref03_FromBits.l0])⟩
  | succ m ih =>
    intro out n j hm hl ho hn hj
    have lo := two_pow_len (by omega) ho hn
    have e0 : ((m + 1 : Nat) : Int) - 1 = (m : Int) := by omega
    rw [e0]
    obtain ⟨d, ed, hd⟩ := add_is ho ho lo lo
    have hn1 : n + n < 2 ^ (j + 1) := by rw [Nat.pow_succ]; omega
    have ld := two_pow_len (by omega) hd hn1
    have l1 : (m : Int) ≥ 0 := by omega
    have l2 : (m : Int) < (l.length : Int) := by omega
    have e6 : wrap64 ((m : Int) - 1) = (m : Int) - 1 := w64 (by omega)
    by_cases hb : dg l m = 1
    · obtain ⟨s, es, hs⟩ := add_is hd num_one ld (by decide)
      have hn2 : n + n + 1 < 2 ^ (j + 2) := by rw [Nat.pow_succ]; omega
      obtain ⟨r, er⟩ := ih s (n + n + 1) (j + 2) (by omega) hl hs hn2 (by omega)
      refine ⟨r, (ed.bind (F := fun t k => (pontageref03_Add.f k t [1]).bind fun u => pontageref03_FromBits.l0 k l u ((m : Int) - 1)) (es.bind (F := fun u k => pontageref03_FromBits.l0 k l u ((m : Int) - 1)) er)).up (fun k => ?_)⟩
      simp only [pontageref03_FromBits.l0, rd_dg]
      rw [if_pos l1, e6]
      simp only [if_pos (show 0 ≤ (m : Int) from l1), if_pos l2, if_pos hb]
    · obtain ⟨r, er⟩ := ih d (n + n) (j + 1) (by omega) hl hd hn1 (by omega)
      refine ⟨r, (ed.bind (F := fun t k => pontageref03_FromBits.l0 k l t ((m : Int) - 1)) er).up (fun k => ?_)⟩
      simp only [pontageref03_FromBits.l0, rd_dg]
      rw [if_pos l1, e6]
      simp only [if_pos (show 0 ≤ (m : Int) from l1), if_pos l2, if_neg hb]
theorem from_is (l : List Int) (hl : l.length ≤ 20000) : ∃ r, Ev (fun k => pontageref03_FromBits.f k l) r := by
  obtain ⟨r, e⟩ := from_loop l l.length [] 0 0 (Nat.le_refl _) hl Num.zero (by decide) (by omega)
  refine ⟨r, e.same (fun k => ?_)⟩
  unfold pontageref03_FromBits.f
  rw [w64 (by omega)]
end Go.Proofs.Ytgghopmlcpcpkaa.PResiduePowers
namespace Go.Proofs.Ytgghopmlcpcpkaa.PResiduePowers
open Go.RowKit Go.Proofs.YtgghopmlcpcpkaaW.PrintWords Go.Proofs.YtgghopmlcpcpkaaW.PrintLast Go.Proofs.YtgghopmlcpcpkaaW.PrintMore
set_option linter.unusedVariables false
set_option linter.unusedSimpArgs false
/-! ### Div -/
theorem bv_drop {l : List Int} (h : B01 l) {i : Nat} (hi : i < l.length) : bv (l.drop i) = (dg l i).toNat + 2 * bv (l.drop (i + 1)) ∧ (dg l i = 0 ∨ dg l i = 1) := by
  rw [List.drop_eq_getElem_cons hi, bv]
  have e : dg l i = l[i] := by unfold dg; rw [List.getD_eq_getElem?_getD, List.getElem?_eq_getElem hi]; rfl
  rw [e]
  exact ⟨rfl, h _ (List.getElem_mem hi)⟩
theorem div_loop {b bits : List Int} {m j : Nat} (hb : Num b m) (h0 : 0 < m) (hm : m < 2 ^ j) (hj : j ≤ 20000) (lb : b.length ≤ 4000) (h01 : B01 bits) (lx : bits.length ≤ 20000) : ∀ (i : Nat) (q rest : List Int),
    i ≤ bits.length → q.length = bits.length → Num rest (bv (bits.drop i) % m) →
    ∃ q' r, Ev (fun k => pontageref03_Div.l0 k b bits q rest ((i : Int) - 1)) (q', r) ∧ Num r (bv bits % m) := by
  intro i
  induction i with
  | zero =>
    intro q rest hi hq hr
    obtain ⟨f, ef⟩ := from_is q (by omega)
    exact ⟨f, rest, (ef.bind (F := fun t _ => some (t, rest)) (Ev.now _)).up (fun k => by simp [pontageref03_Div.l0]), hr⟩
  | succ i ih =>
    intro q rest hi hq hr
    have e0 : ((i + 1 : Nat) : Int) - 1 = (i : Int) := by omega
    rw [e0]
    obtain ⟨hbv, hbit⟩ := bv_drop h01 (i := i) (by omega)
    have hlt : bv (bits.drop (i + 1)) % m < m := Nat.mod_lt _ h0
    generalize hB : bv (bits.drop (i + 1)) = B at *
    have lr := two_pow_len (by omega) hr (Nat.lt_trans hlt hm)
    obtain ⟨d, ed, hd⟩ := add_is hr hr lr lr
    have ld := two_pow_len (k := j + 1) (by omega) hd (by rw [Nat.pow_succ]; omega)
    have l1 : (i : Int) ≥ 0 := by omega
    have l1' : 0 ≤ (i : Int) := l1
    have l2 : (i : Int) < (bits.length : Int) := by omega
    have l3 : (i : Int) < (q.length : Int) := by omega
    have e6 : wrap64 ((i : Int) - 1) = (i : Int) - 1 := w64 (by omega)
    -- the round's second half
    have half : ∀ (x : List Int) (v : Nat), Num x v → v < 2 * m → v % m = bv (bits.drop i) % m → ∃ q' r, Ev (fun k => pontageref03_Div.j1 k b bits q x (i : Int)) (q', r) ∧ Num r (bv bits % m) := by
      intro x v hx hv hvm
      have lxx := two_pow_len (k := j + 1) (by omega) hx (by rw [Nat.pow_succ]; omega)
      obtain ⟨c, ec, hc⟩ := cmp_is hx hb lxx lb
      by_cases hge : m ≤ v
      · obtain ⟨s, es, hs⟩ := sub_is hx hb lxx hge
        have hs' : Num s (bv (bits.drop i) % m) := by
          rw [← hvm, Nat.mod_eq_sub_mod hge, Nat.mod_eq_of_lt (show v - m < m by omega)]; exact hs
        obtain ⟨q', r, e, hr'⟩ := ih (q.set i 1) s (by omega) (by simp [hq]) hs'
        have hc0 : c ≥ 0 := by omega
        refine ⟨q', r, (ec.bind (F := fun t k => if t ≥ 0 then (pontageref03_Sub.f k x b).bind fun u => pontageref03_Div.l0 k b bits (q.set i 1) u ((i : Int) - 1) else pontageref03_Div.l0 k b bits q x ((i : Int) - 1)) ((es.bind (F := fun u k => pontageref03_Div.l0 k b bits (q.set i 1) u ((i : Int) - 1)) e).same (fun k => by rw [if_pos hc0]))).up (fun k => ?_), hr'⟩
        simp only [pontageref03_Div.j1, if_pos l1', if_pos l3, e6, Int.toNat_natCast]
      · obtain ⟨q', r, e, hr'⟩ := ih q x (by omega) hq (by rw [← hvm, Nat.mod_eq_of_lt (by omega)]; exact hx)
        have hc0 : ¬ c ≥ 0 := by omega
        refine ⟨q', r, (ec.bind (F := fun t k => if t ≥ 0 then (pontageref03_Sub.f k x b).bind fun u => pontageref03_Div.l0 k b bits (q.set i 1) u ((i : Int) - 1) else pontageref03_Div.l0 k b bits q x ((i : Int) - 1)) (e.same (fun k => by rw [if_neg hc0]))).up (fun k => ?_), hr'⟩
        simp only [pontageref03_Div.j1, if_pos l1', if_pos l3, e6, Int.toNat_natCast]
    rcases hbit with h | h
    · have hne : ¬ dg bits i = 1 := by rw [h]; decide
      rw [h] at hbv
      obtain ⟨q', r, e, hr'⟩ := half d (B % m + B % m) hd (by omega) (by
        rw [hbv, Nat.add_mod, Nat.mod_mod, ← Nat.add_mod]; congr 1; simp; omega)
      refine ⟨q', r, (ed.bind (F := fun t k => pontageref03_Div.j1 k b bits q t (i : Int)) e).up (fun k => ?_), hr'⟩
      simp only [pontageref03_Div.l0, rd_dg, if_pos l1, if_pos l1', if_pos l2, if_neg hne]
    · obtain ⟨s, es, hs⟩ := add_is hd num_one ld (by decide)
      rw [h] at hbv
      obtain ⟨q', r, e, hr'⟩ := half s (B % m + B % m + 1) hs (by omega) (by
        rw [hbv, Nat.add_mod (B % m + B % m), Nat.add_mod (B % m), Nat.mod_mod, ← Nat.add_mod B, ← Nat.add_mod]; congr 1; simp; omega)
      refine ⟨q', r, (ed.bind (F := fun t k => (pontageref03_Add.f k t [1]).bind fun u => pontageref03_Div.j1 k b bits q u (i : Int)) (es.bind (F := fun u k => pontageref03_Div.j1 k b bits q u (i : Int)) e)).up (fun k => ?_), hr'⟩
      simp only [pontageref03_Div.l0, rd_dg, if_pos l1, if_pos l1', if_pos l2, if_pos h]
theorem div_is {a b : List Int} {n m j : Nat} (ha : Num a n) (hb : Num b m) (h0 : 0 < m) (hn : n < 2 ^ j) (hm : m < 2 ^ j) (hj : j ≤ 20000) : ∃ q r, Ev (fun k => pontageref03_Div.f k a b) (q, r) ∧ Num r (n % m) := by
  have la := two_pow_len (by omega) ha hn
  have lb := two_pow_len (by omega) hb hm
  obtain ⟨bits, eb, h01, hl, hv⟩ := bits_is ha hn la (by omega)
  obtain ⟨q, r, e, hr⟩ := div_loop hb h0 hm hj lb h01 (by omega) bits.length (List.replicate bits.length 0) [] (Nat.le_refl _) (by simp) (by rw [List.drop_length]; simp [bv]; exact Num.zero)
  rw [hv] at hr
  have l1 : (0 : Int) ≤ (bits.length : Int) := by omega
  have l2 : ((bits.length : Int)).toNat ≤ 35184372088832 := by omega
  have e6 : wrap64 ((bits.length : Int) - 1) = (bits.length : Int) - 1 := w64 (by omega)
  refine ⟨q, r, (eb.bind (F := fun t k => (if 0 ≤ (t.length : Int) then (if ((t.length : Int) : Int).toNat ≤ 35184372088832 then (pontageref03_Div.l0 k b t (List.replicate ((t.length : Int) : Int).toNat 0) (([] : List Int)) (wrap64 ((t.length : Int) - 1))) else (none)) else (none))) (e.same (fun k => ?_))).same (fun k => ?_), hr⟩
  · rw [if_pos l1, if_pos l2, e6, Int.toNat_natCast]
  · unfold pontageref03_Div.f; rfl
/-! ### Mul -/
theorem mul_in {b : List Int} (hb : Dg b) (lb : b.length ≤ 4000) {x : Int} (hx : 0 ≤ x ∧ x < 65536) (a : List Int) (i : Nat) (T : Int) {R : List Int → Prop} (hi : i + 1 ≤ 4000) (hT : 0 ≤ T) (hT' : T < 65536 ^ (i + 1 + b.length))
    {N : Nat} (hN : i + 1 + b.length ≤ N) (hN' : N ≤ 9000) (next : ∀ out' : List Int, out'.length = N → Dg out' → dv out' = T → ∃ r, Ev (fun k => pontageref03_Mul.l0 k b out' a a.length ((i + 1 : Nat) : Int)) r ∧ R r) :
    ∀ (m j : Nat) (out : List Int) (c : Int), b.length + 1 = m + j → out.length = N → 0 ≤ c → c ≤ 65535 → Dg out → dv out + 65536 ^ (i + j) * (c + x * dr b j) = T →
    ∃ r, Ev (fun k => pontageref03_Mul.l1 k b out i x c j a a.length i) r ∧ R r := by
  intro m
  have leave : ∀ (j : Nat) (out : List Int) (c : Int), out.length = N → Dg out → c = 0 → b.length ≤ j → dv out + 65536 ^ (i + j) * (c + x * dr b j) = T → ∃ r, Ev (fun k => pontageref03_Mul.l1 k b out i x c j a a.length i) r ∧ R r := by
    intro j out c hl hd hc hj hv
    subst hc
    obtain ⟨r, e, hr⟩ := next out hl hd (by rw [← hv, dr_far hj]; simp)
    have e6 : wrap64 ((i : Int) + 1) = ((i + 1 : Nat) : Int) := by rw [w64 (by omega)]; omega
    have l1 : ¬ (j : Int) < (b.length : Int) := by omega
    refine ⟨r, e.up (fun k => ?_), hr⟩
    simp only [pontageref03_Mul.l1, if_neg l1, e6]
    rw [if_neg (by decide)]
  induction m with
  | zero =>
    intro j out c hm hl h0 h1 hd hv
    refine leave j out c hl hd ?_ (by omega) hv
    have ho := dv_nonneg hd
    rw [dr_far (by omega)] at hv
    have hp := pow_pos (i + j)
    have e1 : i + j = i + 1 + b.length := by omega
    rw [e1] at hv hp
    generalize (65536 : Int) ^ (i + 1 + b.length) = p at *
    rcases Int.lt_or_le 0 c with h | h
    · exfalso
      have : p * 1 ≤ p * c := Int.mul_le_mul_of_nonneg_left (by omega) (by omega)
      rw [Int.mul_zero, Int.add_zero] at hv
      omega
    · omega
  | succ m ih =>
    intro j out c hm hl h0 h1 hd hv
    by_cases hgo : (j : Int) < (b.length : Int) ∨ c > 0
    · have hb' := dg_bound hb j
      have hq := dg_bound hd (i + j)
      have hij : i + j < out.length := by omega
      have hm0 : 0 ≤ x * dg b j := Int.mul_nonneg hx.1 hb'.1
      have hm1 : x * dg b j ≤ 65535 * 65535 := Int.mul_le_mul (by omega) (by omega) hb'.1 (by decide)
      have l3 : 0 ≤ (((i + j : Nat)) : Int) := by omega
      have l4 : ((i + j : Nat) : Int) < (out.length : Int) := by omega
      have e5 : wrap64 ((i : Int) + (j : Int)) = ((i + j : Nat) : Int) := by rw [w64 (by omega)]; omega
      have e6 : wrap64 ((j : Int) + 1) = ((j + 1 : Nat) : Int) := by rw [w64 (by omega)]; omega
      generalize hP : x * dg b j = P at *
      generalize hO : dg out (i + j) = o at *
      have e1 : IntKind.u64.wrap P = P := u64r (by omega)
      have e2 : IntKind.u64.wrap (c + o) = c + o := u64r (by omega)
      have e3 : IntKind.u64.wrap (c + o + P) = c + o + P := u64r (by omega)
      have e4 : IntKind.u64.wrap ((c + o + P) / 65536) = (c + o + P) / 65536 := u64r (by omega)
      have x1 : Int.tmod (c + o + P) 65536 = (c + o + P) % 65536 := Int.tmod_eq_emod_of_nonneg (by omega)
      have x2 : Int.tdiv (c + o + P) 65536 = (c + o + P) / 65536 := Int.tdiv_eq_ediv_of_nonneg (by omega)
      have st : ∀ k, pontageref03_Mul.l1 (k + 1) b out i x c j a a.length i = pontageref03_Mul.l1 k b (out.set (i + j) ((c + o + P) % 65536)) i x ((c + o + P) / 65536) ((j + 1 : Nat) : Int) a a.length i := by
        intro k
        simp only [pontageref03_Mul.l1, digit_is, Option.bind_some, e5, e6, rd_dg, hO, hP, e1, e2, e3, e4, x1, x2, if_pos l3, if_pos l4, Int.toNat_natCast]
        rcases hgo with h | h
        · rw [if_pos h]
        · by_cases h' : (j : Int) < (b.length : Int)
          · rw [if_pos h']
          · rw [if_neg h', if_pos h]
      clear e1 e2 e3 e4 x1 x2
      have hdig : 0 ≤ (c + o + P) % 65536 ∧ (c + o + P) % 65536 < 65536 := by omega
      have hcar : 0 ≤ (c + o + P) / 65536 ∧ (c + o + P) / 65536 ≤ 65535 := by omega
      have hsum : c + o + P = (c + o + P) % 65536 + 65536 * ((c + o + P) / 65536) := by omega
      obtain ⟨r, e, hr⟩ := ih (j + 1) (out.set (i + j) ((c + o + P) % 65536)) ((c + o + P) / 65536) (by omega) (by simp; omega) hcar.1 hcar.2 (hd.set _ hdig) (by
        rw [← hv, dv_set hij, hO, dr_step b j, ← Nat.add_assoc, Int.pow_succ]
        generalize (c + o + P) % 65536 = u at hsum
        generalize (c + o + P) / 65536 = v at hsum
        generalize (65536 : Int) ^ (i + j) = p
        have : x * (dg b j + 65536 * dr b (j + 1)) = P + 65536 * (x * dr b (j + 1)) := by rw [← hP]; grind
        rw [this]
        generalize x * dr b (j + 1) = y
        have : P = u + 65536 * v - c - o := by omega
        rw [this]; grind)
      exact ⟨r, e.up st, hr⟩
    · exact leave j out c hl hd (by omega) (by omega) hv
theorem mul_loop {a b : List Int} (ha : Dg a) (hb : Dg b) (la : a.length ≤ 3900) (lb : b.length ≤ 3900) : ∀ (m i : Nat) (out : List Int),
    a.length = m + i → out.length = a.length + b.length + 1 → Dg out → dv out = dv (a.take i) * dv b →
    ∃ r, Ev (fun k => pontageref03_Mul.l0 k b out a a.length i) r ∧ (Dg r ∧ Nm r ∧ dv r = dv a * dv b) := by
  intro m
  induction m with
  | zero =>
    intro i out hm ho hd hv
    obtain ⟨r, e, e1, e2, e3⟩ := trim_is hd (by omega)
    refine ⟨r, (e.bind (F := fun t _ => some t) (Ev.now r)).up (fun k => ?_), e1, e2, ?_⟩
    · simp only [pontageref03_Mul.l0]
      rw [if_neg (by omega)]
    · rw [e3, hv, List.take_of_length_le (by omega)]
  | succ m ih =>
    intro i out hm ho hd hv
    have da := dg_bound ha i
    have htk : dv (a.take (i + 1)) = dv (a.take i) + 65536 ^ i * dg a i := by
      have hi : i < a.length := by omega
      rw [List.take_succ_eq_append_getElem hi, snoc_dv, List.length_take, Nat.min_eq_left (by omega)]
      unfold dg; rw [List.getD_eq_getElem?_getD, List.getElem?_eq_getElem hi]; rfl
    have h1 := take_lt ha (i + 1)
    have h2 := dv_nonneg (ha.take (i + 1))
    have h3 := dv_lt hb
    have h4 := dv_nonneg hb
    have hT' : dv (a.take (i + 1)) * dv b < 65536 ^ (i + 1 + b.length) := by
      rw [Int.pow_add]
      have hp := pow_pos (i + 1)
      have hq := pow_pos b.length
      generalize (65536 : Int) ^ (i + 1) = p at *
      generalize (65536 : Int) ^ b.length = q at *
      have g1 : dv (a.take (i + 1)) * dv b ≤ dv (a.take (i + 1)) * q := Int.mul_le_mul_of_nonneg_left (by omega) h2
      have g2 : dv (a.take (i + 1)) * q < p * q := Int.mul_lt_mul_of_pos_right h1 hq
      omega
    obtain ⟨r, e, hr⟩ := mul_in hb (by omega) da a i (dv (a.take (i + 1)) * dv b) (R := fun r => Dg r ∧ Nm r ∧ dv r = dv a * dv b) (by omega) (Int.mul_nonneg h2 h4) hT' (N := a.length + b.length + 1) (by omega) (by omega)
      (fun out' hl' hd' hv' => ih (i + 1) out' (by omega) hl' hd' hv') (b.length + 1) 0 out 0 rfl ho (by decide) (by decide) hd (by
        rw [dr_zero, hv, htk, Nat.add_zero]; grind)
    have l1 : (i : Int) < (a.length : Int) := by omega
    have l2 : 0 ≤ (i : Int) := by omega
    refine ⟨r, e.up (fun k => ?_), hr⟩
    simp only [pontageref03_Mul.l0, if_pos l1, if_pos l2, rd_dg]
    rfl
theorem mul_is {a b : List Int} {n m : Nat} (ha : Num a n) (hb : Num b m) (la : a.length ≤ 3900) (lb : b.length ≤ 3900) : ∃ r, Ev (fun k => pontageref03_Mul.f k a b) r ∧ Num r (n * m) := by
  obtain ⟨r, e, e1, e2, e3⟩ := mul_loop ha.dg hb.dg la lb a.length 0 (List.replicate (a.length + b.length + 1) 0) rfl (by simp) (Dg.zeros _) (by rw [dv_zeros]; simp [dv])
  refine ⟨r, e.same (fun k => ?_), e1, e2, by rw [e3, ha.val, hb.val]; simp⟩
  have q1 : wrap64 ((wrap64 ((a.length : Int) + (b.length : Int))) + 1) = ((a.length + b.length + 1 : Nat) : Int) := by
    rw [w64 (n := (a.length : Int) + (b.length : Int)) (by omega), w64 (by omega)]; omega
  have l1 : (0 : Int) ≤ ((a.length + b.length + 1 : Nat) : Int) := by omega
  have l2 : (((a.length + b.length + 1 : Nat) : Int)).toNat ≤ 35184372088832 := by omega
  unfold pontageref03_Mul.f
  rw [q1, if_pos l1, if_pos l2, Int.toNat_natCast]
  rfl
end Go.Proofs.Ytgghopmlcpcpkaa.PResiduePowers
