/- Times a number and times another one is times their product, for any point that some names; the walks of Times and Neg, and the order of the points; without conditions. -/
import Derived.Test.YtgghopmlcpcpkaaPtM
import Derived.Test.YtgghopmlcpcpkaaHeldV
import Derived.Test.YtgghopmlcpcpkaaFrame
namespace Go.Proofs.Ytgghopmlcpcpkaa
open Go.RowKit PlainK
set_option linter.unusedVariables false
set_option linter.unusedSimpArgs false
set_option maxRecDepth 10000 in
set_option maxHeartbeats 16000000 in
theorem ctwice_any {a0 a1 a2 a3 b0 b1 b2 b3 c0 c1 c2 c3 : Int} {x y z : Nat} (ha : W4 a0 a1 a2 a3 x) (odd : Bool) (hb : W4 b0 b1 b2 b3 y) (hc : W4 c0 c1 c2 c3 z) (w : World) :
   Calls Try.prog 9 #[.agg #[.int .u64 a0, .int .u64 a1, .int .u64 a2, .int .u64 a3], .bool odd, .agg #[.int .u64 b0, .int .u64 b1, .int .u64 b2, .int .u64 b3], .agg #[.int .u64 c0, .int .u64 c1, .int .u64 c2, .int .u64 c3]] w fun e w' => e = .returned (.bool true) ∧ Below w.heap.size w w' := by
  obtain ⟨rfl, rfl, rfl, rfl, la⟩ := ha
  obtain ⟨rfl, rfl, rfl, rfl, lb⟩ := hb
  obtain ⟨rfl, rfl, rfl, rfl, lc⟩ := hc
  have hla := Lib.hid la
  have hlb := Lib.hid lb
  have hlc := Lib.hid lc
  clear la lb lc
  go_enter Try.func9, Try.ntmps9
  go_upto_region 1 with fail
  obtain ⟨V0, hW⟩ : ∃ V, ((w.alloc (.cells #[.int .u64 (w0 (x) : Nat), .int .u64 (w1 (x) : Nat), .int .u64 (w2 (x) : Nat), .int .u64 (w3 (x) : Nat)] 24)).alloc (.cells #[.int .u64 (w0 (y) : Nat), .int .u64 (w1 (y) : Nat), .int .u64 (w2 (y) : Nat), .int .u64 (w3 (y) : Nat)] 24)).alloc (.cells #[.int .u64 (w0 (z) : Nat), .int .u64 (w1 (z) : Nat), .int .u64 (w2 (z) : Nat), .int .u64 (w3 (z) : Nat)] 24) = V := ⟨_, rfl⟩
  rw [hW]
  have hA : V0.heap[w.heap.size]? = some (.cells #[.int .u64 (w0 (x) : Nat), .int .u64 (w1 (x) : Nat), .int .u64 (w2 (x) : Nat), .int .u64 (w3 (x) : Nat)] 24 (0, 0)) := by
    rw [← hW]; simp only [alloc_at, World.size_alloc]; repeat (first | rw [if_pos trivial] | rw [if_pos (by omega)] | rw [if_neg (by omega)])
  have hB : V0.heap[w.heap.size + 1]? = some (.cells #[.int .u64 (w0 (y) : Nat), .int .u64 (w1 (y) : Nat), .int .u64 (w2 (y) : Nat), .int .u64 (w3 (y) : Nat)] 24 (0, 0)) := by
    rw [← hW]; simp only [alloc_at, World.size_alloc]; repeat (first | rw [if_pos trivial] | rw [if_pos (by omega)] | rw [if_neg (by omega)])
  have hC : V0.heap[w.heap.size + 2]? = some (.cells #[.int .u64 (w0 (z) : Nat), .int .u64 (w1 (z) : Nat), .int .u64 (w2 (z) : Nat), .int .u64 (w3 (z) : Nat)] 24 (0, 0)) := by
    rw [← hW]; simp only [alloc_at, World.size_alloc]; repeat (first | rw [if_pos trivial] | rw [if_pos (by omega)] | rw [if_neg (by omega)])
  have kk : Below w.heap.size w V0 := by
    rw [← hW]
    repeat (first | exact Below.refl _ _ | refine Below.drew ?_ | refine bal ?_ _)
  clear hW
  go_wp2_with fail
  refine (livesC_any _).mono ?_
  rintro e V1 ⟨rfl, hb⟩
  replace hA := below_get hb hA
  replace hB := below_get hb hB
  replace hC := below_get hb hC
  replace kk := bcl (by first | exact kk | exact kk.drew | exact below_drewN kk _) hb
  clear hb
  obtain ⟨cA0, cA1, cA2, cA3⟩ := row4c hA
  obtain ⟨zA0, zA1, zA2, zA3⟩ := row4z hA
  go_wp2_with fail
  refine (someQ_any odd (W4.mk' hla.out) _).mono ?_
  rintro e V2 ⟨p, xp, yp, bp, hp, rfl, hb⟩
  replace hA := below_get hb hA
  replace hB := below_get hb hB
  replace hC := below_get hb hC
  replace kk := bcl (by first | exact kk | exact kk.drew | exact below_drewN kk _) hb
  clear cA0 zA0 cA1 zA1 cA2 zA2 cA3 zA3
  clear hb
  go_upto_region 4 with fail
  obtain ⟨V3, hW⟩ : ∃ V, V2.alloc (.cells #[.int .u64 (w0 (xp) : Nat), .int .u64 (w1 (xp) : Nat), .int .u64 (w2 (xp) : Nat), .int .u64 (w3 (xp) : Nat), .int .u64 (w0 (yp) : Nat), .int .u64 (w1 (yp) : Nat), .int .u64 (w2 (yp) : Nat), .int .u64 (w3 (yp) : Nat), .bool bp] 52 (0, 0)) = V := ⟨_, rfl⟩
  rw [hW]
  obtain ⟨d9, hbx⟩ : ∃ n, V2.heap.size = n := ⟨_, rfl⟩
  rw [hbx]
  have hNEW : V3.heap[d9]? = some (.cells #[.int .u64 (w0 (xp) : Nat), .int .u64 (w1 (xp) : Nat), .int .u64 (w2 (xp) : Nat), .int .u64 (w3 (xp) : Nat), .int .u64 (w0 (yp) : Nat), .int .u64 (w1 (yp) : Nat), .int .u64 (w2 (yp) : Nat), .int .u64 (w3 (yp) : Nat), .bool bp] 52 (0, 0)) := by rw [← hW, ← hbx]; exact heap_alloc_new _ _
  have lD9A : w.heap.size < d9 := by rw [← hbx]; exact lt_of_heap hA
  replace hA : V3.heap[w.heap.size]? = some (.cells #[.int .u64 (w0 (x) : Nat), .int .u64 (w1 (x) : Nat), .int .u64 (w2 (x) : Nat), .int .u64 (w3 (x) : Nat)] 24 (0, 0)) := by rw [← hW]; exact ak hA
  have lD9B : w.heap.size + 1 < d9 := by rw [← hbx]; exact lt_of_heap hB
  replace hB : V3.heap[w.heap.size + 1]? = some (.cells #[.int .u64 (w0 (y) : Nat), .int .u64 (w1 (y) : Nat), .int .u64 (w2 (y) : Nat), .int .u64 (w3 (y) : Nat)] 24 (0, 0)) := by rw [← hW]; exact ak hB
  have lD9C : w.heap.size + 2 < d9 := by rw [← hbx]; exact lt_of_heap hC
  replace hC : V3.heap[w.heap.size + 2]? = some (.cells #[.int .u64 (w0 (z) : Nat), .int .u64 (w1 (z) : Nat), .int .u64 (w2 (z) : Nat), .int .u64 (w3 (z) : Nat)] 24 (0, 0)) := by rw [← hW]; exact ak hC
  have lD9 : w.heap.size ≤ d9 := by rw [← hbx]; exact kk.size
  replace kk : Below w.heap.size w V3 := by rw [← hW]; exact bal kk _
  have hD9 := hNEW
  clear hNEW hW hbx
  go_wp2_with fail
  refine (order_any _).mono ?_
  rintro e V4 ⟨g, hg, rfl, hF, hb⟩
  replace hA := below_get hb hA
  replace hB := below_get hb hB
  replace hC := below_get hb hC
  replace hD9 := below_get hb hD9
  replace kk := bcl (by first | exact kk | exact kk.drew | exact below_drewN kk _) hb
  clear hb
  have HF := Lib.hid hF
  have hQ := hF.blk
  have fF := hF
  have hpos : 0 < NN := Nat.lt_of_lt_of_le (by decide) (show 2 ≤ NN by decide +kernel)
  have HM := Lib.hid NN_lt
  clear hF
  obtain ⟨s1, t1, k1, h1⟩ := PtN.ex (times_on good hp.on y (inv := finv))
  obtain ⟨s2, t2, k2, h2⟩ := PtN.ex (times_on good h1.on z (inv := finv))
  obtain ⟨s3, t3, k3, h3⟩ := PtN.ex (times_on good hp.on (mulm NN y z) (inv := finv))
  obtain ⟨s4, t4, k4, h4⟩ := PtN.ex (times_on good hp.on (redm NN y) (inv := finv))
  obtain ⟨s5, t5, k5, h5⟩ := PtN.ex (pneg_on hp.on)
  obtain ⟨s6, t6, k6, h6⟩ := PtN.ex (times_on good h5.on y (inv := finv))
  obtain ⟨s7, t7, k7, h7⟩ := PtN.ex (pneg_on h1.on)
  have q1 := eqlQ h2 h3 true (decide_eq_true (by
    rw [show mulm NN y z = y * z % NN from rfl, times_order hp.on, times_mul good hp.on]))
  have q2 := eqlQ h4 h1 true (decide_eq_true (by
    rw [show redm NN y = y % NN from rfl, times_order hp.on]))
  have q3 := eqlQ h6 h7 true (decide_eq_true (times_neg good hp.on y))
  have M1 := Lib.hid (show mulm NN y z < 2 ^ 256 from Nat.lt_trans (Nat.mod_lt _ hpos) HM.out)
  have M2 := Lib.hid (show redm NN y < 2 ^ 256 from Nat.lt_trans (Nat.mod_lt _ hpos) HM.out)
  go_upto_region 5 with fail
  try simp only [List.append]
  try clear cD90 cD91 cD92 cD93 cD94 cD95 cD96 cD97 cD98
  obtain ⟨cD90, cD91, cD92, cD93, cD94, cD95, cD96, cD97, cD98⟩ := row9c hD9
  try clear cB0 cB1 cB2 cB3
  obtain ⟨cB0, cB1, cB2, cB3⟩ := row4c hB
  try clear cC0 cC1 cC2 cC3
  obtain ⟨cC0, cC1, cC2, cC3⟩ := row4c hC
  go_region_held3 (fun w' => w'.cell? ⟨d9, 0, none⟩ = some (.int .u64 (w0 (xp) : Nat)) ∧ w'.cell? ⟨d9, 1, none⟩ = some (.int .u64 (w1 (xp) : Nat)) ∧ w'.cell? ⟨d9, 2, none⟩ = some (.int .u64 (w2 (xp) : Nat)) ∧ w'.cell? ⟨d9, 3, none⟩ = some (.int .u64 (w3 (xp) : Nat)) ∧ w'.cell? ⟨d9, 4, none⟩ = some (.int .u64 (w0 (yp) : Nat)) ∧ w'.cell? ⟨d9, 5, none⟩ = some (.int .u64 (w1 (yp) : Nat)) ∧ w'.cell? ⟨d9, 6, none⟩ = some (.int .u64 (w2 (yp) : Nat)) ∧ w'.cell? ⟨d9, 7, none⟩ = some (.int .u64 (w3 (yp) : Nat)) ∧ w'.cell? ⟨d9, 8, none⟩ = some (.bool bp) ∧ w'.cell? ⟨w.heap.size + 1, 0, none⟩ = some (.int .u64 (w0 (y) : Nat)) ∧ w'.cell? ⟨w.heap.size + 1, 1, none⟩ = some (.int .u64 (w1 (y) : Nat)) ∧ w'.cell? ⟨w.heap.size + 1, 2, none⟩ = some (.int .u64 (w2 (y) : Nat)) ∧ w'.cell? ⟨w.heap.size + 1, 3, none⟩ = some (.int .u64 (w3 (y) : Nat)) ∧ w'.cell? ⟨w.heap.size + 2, 0, none⟩ = some (.int .u64 (w0 (z) : Nat)) ∧ w'.cell? ⟨w.heap.size + 2, 1, none⟩ = some (.int .u64 (w1 (z) : Nat)) ∧ w'.cell? ⟨w.heap.size + 2, 2, none⟩ = some (.int .u64 (w2 (z) : Nat)) ∧ w'.cell? ⟨w.heap.size + 2, 3, none⟩ = some (.int .u64 (w3 (z) : Nat))) (first | (with_reducible exact ⟨cD90, cD91, cD92, cD93, cD94, cD95, cD96, cD97, cD98, cB0, cB1, cB2, cB3, cC0, cC1, cC2, cC3⟩) | go_keep) (first | (go_at_call 26; refine (mulG_any (by first | exact W4.mk' hla.out | exact W4.mk' hlb.out | exact W4.mk' hlc.out | exact W4.mk' HM.out | exact W4.mk' (Nat.lt_trans (Nat.mod_lt _ hpos) HM.out) | exact W4.zero | exact W4.small (n := 1) rfl (by decide) | exact W4.small (n := 2) rfl (by decide) | exact W4.small (n := 3) rfl (by decide) | exact W4.small (n := 4) rfl (by decide) | exact W4.small (n := 5) rfl (by decide) | exact W4.small (n := 7) rfl (by decide)) (by first | exact W4.mk' hla.out | exact W4.mk' hlb.out | exact W4.mk' hlc.out | exact W4.mk' HM.out | exact W4.mk' (Nat.lt_trans (Nat.mod_lt _ hpos) HM.out) | exact W4.zero | exact W4.small (n := 1) rfl (by decide) | exact W4.small (n := 2) rfl (by decide) | exact W4.small (n := 3) rfl (by decide) | exact W4.small (n := 4) rfl (by decide) | exact W4.small (n := 5) rfl (by decide) | exact W4.small (n := 7) rfl (by decide)) _ (show IsF _ (g) (NN) from (by first | exact fF | exact ⟨fF.blk, fF.odd, fF.three, fF.lt⟩ | exact ⟨ak fF.blk, fF.odd, fF.three, fF.lt⟩ | exact ⟨ak (ak fF.blk), fF.odd, fF.three, fF.lt⟩))).mono ?_; rintro e W ⟨rfl, hb⟩; (first | replace hA := below_get hb hA | replace hA := below_get hb (ak hA)); (first | replace hB := below_get hb hB | replace hB := below_get hb (ak hB)); (first | replace hC := below_get hb hC | replace hC := below_get hb (ak hC)); (first | replace hD9 := below_get hb hD9 | replace hD9 := below_get hb (ak hD9)); (first | replace hQ := below_get hb hQ | replace hQ := below_get hb (ak hQ)); (replace kk := bcl (by first | exact kk | exact kk.drew | exact bal kk _ | exact (bal kk _).drew) hb); (replace fF := IsF.of HF.out hQ); (try clear cD90 cD91 cD92 cD93 cD94 cD95 cD96 cD97 cD98); (obtain ⟨cD90, cD91, cD92, cD93, cD94, cD95, cD96, cD97, cD98⟩ := row9c hD9); (try clear cB0 cB1 cB2 cB3); (obtain ⟨cB0, cB1, cB2, cB3⟩ := row4c hB); (try clear cC0 cC1 cC2 cC3); (obtain ⟨cC0, cC1, cC2, cC3⟩ := row4c hC); clear hb) | (go_at_call 19; refine (redG_any (by first | exact W4.mk' hla.out | exact W4.mk' hlb.out | exact W4.mk' hlc.out | exact W4.mk' HM.out | exact W4.mk' (Nat.lt_trans (Nat.mod_lt _ hpos) HM.out) | exact W4.zero | exact W4.small (n := 1) rfl (by decide) | exact W4.small (n := 2) rfl (by decide) | exact W4.small (n := 3) rfl (by decide) | exact W4.small (n := 4) rfl (by decide) | exact W4.small (n := 5) rfl (by decide) | exact W4.small (n := 7) rfl (by decide)) _ (show IsF _ (g) (NN) from (by first | exact fF | exact ⟨fF.blk, fF.odd, fF.three, fF.lt⟩ | exact ⟨ak fF.blk, fF.odd, fF.three, fF.lt⟩ | exact ⟨ak (ak fF.blk), fF.odd, fF.three, fF.lt⟩))).mono ?_; rintro e W ⟨rfl, hb⟩; (first | replace hA := below_get hb hA | replace hA := below_get hb (ak hA)); (first | replace hB := below_get hb hB | replace hB := below_get hb (ak hB)); (first | replace hC := below_get hb hC | replace hC := below_get hb (ak hC)); (first | replace hD9 := below_get hb hD9 | replace hD9 := below_get hb (ak hD9)); (first | replace hQ := below_get hb hQ | replace hQ := below_get hb (ak hQ)); (replace kk := bcl (by first | exact kk | exact kk.drew | exact bal kk _ | exact (bal kk _).drew) hb); (replace fF := IsF.of HF.out hQ); (try clear cD90 cD91 cD92 cD93 cD94 cD95 cD96 cD97 cD98); (obtain ⟨cD90, cD91, cD92, cD93, cD94, cD95, cD96, cD97, cD98⟩ := row9c hD9); (try clear cB0 cB1 cB2 cB3); (obtain ⟨cB0, cB1, cB2, cB3⟩ := row4c hB); (try clear cC0 cC1 cC2 cC3); (obtain ⟨cC0, cC1, cC2, cC3⟩ := row4c hC); clear hb) | (go_at_call 40; with_reducible refine (timesQ_any hp (W4.mk' hlb.out) h1 _).mono ?_; rintro e W ⟨rfl, hb⟩; (first | replace hA := below_get hb hA | replace hA := below_get hb (ak hA)); (first | replace hB := below_get hb hB | replace hB := below_get hb (ak hB)); (first | replace hC := below_get hb hC | replace hC := below_get hb (ak hC)); (first | replace hD9 := below_get hb hD9 | replace hD9 := below_get hb (ak hD9)); (first | replace hQ := below_get hb hQ | replace hQ := below_get hb (ak hQ)); (replace kk := bcl (by first | exact kk | exact kk.drew | exact bal kk _ | exact (bal kk _).drew) hb); (replace fF := IsF.of HF.out hQ); (try clear cD90 cD91 cD92 cD93 cD94 cD95 cD96 cD97 cD98); (obtain ⟨cD90, cD91, cD92, cD93, cD94, cD95, cD96, cD97, cD98⟩ := row9c hD9); (try clear cB0 cB1 cB2 cB3); (obtain ⟨cB0, cB1, cB2, cB3⟩ := row4c hB); (try clear cC0 cC1 cC2 cC3); (obtain ⟨cC0, cC1, cC2, cC3⟩ := row4c hC); clear hb) | (go_at_call 40; with_reducible refine (timesQ_any h1 (W4.mk' hlc.out) h2 _).mono ?_; rintro e W ⟨rfl, hb⟩; (first | replace hA := below_get hb hA | replace hA := below_get hb (ak hA)); (first | replace hB := below_get hb hB | replace hB := below_get hb (ak hB)); (first | replace hC := below_get hb hC | replace hC := below_get hb (ak hC)); (first | replace hD9 := below_get hb hD9 | replace hD9 := below_get hb (ak hD9)); (first | replace hQ := below_get hb hQ | replace hQ := below_get hb (ak hQ)); (replace kk := bcl (by first | exact kk | exact kk.drew | exact bal kk _ | exact (bal kk _).drew) hb); (replace fF := IsF.of HF.out hQ); (try clear cD90 cD91 cD92 cD93 cD94 cD95 cD96 cD97 cD98); (obtain ⟨cD90, cD91, cD92, cD93, cD94, cD95, cD96, cD97, cD98⟩ := row9c hD9); (try clear cB0 cB1 cB2 cB3); (obtain ⟨cB0, cB1, cB2, cB3⟩ := row4c hB); (try clear cC0 cC1 cC2 cC3); (obtain ⟨cC0, cC1, cC2, cC3⟩ := row4c hC); clear hb) | (go_at_call 40; with_reducible refine (timesQ_any hp (W4.mk' M1.out) h3 _).mono ?_; rintro e W ⟨rfl, hb⟩; (first | replace hA := below_get hb hA | replace hA := below_get hb (ak hA)); (first | replace hB := below_get hb hB | replace hB := below_get hb (ak hB)); (first | replace hC := below_get hb hC | replace hC := below_get hb (ak hC)); (first | replace hD9 := below_get hb hD9 | replace hD9 := below_get hb (ak hD9)); (first | replace hQ := below_get hb hQ | replace hQ := below_get hb (ak hQ)); (replace kk := bcl (by first | exact kk | exact kk.drew | exact bal kk _ | exact (bal kk _).drew) hb); (replace fF := IsF.of HF.out hQ); (try clear cD90 cD91 cD92 cD93 cD94 cD95 cD96 cD97 cD98); (obtain ⟨cD90, cD91, cD92, cD93, cD94, cD95, cD96, cD97, cD98⟩ := row9c hD9); (try clear cB0 cB1 cB2 cB3); (obtain ⟨cB0, cB1, cB2, cB3⟩ := row4c hB); (try clear cC0 cC1 cC2 cC3); (obtain ⟨cC0, cC1, cC2, cC3⟩ := row4c hC); clear hb) | (go_at_call 40; with_reducible refine (timesQ_any hp (W4.mk' M2.out) h4 _).mono ?_; rintro e W ⟨rfl, hb⟩; (first | replace hA := below_get hb hA | replace hA := below_get hb (ak hA)); (first | replace hB := below_get hb hB | replace hB := below_get hb (ak hB)); (first | replace hC := below_get hb hC | replace hC := below_get hb (ak hC)); (first | replace hD9 := below_get hb hD9 | replace hD9 := below_get hb (ak hD9)); (first | replace hQ := below_get hb hQ | replace hQ := below_get hb (ak hQ)); (replace kk := bcl (by first | exact kk | exact kk.drew | exact bal kk _ | exact (bal kk _).drew) hb); (replace fF := IsF.of HF.out hQ); (try clear cD90 cD91 cD92 cD93 cD94 cD95 cD96 cD97 cD98); (obtain ⟨cD90, cD91, cD92, cD93, cD94, cD95, cD96, cD97, cD98⟩ := row9c hD9); (try clear cB0 cB1 cB2 cB3); (obtain ⟨cB0, cB1, cB2, cB3⟩ := row4c hB); (try clear cC0 cC1 cC2 cC3); (obtain ⟨cC0, cC1, cC2, cC3⟩ := row4c hC); clear hb) | (go_at_call 42; with_reducible refine (negQ_any hp h5 _).mono ?_; rintro e W ⟨rfl, hb⟩; (first | replace hA := below_get hb hA | replace hA := below_get hb (ak hA)); (first | replace hB := below_get hb hB | replace hB := below_get hb (ak hB)); (first | replace hC := below_get hb hC | replace hC := below_get hb (ak hC)); (first | replace hD9 := below_get hb hD9 | replace hD9 := below_get hb (ak hD9)); (first | replace hQ := below_get hb hQ | replace hQ := below_get hb (ak hQ)); (replace kk := bcl (by first | exact kk | exact kk.drew | exact bal kk _ | exact (bal kk _).drew) hb); (replace fF := IsF.of HF.out hQ); (try clear cD90 cD91 cD92 cD93 cD94 cD95 cD96 cD97 cD98); (obtain ⟨cD90, cD91, cD92, cD93, cD94, cD95, cD96, cD97, cD98⟩ := row9c hD9); (try clear cB0 cB1 cB2 cB3); (obtain ⟨cB0, cB1, cB2, cB3⟩ := row4c hB); (try clear cC0 cC1 cC2 cC3); (obtain ⟨cC0, cC1, cC2, cC3⟩ := row4c hC); clear hb) | (go_at_call 40; with_reducible refine (timesQ_any h5 (W4.mk' hlb.out) h6 _).mono ?_; rintro e W ⟨rfl, hb⟩; (first | replace hA := below_get hb hA | replace hA := below_get hb (ak hA)); (first | replace hB := below_get hb hB | replace hB := below_get hb (ak hB)); (first | replace hC := below_get hb hC | replace hC := below_get hb (ak hC)); (first | replace hD9 := below_get hb hD9 | replace hD9 := below_get hb (ak hD9)); (first | replace hQ := below_get hb hQ | replace hQ := below_get hb (ak hQ)); (replace kk := bcl (by first | exact kk | exact kk.drew | exact bal kk _ | exact (bal kk _).drew) hb); (replace fF := IsF.of HF.out hQ); (try clear cD90 cD91 cD92 cD93 cD94 cD95 cD96 cD97 cD98); (obtain ⟨cD90, cD91, cD92, cD93, cD94, cD95, cD96, cD97, cD98⟩ := row9c hD9); (try clear cB0 cB1 cB2 cB3); (obtain ⟨cB0, cB1, cB2, cB3⟩ := row4c hB); (try clear cC0 cC1 cC2 cC3); (obtain ⟨cC0, cC1, cC2, cC3⟩ := row4c hC); clear hb) | (go_at_call 42; with_reducible refine (negQ_any h1 h7 _).mono ?_; rintro e W ⟨rfl, hb⟩; (first | replace hA := below_get hb hA | replace hA := below_get hb (ak hA)); (first | replace hB := below_get hb hB | replace hB := below_get hb (ak hB)); (first | replace hC := below_get hb hC | replace hC := below_get hb (ak hC)); (first | replace hD9 := below_get hb hD9 | replace hD9 := below_get hb (ak hD9)); (first | replace hQ := below_get hb hQ | replace hQ := below_get hb (ak hQ)); (replace kk := bcl (by first | exact kk | exact kk.drew | exact bal kk _ | exact (bal kk _).drew) hb); (replace fF := IsF.of HF.out hQ); (try clear cD90 cD91 cD92 cD93 cD94 cD95 cD96 cD97 cD98); (obtain ⟨cD90, cD91, cD92, cD93, cD94, cD95, cD96, cD97, cD98⟩ := row9c hD9); (try clear cB0 cB1 cB2 cB3); (obtain ⟨cB0, cB1, cB2, cB3⟩ := row4c hB); (try clear cC0 cC1 cC2 cC3); (obtain ⟨cC0, cC1, cC2, cC3⟩ := row4c hC); clear hb))
  go_simp
  go_wp2_with fail
  refine bodyPost_ret (v := _) (by simp [results, Try.results9, go_sem]; rfl) rfl ?_
  exact ⟨rfl, kk⟩
end Go.Proofs.Ytgghopmlcpcpkaa
namespace Go.Proofs.Ytgghopmlcpcpkaa
open Go.ChangeShapes Go.WideShapes Go.ChangeAt Go.RowKit PlainK
set_option linter.unusedVariables false
set_option linter.unusedSimpArgs false
set_option maxHeartbeats 1000000 in
set_option maxRecDepth 100000 in
theorem curveTwice_lifted (os : Os) (started : os.Started) (H : Type) (enc : TypeId × Value → H) :
    ReturnsInHanded {} Try.checked os 9 .any (Rows.curveTwiceSpec.pre6 enc Try.prog Try.f9 Rows.curveTwiceRow.domain false) (Rows.curveTwiceSpec.post enc Try.prog Try.f9 false true false false) := by
  refine returnsInHanded_of_change (C := Try.checked) Try.own started (by kernel_rfl) Try.func9
    (ChangeSpec.witness6 (enc := enc) (C := Try.checked) false ⟨#[], #[.agg #[.int .u64 0, .int .u64 0, .int .u64 0, .int .u64 0], .bool false, .agg #[.int .u64 0, .int .u64 0, .int .u64 0, .int .u64 0], .agg #[.int .u64 0, .int .u64 0, .int .u64 0, .int .u64 0]], []⟩ 8 (by kernel_rfl) (by kernel_rfl) (by kernel_rfl) (by kernel_rfl)) ?_
  intro W base args ds gs before hval0 hW hcnd _
  have hval : ∀ (j : Nat) t v, Try.f9.params[j]? = some t → args[j]? = some v → Value.okWide Try.prog W .any base t v := hval0
  have hW' := hW
  obtain ⟨p, q, hA0, hV, rfl, hfz, hnd⟩ := hW
  have hA : DataW.TrodAll enc Try.prog W 0 (fun _ => true) true Try.f9.params.toList args.toList ds p := hA0
  rw [Try.params9] at hA hval
  obtain ⟨v0, vs0, d0, ds0, p0, q0, hargs, rfl, rfl, h0, r0⟩ := trodAll_cons hA
  obtain ⟨v1, vs1, d1, ds1, p1, q1, rfl, rfl, rfl, h1, r1⟩ := trodAll_cons r0
  obtain ⟨v2, vs2, d2, ds2, p2, q2, rfl, rfl, rfl, h2, r2⟩ := trodAll_cons r1
  obtain ⟨v3, vs3, d3, ds3, p3, q3, rfl, rfl, rfl, h3, r3⟩ := trodAll_cons r2
  obtain ⟨rfl, rfl, rfl⟩ := trodAll_nil r3
  obtain rfl : args = #[v0, v1, v2, v3] := by cases args; simp_all
  obtain ⟨rfl, rfl⟩ := trodVars_none hV
  obtain ⟨x00, x01, x02, x03, rfl, rfl, rfl, y00, y01, y02, y03⟩ := open_arr4 (hval 0 24 v0 rfl rfl) h0
  obtain ⟨n0, hn0⟩ := W4.of_wf y00 y01 y02 y03
  obtain ⟨x1, rfl, rfl, rfl⟩ := open_bool Try.underlying4 (hval 1 4 v1 rfl rfl) h1
  obtain ⟨x20, x21, x22, x23, rfl, rfl, rfl, y20, y21, y22, y23⟩ := open_arr4 (hval 2 24 v2 rfl rfl) h2
  obtain ⟨n2, hn2⟩ := W4.of_wf y20 y21 y22 y23
  obtain ⟨x30, x31, x32, x33, rfl, rfl, rfl, y30, y31, y32, y33⟩ := open_arr4 (hval 3 24 v3 rfl rfl) h3
  obtain ⟨n3, hn3⟩ := W4.of_wf y30 y31 y32 y33
  clear hA0 hval0
  simp only [List.append_nil] at hW'
  refine (ctwice_any hn0 x1 hn2 hn3 W).mono fun e W' ⟨he, hg⟩ => ?_
  subst he
  exact ⟨_, rfl, post_law (pa := []) (pv := []) hW' (fun _ _ _ => (trodAll_cons_mk (shut_bool Try.underlying4 _) trodAll_mk0)) (fun sp _ => (trodAll_cons_mk (shut_arr4 y00 y01 y02 y03) (trodAll_cons_mk (shut_bool Try.underlying4 x1) (trodAll_cons_mk (shut_arr4 y20 y21 y22 y23) (trodAll_cons_mk (shut_arr4 y30 y31 y32 y33) trodAll_mk0))))) (fun _ _ => rfl) rfl (hg.frame _)⟩

theorem curveTwice_proved : Rows.CurveTwiceSaid :=
  OpenClaim.holds_of_wide 9 Try.f9 rfl rfl rfl rfl rfl rfl rfl ⟨rfl, rfl, rfl, rfl, rfl⟩ rfl rfl rfl rfl rfl (by kernel_rfl) Try.func9 (by kernel_rfl)
    (of_decide_eq_true (by kernel_rfl)) (by unfold Func.isWrapper; first | (rw [if_pos (by decide +kernel)]; kernel_rfl) | (rw [if_neg (by decide +kernel)]; exact ⟨rfl, rfl⟩))
    (fun os started H enc _ => curveTwice_lifted os started H enc)
#print axioms curveTwice_proved
end Go.Proofs.Ytgghopmlcpcpkaa
