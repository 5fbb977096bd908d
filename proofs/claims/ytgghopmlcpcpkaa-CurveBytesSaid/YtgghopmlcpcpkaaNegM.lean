/- A step of the proof: what a function of the program computes, or a plain law of numbers. -/
import Derived.Test.YtgghopmlcpcpkaaCurvP
namespace Go.Proofs.Ytgghopmlcpcpkaa
open Go.RowKit PlainK
set_option linter.unusedVariables false
set_option linter.unusedSimpArgs false
theorem neg_num {y : Nat} (hy : y < PP) : (ft (subf PP 0 y) : Fin PP) = -(ft y) := by
  rw [ft_subf]; simp only [(ft_num PP).2.2.2.1]; grind
set_option maxHeartbeats 4000000 in
theorem neg_off {a0 a1 a2 a3 b0 b1 b2 b3 : Int} {x y : Nat} (n : Bool) (ha : W4 a0 a1 a2 a3 x) (hb : W4 b0 b1 b2 b3 y) (h : onB x y n = false) (w : World) :
   Calls Try.prog 42 #[.agg #[.int .u64 a0, .int .u64 a1, .int .u64 a2, .int .u64 a3, .int .u64 b0, .int .u64 b1, .int .u64 b2, .int .u64 b3, .bool n]] w fun e w' => e = .returned (.agg #[.int .u64 0, .int .u64 0, .int .u64 0, .int .u64 0, .int .u64 0, .int .u64 0, .int .u64 0, .int .u64 0, .bool true]) ∧ Below w.heap.size w w' := by
  obtain ⟨rfl, rfl, rfl, rfl, la⟩ := ha
  obtain ⟨rfl, rfl, rfl, rfl, lb⟩ := hb
  have hla := Lib.hid la
  have hlb := Lib.hid lb
  have HB := Lib.hid h
  clear la lb h
  go_enter Try.func42, Try.ntmps42
  go_upto_region 1 with fail
  obtain ⟨V0, hW⟩ : ∃ V, (w.alloc (.cells #[.int .u64 (w0 (x) : Nat), .int .u64 (w1 (x) : Nat), .int .u64 (w2 (x) : Nat), .int .u64 (w3 (x) : Nat), .int .u64 (w0 (y) : Nat), .int .u64 (w1 (y) : Nat), .int .u64 (w2 (y) : Nat), .int .u64 (w3 (y) : Nat), .bool n] 52)).alloc (.cells #[.int .u64 0, .int .u64 0, .int .u64 0, .int .u64 0, .int .u64 0, .int .u64 0, .int .u64 0, .int .u64 0, .bool false] 52) = V := ⟨_, rfl⟩
  rw [hW]
  have hA : V0.heap[w.heap.size]? = some (.cells #[.int .u64 (w0 (x) : Nat), .int .u64 (w1 (x) : Nat), .int .u64 (w2 (x) : Nat), .int .u64 (w3 (x) : Nat), .int .u64 (w0 (y) : Nat), .int .u64 (w1 (y) : Nat), .int .u64 (w2 (y) : Nat), .int .u64 (w3 (y) : Nat), .bool n] 52 (0, 0)) := by
    rw [← hW]; simp only [alloc_at, World.size_alloc]; repeat (first | rw [if_pos trivial] | rw [if_pos (by omega)] | rw [if_neg (by omega)])
  have hR : V0.heap[w.heap.size + 1]? = some (.cells #[.int .u64 0, .int .u64 0, .int .u64 0, .int .u64 0, .int .u64 0, .int .u64 0, .int .u64 0, .int .u64 0, .bool false] 52 (0, 0)) := by
    rw [← hW]; simp only [alloc_at, World.size_alloc]; repeat (first | rw [if_pos trivial] | rw [if_pos (by omega)] | rw [if_neg (by omega)])
  have kk : Below w.heap.size w V0 := by
    rw [← hW]
    repeat (first | exact Below.refl _ _ | refine Below.drew ?_ | refine bal ?_ _)
  clear hW
  obtain ⟨cA0, cA1, cA2, cA3, cA4, cA5, cA6, cA7, cA8⟩ := row9c hA
  obtain ⟨zA0, zA1, zA2, zA3, zA4, zA5, zA6, zA7, zA8⟩ := row9z hA
  go_wp2_with fail
  refine (on_any n (W4.mk' hla.out) (W4.mk' hlb.out) _).mono ?_
  rintro e V1 ⟨rfl, hb⟩
  replace hA := below_get hb hA
  replace hR := below_get hb hR
  replace kk := bcl (by first | exact kk | exact kk.drew | exact below_drewN kk _) hb
  clear cA0 zA0 cA1 zA1 cA2 zA2 cA3 zA3 cA4 zA4 cA5 zA5 cA6 zA6 cA7 zA7 cA8 zA8
  clear hb
  rw [HB.out]
  obtain ⟨cR0, cR1, cR2, cR3, cR4, cR5, cR6, cR7, cR8⟩ := row9c hR
  obtain ⟨zR0, zR1, zR2, zR3, zR4, zR5, zR6, zR7, zR8⟩ := row9z hR
  go_wp2_with fail
  have P := put9 (.int .u64 0) (.int .u64 0) (.int .u64 0) (.int .u64 0) (.int .u64 0) (.int .u64 0) (.int .u64 0) (.int .u64 0) (.bool true) hR
  replace P := put_hid P
  obtain ⟨V9, hV9, P⟩ := P
  rw [hV9]
  have P9 := P.here
  have k9 := P.below (by omega) (show Below w.heap.size w V1 from by first | exact kk | exact kk.drew | exact below_drewN kk _)
  obtain ⟨v0, v1, v2, v3, v4, v5, v6, v7, v8⟩ := row9c P9
  refine bodyPost_ret (v := _) (by simp [results, Try.results42, go_sem, v0, v1, v2, v3, v4, v5, v6, v7, v8]; rfl) rfl ?_
  exact ⟨rfl, k9⟩
set_option maxHeartbeats 4000000 in
theorem neg_any {a0 a1 a2 a3 b0 b1 b2 b3 : Int} {a : Pt PP} (hon : a.on) (ha : W4 a0 a1 a2 a3 (px a)) (hb : W4 b0 b1 b2 b3 (py a)) (w : World) :
   Calls Try.prog 42 #[.agg #[.int .u64 a0, .int .u64 a1, .int .u64 a2, .int .u64 a3, .int .u64 b0, .int .u64 b1, .int .u64 b2, .int .u64 b3, .bool (pn a)]] w fun e w' => e = .returned (.agg #[.int .u64 (w0 (px (pneg' a)) : Nat), .int .u64 (w1 (px (pneg' a)) : Nat), .int .u64 (w2 (px (pneg' a)) : Nat), .int .u64 (w3 (px (pneg' a)) : Nat), .int .u64 (w0 (py (pneg' a)) : Nat), .int .u64 (w1 (py (pneg' a)) : Nat), .int .u64 (w2 (py (pneg' a)) : Nat), .int .u64 (w3 (py (pneg' a)) : Nat), .bool (pn (pneg' a))]) ∧ Below w.heap.size w w' := by
  obtain ⟨rfl, rfl, rfl, rfl, la⟩ := ha
  obtain ⟨rfl, rfl, rfl, rfl, lb⟩ := hb
  have hla := Lib.hid la
  have hlb := Lib.hid lb
  have HB := Lib.hid (onB_enc hon)
  clear la lb
  cases a with
  | o =>
    go_enter Try.func42, Try.ntmps42
    go_upto_region 1 with fail
    obtain ⟨V0, hW⟩ : ∃ V, (w.alloc (.cells #[.int .u64 (w0 (px .o) : Nat), .int .u64 (w1 (px .o) : Nat), .int .u64 (w2 (px .o) : Nat), .int .u64 (w3 (px .o) : Nat), .int .u64 (w0 (py .o) : Nat), .int .u64 (w1 (py .o) : Nat), .int .u64 (w2 (py .o) : Nat), .int .u64 (w3 (py .o) : Nat), .bool (pn .o)] 52)).alloc (.cells #[.int .u64 0, .int .u64 0, .int .u64 0, .int .u64 0, .int .u64 0, .int .u64 0, .int .u64 0, .int .u64 0, .bool false] 52) = V := ⟨_, rfl⟩
    rw [hW]
    have hA : V0.heap[w.heap.size]? = some (.cells #[.int .u64 (w0 (px .o) : Nat), .int .u64 (w1 (px .o) : Nat), .int .u64 (w2 (px .o) : Nat), .int .u64 (w3 (px .o) : Nat), .int .u64 (w0 (py .o) : Nat), .int .u64 (w1 (py .o) : Nat), .int .u64 (w2 (py .o) : Nat), .int .u64 (w3 (py .o) : Nat), .bool (pn .o)] 52 (0, 0)) := by
      rw [← hW]; simp only [alloc_at, World.size_alloc]; repeat (first | rw [if_pos trivial] | rw [if_pos (by omega)] | rw [if_neg (by omega)])
    have hR : V0.heap[w.heap.size + 1]? = some (.cells #[.int .u64 0, .int .u64 0, .int .u64 0, .int .u64 0, .int .u64 0, .int .u64 0, .int .u64 0, .int .u64 0, .bool false] 52 (0, 0)) := by
      rw [← hW]; simp only [alloc_at, World.size_alloc]; repeat (first | rw [if_pos trivial] | rw [if_pos (by omega)] | rw [if_neg (by omega)])
    have kk : Below w.heap.size w V0 := by
      rw [← hW]
      repeat (first | exact Below.refl _ _ | refine Below.drew ?_ | refine bal ?_ _)
    clear hW
    obtain ⟨cA0, cA1, cA2, cA3, cA4, cA5, cA6, cA7, cA8⟩ := row9c hA
    obtain ⟨zA0, zA1, zA2, zA3, zA4, zA5, zA6, zA7, zA8⟩ := row9z hA
    go_wp2_with fail
    refine (on_any (pn .o) (W4.mk' hla.out) (W4.mk' hlb.out) _).mono ?_
    rintro e V1 ⟨rfl, hb⟩
    replace hA := below_get hb hA
    replace hR := below_get hb hR
    replace kk := bcl (by first | exact kk | exact kk.drew | exact below_drewN kk _) hb
    clear cA0 zA0 cA1 zA1 cA2 zA2 cA3 zA3 cA4 zA4 cA5 zA5 cA6 zA6 cA7 zA7 cA8 zA8
    clear hb
    rw [HB.out, show pn .o = true from rfl]
    rw [show pn .o = true from rfl] at hA
    obtain ⟨cA0, cA1, cA2, cA3, cA4, cA5, cA6, cA7, cA8⟩ := row9c hA
    obtain ⟨zA0, zA1, zA2, zA3, zA4, zA5, zA6, zA7, zA8⟩ := row9z hA
    obtain ⟨cR0, cR1, cR2, cR3, cR4, cR5, cR6, cR7, cR8⟩ := row9c hR
    obtain ⟨zR0, zR1, zR2, zR3, zR4, zR5, zR6, zR7, zR8⟩ := row9z hR
    go_wp2_with fail
    have P := put9 (.int .u64 0) (.int .u64 0) (.int .u64 0) (.int .u64 0) (.int .u64 0) (.int .u64 0) (.int .u64 0) (.int .u64 0) (.bool true) hR
    replace P := put_hid P
    obtain ⟨V9, hV9, P⟩ := P
    rw [hV9]
    have P9 := P.here
    have k9 := P.below (by omega) (show Below w.heap.size w V1 from by first | exact kk | exact kk.drew | exact below_drewN kk _)
    obtain ⟨v0, v1, v2, v3, v4, v5, v6, v7, v8⟩ := row9c P9
    refine bodyPost_ret (v := _) (by simp [results, Try.results42, go_sem, v0, v1, v2, v3, v4, v5, v6, v7, v8]; rfl) rfl ?_
    exact ⟨rfl, k9⟩
  | pt X Y =>
    obtain ⟨x, hx⟩ : ∃ x, px (.pt X Y) = x := ⟨_, rfl⟩
    obtain ⟨y, hy⟩ : ∃ y, py (.pt X Y) = y := ⟨_, rfl⟩
    rw [hx] at hla HB
    rw [hy] at hlb HB
    have HX := Lib.hid hx
    have HY := Lib.hid hy
    rw [hx, hy]
    clear hx hy hon
    go_enter Try.func42, Try.ntmps42
    go_upto_region 1 with fail
    obtain ⟨V0, hW⟩ : ∃ V, (w.alloc (.cells #[.int .u64 (w0 (x) : Nat), .int .u64 (w1 (x) : Nat), .int .u64 (w2 (x) : Nat), .int .u64 (w3 (x) : Nat), .int .u64 (w0 (y) : Nat), .int .u64 (w1 (y) : Nat), .int .u64 (w2 (y) : Nat), .int .u64 (w3 (y) : Nat), .bool (pn (.pt X Y))] 52)).alloc (.cells #[.int .u64 0, .int .u64 0, .int .u64 0, .int .u64 0, .int .u64 0, .int .u64 0, .int .u64 0, .int .u64 0, .bool false] 52) = V := ⟨_, rfl⟩
    rw [hW]
    have hA : V0.heap[w.heap.size]? = some (.cells #[.int .u64 (w0 (x) : Nat), .int .u64 (w1 (x) : Nat), .int .u64 (w2 (x) : Nat), .int .u64 (w3 (x) : Nat), .int .u64 (w0 (y) : Nat), .int .u64 (w1 (y) : Nat), .int .u64 (w2 (y) : Nat), .int .u64 (w3 (y) : Nat), .bool (pn (.pt X Y))] 52 (0, 0)) := by
      rw [← hW]; simp only [alloc_at, World.size_alloc]; repeat (first | rw [if_pos trivial] | rw [if_pos (by omega)] | rw [if_neg (by omega)])
    have hR : V0.heap[w.heap.size + 1]? = some (.cells #[.int .u64 0, .int .u64 0, .int .u64 0, .int .u64 0, .int .u64 0, .int .u64 0, .int .u64 0, .int .u64 0, .bool false] 52 (0, 0)) := by
      rw [← hW]; simp only [alloc_at, World.size_alloc]; repeat (first | rw [if_pos trivial] | rw [if_pos (by omega)] | rw [if_neg (by omega)])
    have kk : Below w.heap.size w V0 := by
      rw [← hW]
      repeat (first | exact Below.refl _ _ | refine Below.drew ?_ | refine bal ?_ _)
    clear hW
    obtain ⟨cA0, cA1, cA2, cA3, cA4, cA5, cA6, cA7, cA8⟩ := row9c hA
    obtain ⟨zA0, zA1, zA2, zA3, zA4, zA5, zA6, zA7, zA8⟩ := row9z hA
    go_wp2_with fail
    refine (on_any (pn (.pt X Y)) (W4.mk' hla.out) (W4.mk' hlb.out) _).mono ?_
    rintro e V1 ⟨rfl, hb⟩
    replace hA := below_get hb hA
    replace hR := below_get hb hR
    replace kk := bcl (by first | exact kk | exact kk.drew | exact below_drewN kk _) hb
    clear cA0 zA0 cA1 zA1 cA2 zA2 cA3 zA3 cA4 zA4 cA5 zA5 cA6 zA6 cA7 zA7 cA8 zA8
    clear hb
    rw [HB.out]
    rw [show pn (.pt X Y) = false from rfl] at hA
    obtain ⟨cA0, cA1, cA2, cA3, cA4, cA5, cA6, cA7, cA8⟩ := row9c hA
    obtain ⟨zA0, zA1, zA2, zA3, zA4, zA5, zA6, zA7, zA8⟩ := row9z hA
    go_upto_region 3 with fail
    try clear cA0 cA1 cA2 cA3 cA4 cA5 cA6 cA7 cA8
    obtain ⟨cA0, cA1, cA2, cA3, cA4, cA5, cA6, cA7, cA8⟩ := row9c hA
    have neRA : w.heap.size ≠ w.heap.size + 1 := by omega
    have nfRA := neRA.symm
    go_region_held3 (fun w' => w'.cell? ⟨w.heap.size, 0, none⟩ = some (.int .u64 (w0 (x) : Nat)) ∧ w'.cell? ⟨w.heap.size, 1, none⟩ = some (.int .u64 (w1 (x) : Nat)) ∧ w'.cell? ⟨w.heap.size, 2, none⟩ = some (.int .u64 (w2 (x) : Nat)) ∧ w'.cell? ⟨w.heap.size, 3, none⟩ = some (.int .u64 (w3 (x) : Nat)) ∧ w'.cell? ⟨w.heap.size, 4, none⟩ = some (.int .u64 (w0 (y) : Nat)) ∧ w'.cell? ⟨w.heap.size, 5, none⟩ = some (.int .u64 (w1 (y) : Nat)) ∧ w'.cell? ⟨w.heap.size, 6, none⟩ = some (.int .u64 (w2 (y) : Nat)) ∧ w'.cell? ⟨w.heap.size, 7, none⟩ = some (.int .u64 (w3 (y) : Nat)) ∧ w'.cell? ⟨w.heap.size, 8, none⟩ = some (.bool false)) (first | (with_reducible exact ⟨cA0, cA1, cA2, cA3, cA4, cA5, cA6, cA7, cA8⟩) | go_keep) (first | (go_at_call 73; refine (prime_any _).mono ?_; rintro e W ⟨g, hg, rfl, fF, hb⟩; (first | replace hA := below_get hb hA | replace hA := below_get hb (ak hA)); (first | replace hR := below_get hb hR | replace hR := below_get hb (ak hR)); (replace kk := bcl (by first | exact kk | exact kk.drew | exact bal kk _ | exact (bal kk _).drew) hb); (try clear cA0 cA1 cA2 cA3 cA4 cA5 cA6 cA7 cA8); (obtain ⟨cA0, cA1, cA2, cA3, cA4, cA5, cA6, cA7, cA8⟩ := row9c hA); (try clear cR0 cR1 cR2 cR3 cR4 cR5 cR6 cR7 cR8); (obtain ⟨cR0, cR1, cR2, cR3, cR4, cR5, cR6, cR7, cR8⟩ := row9c hR); (obtain ⟨zR0, zR1, zR2, zR3, zR4, zR5, zR6, zR7, zR8⟩ := row9z hR); clear hb) | (go_at_call 33; refine (subG_any (by first | exact W4.mk' hla.out | exact W4.mk' hlb.out | exact W4.mk' (Nat.lt_trans (Nat.mod_lt _ hpos) HM.out) | exact W4.zero | exact W4.small (n := 1) rfl (by decide) | exact W4.small (n := 2) rfl (by decide) | exact W4.small (n := 3) rfl (by decide) | exact W4.small (n := 4) rfl (by decide) | exact W4.small (n := 5) rfl (by decide) | exact W4.small (n := 7) rfl (by decide)) (by first | exact W4.mk' hla.out | exact W4.mk' hlb.out | exact W4.mk' (Nat.lt_trans (Nat.mod_lt _ hpos) HM.out) | exact W4.zero | exact W4.small (n := 1) rfl (by decide) | exact W4.small (n := 2) rfl (by decide) | exact W4.small (n := 3) rfl (by decide) | exact W4.small (n := 4) rfl (by decide) | exact W4.small (n := 5) rfl (by decide) | exact W4.small (n := 7) rfl (by decide)) _ (by exact fF)).mono ?_; rintro e W ⟨rfl, hb⟩; (first | replace hA := below_get hb hA | replace hA := below_get hb (ak hA)); (first | replace hR := below_get hb hR | replace hR := below_get hb (ak hR)); (replace kk := bcl (by first | exact kk | exact kk.drew | exact bal kk _ | exact (bal kk _).drew) hb); (try clear cA0 cA1 cA2 cA3 cA4 cA5 cA6 cA7 cA8); (obtain ⟨cA0, cA1, cA2, cA3, cA4, cA5, cA6, cA7, cA8⟩ := row9c hA); (try clear cR0 cR1 cR2 cR3 cR4 cR5 cR6 cR7 cR8); (obtain ⟨cR0, cR1, cR2, cR3, cR4, cR5, cR6, cR7, cR8⟩ := row9c hR); (obtain ⟨zR0, zR1, zR2, zR3, zR4, zR5, zR6, zR7, zR8⟩ := row9z hR); clear hb))
    go_simp
    go_wp2_with fail
    have P := put9 (.int .u64 (w0 (x) : Nat)) (.int .u64 (w1 (x) : Nat)) (.int .u64 (w2 (x) : Nat)) (.int .u64 (w3 (x) : Nat)) (.int .u64 (w0 (subf PP 0 y) : Nat)) (.int .u64 (w1 (subf PP 0 y) : Nat)) (.int .u64 (w2 (subf PP 0 y) : Nat)) (.int .u64 (w3 (subf PP 0 y) : Nat)) (.bool false) hR
    replace P := put_hid P
    obtain ⟨V9, hV9, P⟩ := P
    rw [hV9]
    have P9 := P.here
    have k9 := P.below (by omega) (show Below w.heap.size w W from by first | exact kk | exact kk.drew | exact below_drewN kk _)
    obtain ⟨v0, v1, v2, v3, v4, v5, v6, v7, v8⟩ := row9c P9
    refine bodyPost_ret (v := _) (by simp [results, Try.results42, go_sem, v0, v1, v2, v3, v4, v5, v6, v7, v8]; rfl) rfl ?_
    have e1 : px (pneg' (.pt X Y)) = x := HX.out
    have e2 : py (pneg' (.pt X Y)) = subf PP 0 y := by
      show (-Y).val = subf PP 0 y
      have hp : 0 < PP := Nat.lt_trans (by decide) PP_pos
      have h2 := neg_num (y := y) (by rw [← HY.out]; exact Y.isLt)
      have h3 : (ft y : Fin PP) = Y := by rw [← HY.out]; exact ft_val Y
      rw [h3] at h2
      rw [← h2]
      exact val_ft (subf_lt hp 0 y)
    rw [e1, e2]
    exact ⟨rfl, k9⟩
end Go.Proofs.Ytgghopmlcpcpkaa
