/- A step of the proof: what a function of the program computes, or a plain law of numbers. -/
import Derived.Test.YtgghopmlcpcpkaaCurvA
import Derived.Test.YtgghopmlcpcpkaaHeldLib
namespace Go.Proofs.Ytgghopmlcpcpkaa
open Go.RowKit PlainK
set_option linter.unusedVariables false
set_option linter.unusedSimpArgs false
/-- is it a point of the curve? -/
def onB (x y : Nat) (n : Bool) : Bool := if n then decide (x = 0) && (decide (y = 0) && true) else decide (x < PP) && (decide (y < PP) && decide (mulm PP y y = rightN PP x))
theorem cmp_one {a b : Nat} (h : ¬ a < b) : cmpI a b = 0 ∨ cmpI a b = 1 := by
  unfold cmpI; rw [if_neg h]; split
  · exact Or.inr rfl
  · exact Or.inl rfl
set_option maxRecDepth 10000 in
set_option maxHeartbeats 16000000 in
theorem on_any {a0 a1 a2 a3 b0 b1 b2 b3 : Int} {x y : Nat} (n : Bool) (ha : W4 a0 a1 a2 a3 x) (hb : W4 b0 b1 b2 b3 y) (w : World) :
   Calls Try.prog 44 #[.agg #[.int .u64 a0, .int .u64 a1, .int .u64 a2, .int .u64 a3, .int .u64 b0, .int .u64 b1, .int .u64 b2, .int .u64 b3, .bool n]] w fun e w' => e = .returned (.bool (onB x y n)) ∧ Below w.heap.size w w' := by
  obtain ⟨rfl, rfl, rfl, rfl, la⟩ := ha
  obtain ⟨rfl, rfl, rfl, rfl, lb⟩ := hb
  have hla := Lib.hid la
  have hlb := Lib.hid lb
  clear la lb
  cases n
  · go_enter Try.func44, Try.ntmps44
    go_upto_region 1 with fail
    obtain ⟨V0, hW⟩ : ∃ V, w.alloc (.cells #[.int .u64 (w0 (x) : Nat), .int .u64 (w1 (x) : Nat), .int .u64 (w2 (x) : Nat), .int .u64 (w3 (x) : Nat), .int .u64 (w0 (y) : Nat), .int .u64 (w1 (y) : Nat), .int .u64 (w2 (y) : Nat), .int .u64 (w3 (y) : Nat), .bool false] 52) = V := ⟨_, rfl⟩
    rw [hW]
    have hA : V0.heap[w.heap.size]? = some (.cells #[.int .u64 (w0 (x) : Nat), .int .u64 (w1 (x) : Nat), .int .u64 (w2 (x) : Nat), .int .u64 (w3 (x) : Nat), .int .u64 (w0 (y) : Nat), .int .u64 (w1 (y) : Nat), .int .u64 (w2 (y) : Nat), .int .u64 (w3 (y) : Nat), .bool false] 52 (0, 0)) := by
      rw [← hW]; simp only [alloc_at, World.size_alloc]; repeat (first | rw [if_pos trivial] | rw [if_pos (by omega)] | rw [if_neg (by omega)])
    have kk : Below w.heap.size w V0 := by
      rw [← hW]
      repeat (first | exact Below.refl _ _ | refine Below.drew ?_ | refine bal ?_ _)
    clear hW
    obtain ⟨cA0, cA1, cA2, cA3, cA4, cA5, cA6, cA7, cA8⟩ := row9c hA
    obtain ⟨zA0, zA1, zA2, zA3, zA4, zA5, zA6, zA7, zA8⟩ := row9z hA
    go_wp2_with fail
    refine (prime_any _).mono ?_
    rintro e V1 ⟨g, hg, rfl, hF, hb⟩
    have lA := lt_of_heap hA
    replace hA := below_get hb hA
    replace kk := bcl (by first | exact kk | exact kk.drew | exact below_drewN kk _) hb
    clear cA0 zA0 cA1 zA1 cA2 zA2 cA3 zA3 cA4 zA4 cA5 zA5 cA6 zA6 cA7 zA7 cA8 zA8
    clear hb
    have HF := Lib.hid hF
    have hQ := hF.blk
    have fF := hF
    have hpos : 0 < PP := Nat.lt_trans (by decide) PP_pos
    have HM := Lib.hid PP_lt
    clear hF
    go_upto_region 4 with fail
    by_cases hx : x < PP
    · have hcx := cmp_m hx
      by_cases hy : y < PP
      · have hcy := cmp_m hy
        by_cases hq : mulm PP y y = rightN PP x
        · have HB := Lib.hid (show onB x y false = true by unfold onB; rw [if_neg (by decide), decide_eq_true hx, decide_eq_true hy, decide_eq_true hq]; rfl)
          have q := eqlG (show mulm PP y y < 2 ^ 256 from Nat.lt_trans (Nat.mod_lt _ hpos) HM.out) (show rightN PP x < 2 ^ 256 from Nat.lt_trans (Nat.mod_lt _ hpos) HM.out) hq
          clear hx hy hq
          skip
          try clear cA0 cA1 cA2 cA3 cA4 cA5 cA6 cA7 cA8
          obtain ⟨cA0, cA1, cA2, cA3, cA4, cA5, cA6, cA7, cA8⟩ := row9c hA
          refine wp_region_held_drew (S := (fun w' => w'.cell? ⟨w.heap.size, 0, none⟩ = some (.int .u64 (w0 (x) : Nat)) ∧ w'.cell? ⟨w.heap.size, 1, none⟩ = some (.int .u64 (w1 (x) : Nat)) ∧ w'.cell? ⟨w.heap.size, 2, none⟩ = some (.int .u64 (w2 (x) : Nat)) ∧ w'.cell? ⟨w.heap.size, 3, none⟩ = some (.int .u64 (w3 (x) : Nat)) ∧ w'.cell? ⟨w.heap.size, 4, none⟩ = some (.int .u64 (w0 (y) : Nat)) ∧ w'.cell? ⟨w.heap.size, 5, none⟩ = some (.int .u64 (w1 (y) : Nat)) ∧ w'.cell? ⟨w.heap.size, 6, none⟩ = some (.int .u64 (w2 (y) : Nat)) ∧ w'.cell? ⟨w.heap.size, 7, none⟩ = some (.int .u64 (w3 (y) : Nat)) ∧ w'.cell? ⟨w.heap.size, 8, none⟩ = some (.bool false))) (by kernel_rfl) (by (try dsimp only); first | (with_reducible exact ⟨cA0, cA1, cA2, cA3, cA4, cA5, cA6, cA7, cA8⟩) | exact ⟨cA0, cA1, cA2, cA3, cA4, cA5, cA6, cA7, cA8⟩ | go_keep) (fun hHeld => ?_)
          refine takeH (i := 0) (d := some 10) (v := ?_) _ rfl rfl (by rfl) (by kernel_rfl) (by kernel_rfl) (by kernel_rfl) (fun _ _ _ h => h) (by assumption) ?_ ?_
          rotate_left
          · (intro w' hSw; (try dsimp only at hSw); go_simp; try (with_reducible rfl))
          try simp only [Act.put, List.setIfInBounds_toArray, List.set_cons_zero, List.set_cons_succ]
          refine takeH (i := 1) (d := some 11) (v := ?_) _ rfl rfl (by rfl) (by kernel_rfl) (by kernel_rfl) (by kernel_rfl) (fun _ _ _ h => h) (by assumption) ?_ ?_
          rotate_left
          · (intro w' hSw; (try dsimp only at hSw); go_simp; try (with_reducible rfl))
          try simp only [Act.put, List.setIfInBounds_toArray, List.set_cons_zero, List.set_cons_succ]
          refine takeH (i := 2) (d := some 12) (v := ?_) _ rfl rfl (by rfl) (by kernel_rfl) (by kernel_rfl) (by kernel_rfl) (fun _ _ _ h => h) (by assumption) ?_ ?_
          rotate_left
          · (intro w' hSw; (try dsimp only at hSw); go_simp; try (with_reducible rfl))
          try simp only [Act.put, List.setIfInBounds_toArray, List.set_cons_zero, List.set_cons_succ]
          refine callH (i := 3) _ rfl (by rfl) (by kernel_rfl) (fun K hK => ?_)
          go_simp
          (go_at_call 30; refine (modulus_any _ (show IsF _ (g) (PP) from (by first | exact fF | exact ⟨fF.blk, fF.odd, fF.three, fF.lt⟩ | exact ⟨ak fF.blk, fF.odd, fF.three, fF.lt⟩ | exact ⟨ak (ak fF.blk), fF.odd, fF.three, fF.lt⟩))).mono ?_; rintro e W ⟨rfl, hb⟩; (first | replace hA := below_get hb hA | replace hA := below_get hb (ak hA)); (first | replace hQ := below_get hb hQ | replace hQ := below_get hb (ak hQ)); (replace kk := bcl (by first | exact kk | exact kk.drew | exact bal kk _ | exact (bal kk _).drew) hb); (replace fF := IsF.of HF.out hQ); (try clear cA0 cA1 cA2 cA3 cA4 cA5 cA6 cA7 cA8); (obtain ⟨cA0, cA1, cA2, cA3, cA4, cA5, cA6, cA7, cA8⟩ := row9c hA); clear hb)
          try go_wp2_with fail
          refine hK.out _ _ (by (try dsimp only); first | (with_reducible exact ⟨cA0, cA1, cA2, cA3, cA4, cA5, cA6, cA7, cA8⟩) | exact ⟨cA0, cA1, cA2, cA3, cA4, cA5, cA6, cA7, cA8⟩ | go_keep) (fun hHeld => ?_)
          clear hK K
          try simp only [Act.put, List.setIfInBounds_toArray, List.set_cons_zero, List.set_cons_succ]
          refine callH (i := 4) _ rfl (by rfl) (by kernel_rfl) (fun K hK => ?_)
          go_simp
          (go_at_call 50; refine (cmp_any (by first | exact W4.mk' hla.out | exact W4.mk' hlb.out | exact W4.mk' HM.out | exact W4.mk' (Nat.lt_trans (Nat.mod_lt _ hpos) HM.out) | exact W4.small (n := 1) rfl (by decide) | exact W4.small (n := 2) rfl (by decide) | exact W4.small (n := 3) rfl (by decide) | exact W4.small (n := 4) rfl (by decide) | exact W4.small (n := 5) rfl (by decide) | exact W4.small (n := 7) rfl (by decide)) (by first | exact W4.mk' hla.out | exact W4.mk' hlb.out | exact W4.mk' HM.out | exact W4.mk' (Nat.lt_trans (Nat.mod_lt _ hpos) HM.out) | exact W4.small (n := 1) rfl (by decide) | exact W4.small (n := 2) rfl (by decide) | exact W4.small (n := 3) rfl (by decide) | exact W4.small (n := 4) rfl (by decide) | exact W4.small (n := 5) rfl (by decide) | exact W4.small (n := 7) rfl (by decide)) _).mono ?_; rintro e W ⟨rfl, hb⟩; (first | replace hA := below_get hb hA | replace hA := below_get hb (ak hA)); (first | replace hQ := below_get hb hQ | replace hQ := below_get hb (ak hQ)); (replace kk := bcl (by first | exact kk | exact kk.drew | exact bal kk _ | exact (bal kk _).drew) hb); (replace fF := IsF.of HF.out hQ); (try clear cA0 cA1 cA2 cA3 cA4 cA5 cA6 cA7 cA8); (obtain ⟨cA0, cA1, cA2, cA3, cA4, cA5, cA6, cA7, cA8⟩ := row9c hA); clear hb; (first | rw [hcx] | rw [hcy]))
          try go_wp2_with fail
          refine hK.out _ _ (by (try dsimp only); first | (with_reducible exact ⟨cA0, cA1, cA2, cA3, cA4, cA5, cA6, cA7, cA8⟩) | exact ⟨cA0, cA1, cA2, cA3, cA4, cA5, cA6, cA7, cA8⟩ | go_keep) (fun hHeld => ?_)
          clear hK K
          try simp only [Act.put, List.setIfInBounds_toArray, List.set_cons_zero, List.set_cons_succ]
          refine takeH (i := 5) (d := some 15) (v := ?_) _ rfl rfl (by rfl) (by kernel_rfl) (by kernel_rfl) (by kernel_rfl) (fun _ _ _ h => h) (by assumption) ?_ ?_
          rotate_left
          · (intro w' hSw; (try dsimp only at hSw); go_simp; try (with_reducible rfl))
          try simp only [Act.put, List.setIfInBounds_toArray, List.set_cons_zero, List.set_cons_succ]
          refine takeH (i := 6) (d := some 16) (v := ?_) _ rfl rfl (by rfl) (by kernel_rfl) (by kernel_rfl) (by kernel_rfl) (fun _ _ _ h => h) (by assumption) ?_ ?_
          rotate_left
          · (intro w' hSw; (try dsimp only at hSw); go_simp; try (with_reducible rfl))
          try simp only [Act.put, List.setIfInBounds_toArray, List.set_cons_zero, List.set_cons_succ]
          refine takeH (i := 7) (d := some 17) (v := ?_) _ rfl rfl (by rfl) (by kernel_rfl) (by kernel_rfl) (by kernel_rfl) (fun _ _ _ h => h) (by assumption) ?_ ?_
          rotate_left
          · (intro w' hSw; (try dsimp only at hSw); go_simp; try (with_reducible rfl))
          try simp only [Act.put, List.setIfInBounds_toArray, List.set_cons_zero, List.set_cons_succ]
          refine takeH (i := 8) (d := some 18) (v := ?_) _ rfl rfl (by rfl) (by kernel_rfl) (by kernel_rfl) (by kernel_rfl) (fun _ _ _ h => h) (by assumption) ?_ ?_
          rotate_left
          · (intro w' hSw; (try dsimp only at hSw); go_simp; try (with_reducible rfl))
          try simp only [Act.put, List.setIfInBounds_toArray, List.set_cons_zero, List.set_cons_succ]
          refine takeH (i := 9) (d := some 19) (v := ?_) _ rfl rfl (by rfl) (by kernel_rfl) (by kernel_rfl) (by kernel_rfl) (fun _ _ _ h => h) (by assumption) ?_ ?_
          rotate_left
          · (intro w' hSw; (try dsimp only at hSw); go_simp; try (with_reducible rfl))
          try simp only [Act.put, List.setIfInBounds_toArray, List.set_cons_zero, List.set_cons_succ]
          refine callH (i := 10) _ rfl (by rfl) (by kernel_rfl) (fun K hK => ?_)
          go_simp
          (go_at_call 30; refine (modulus_any _ (show IsF _ (g) (PP) from (by first | exact fF | exact ⟨fF.blk, fF.odd, fF.three, fF.lt⟩ | exact ⟨ak fF.blk, fF.odd, fF.three, fF.lt⟩ | exact ⟨ak (ak fF.blk), fF.odd, fF.three, fF.lt⟩))).mono ?_; rintro e W ⟨rfl, hb⟩; (first | replace hA := below_get hb hA | replace hA := below_get hb (ak hA)); (first | replace hQ := below_get hb hQ | replace hQ := below_get hb (ak hQ)); (replace kk := bcl (by first | exact kk | exact kk.drew | exact bal kk _ | exact (bal kk _).drew) hb); (replace fF := IsF.of HF.out hQ); (try clear cA0 cA1 cA2 cA3 cA4 cA5 cA6 cA7 cA8); (obtain ⟨cA0, cA1, cA2, cA3, cA4, cA5, cA6, cA7, cA8⟩ := row9c hA); clear hb)
          try go_wp2_with fail
          refine hK.out _ _ (by (try dsimp only); first | (with_reducible exact ⟨cA0, cA1, cA2, cA3, cA4, cA5, cA6, cA7, cA8⟩) | exact ⟨cA0, cA1, cA2, cA3, cA4, cA5, cA6, cA7, cA8⟩ | go_keep) (fun hHeld => ?_)
          clear hK K
          try simp only [Act.put, List.setIfInBounds_toArray, List.set_cons_zero, List.set_cons_succ]
          refine callH (i := 11) _ rfl (by rfl) (by kernel_rfl) (fun K hK => ?_)
          go_simp
          (go_at_call 50; refine (cmp_any (by first | exact W4.mk' hla.out | exact W4.mk' hlb.out | exact W4.mk' HM.out | exact W4.mk' (Nat.lt_trans (Nat.mod_lt _ hpos) HM.out) | exact W4.small (n := 1) rfl (by decide) | exact W4.small (n := 2) rfl (by decide) | exact W4.small (n := 3) rfl (by decide) | exact W4.small (n := 4) rfl (by decide) | exact W4.small (n := 5) rfl (by decide) | exact W4.small (n := 7) rfl (by decide)) (by first | exact W4.mk' hla.out | exact W4.mk' hlb.out | exact W4.mk' HM.out | exact W4.mk' (Nat.lt_trans (Nat.mod_lt _ hpos) HM.out) | exact W4.small (n := 1) rfl (by decide) | exact W4.small (n := 2) rfl (by decide) | exact W4.small (n := 3) rfl (by decide) | exact W4.small (n := 4) rfl (by decide) | exact W4.small (n := 5) rfl (by decide) | exact W4.small (n := 7) rfl (by decide)) _).mono ?_; rintro e W ⟨rfl, hb⟩; (first | replace hA := below_get hb hA | replace hA := below_get hb (ak hA)); (first | replace hQ := below_get hb hQ | replace hQ := below_get hb (ak hQ)); (replace kk := bcl (by first | exact kk | exact kk.drew | exact bal kk _ | exact (bal kk _).drew) hb); (replace fF := IsF.of HF.out hQ); (try clear cA0 cA1 cA2 cA3 cA4 cA5 cA6 cA7 cA8); (obtain ⟨cA0, cA1, cA2, cA3, cA4, cA5, cA6, cA7, cA8⟩ := row9c hA); clear hb; (first | rw [hcx] | rw [hcy]))
          try go_wp2_with fail
          refine hK.out _ _ (by (try dsimp only); first | (with_reducible exact ⟨cA0, cA1, cA2, cA3, cA4, cA5, cA6, cA7, cA8⟩) | exact ⟨cA0, cA1, cA2, cA3, cA4, cA5, cA6, cA7, cA8⟩ | go_keep) (fun hHeld => ?_)
          clear hK K
          try simp only [Act.put, List.setIfInBounds_toArray, List.set_cons_zero, List.set_cons_succ]
          refine takeH (i := 12) (d := some 22) (v := ?_) _ rfl rfl (by rfl) (by kernel_rfl) (by kernel_rfl) (by kernel_rfl) (fun _ _ _ h => h) (by assumption) ?_ ?_
          rotate_left
          · (intro w' hSw; (try dsimp only at hSw); go_simp; try (with_reducible rfl))
          try simp only [Act.put, List.setIfInBounds_toArray, List.set_cons_zero, List.set_cons_succ]
          refine takeH (i := 13) (d := some 23) (v := ?_) _ rfl rfl (by rfl) (by kernel_rfl) (by kernel_rfl) (by kernel_rfl) (fun _ _ _ h => h) (by assumption) ?_ ?_
          rotate_left
          · (intro w' hSw; (try dsimp only at hSw); go_simp; try (with_reducible rfl))
          try simp only [Act.put, List.setIfInBounds_toArray, List.set_cons_zero, List.set_cons_succ]
          refine takeH (i := 14) (d := some 24) (v := ?_) _ rfl rfl (by rfl) (by kernel_rfl) (by kernel_rfl) (by kernel_rfl) (fun _ _ _ h => h) (by assumption) ?_ ?_
          rotate_left
          · (intro w' hSw; (try dsimp only at hSw); go_simp; try (with_reducible rfl))
          try simp only [Act.put, List.setIfInBounds_toArray, List.set_cons_zero, List.set_cons_succ]
          refine takeH (i := 15) (d := some 25) (v := ?_) _ rfl rfl (by rfl) (by kernel_rfl) (by kernel_rfl) (by kernel_rfl) (fun _ _ _ h => h) (by assumption) ?_ ?_
          rotate_left
          · (intro w' hSw; (try dsimp only at hSw); go_simp; try (with_reducible rfl))
          try simp only [Act.put, List.setIfInBounds_toArray, List.set_cons_zero, List.set_cons_succ]
          refine takeH (i := 16) (d := some 26) (v := ?_) _ rfl rfl (by rfl) (by kernel_rfl) (by kernel_rfl) (by kernel_rfl) (fun _ _ _ h => h) (by assumption) ?_ ?_
          rotate_left
          · (intro w' hSw; (try dsimp only at hSw); go_simp; try (with_reducible rfl))
          try simp only [Act.put, List.setIfInBounds_toArray, List.set_cons_zero, List.set_cons_succ]
          refine takeH (i := 17) (d := some 27) (v := ?_) _ rfl rfl (by rfl) (by kernel_rfl) (by kernel_rfl) (by kernel_rfl) (fun _ _ _ h => h) (by assumption) ?_ ?_
          rotate_left
          · (intro w' hSw; (try dsimp only at hSw); go_simp; try (with_reducible rfl))
          try simp only [Act.put, List.setIfInBounds_toArray, List.set_cons_zero, List.set_cons_succ]
          refine takeH (i := 18) (d := some 28) (v := ?_) _ rfl rfl (by rfl) (by kernel_rfl) (by kernel_rfl) (by kernel_rfl) (fun _ _ _ h => h) (by assumption) ?_ ?_
          rotate_left
          · (intro w' hSw; (try dsimp only at hSw); go_simp; try (with_reducible rfl))
          try simp only [Act.put, List.setIfInBounds_toArray, List.set_cons_zero, List.set_cons_succ]
          refine takeH (i := 19) (d := some 29) (v := ?_) _ rfl rfl (by rfl) (by kernel_rfl) (by kernel_rfl) (by kernel_rfl) (fun _ _ _ h => h) (by assumption) ?_ ?_
          rotate_left
          · (intro w' hSw; (try dsimp only at hSw); go_simp; try (with_reducible rfl))
          try simp only [Act.put, List.setIfInBounds_toArray, List.set_cons_zero, List.set_cons_succ]
          refine takeH (i := 21) (d := some 31) (v := ?_) _ rfl rfl (by rfl) (by kernel_rfl) (by kernel_rfl) (by kernel_rfl) (fun _ _ _ h => h) (by assumption) ?_ ?_
          rotate_left
          · (intro w' hSw; (try dsimp only at hSw); go_simp; try (with_reducible rfl))
          try simp only [Act.put, List.setIfInBounds_toArray, List.set_cons_zero, List.set_cons_succ]
          refine takeH (i := 22) (d := some 32) (v := ?_) _ rfl rfl (by rfl) (by kernel_rfl) (by kernel_rfl) (by kernel_rfl) (fun _ _ _ h => h) (by assumption) ?_ ?_
          rotate_left
          · (intro w' hSw; (try dsimp only at hSw); go_simp; try (with_reducible rfl))
          try simp only [Act.put, List.setIfInBounds_toArray, List.set_cons_zero, List.set_cons_succ]
          refine takeH (i := 23) (d := some 33) (v := ?_) _ rfl rfl (by rfl) (by kernel_rfl) (by kernel_rfl) (by kernel_rfl) (fun _ _ _ h => h) (by assumption) ?_ ?_
          rotate_left
          · (intro w' hSw; (try dsimp only at hSw); go_simp; try (with_reducible rfl))
          try simp only [Act.put, List.setIfInBounds_toArray, List.set_cons_zero, List.set_cons_succ]
          refine callH (i := 20) _ rfl (by rfl) (by kernel_rfl) (fun K hK => ?_)
          go_simp
          (go_at_call 26; refine (mulG_any (by first | exact W4.mk' hla.out | exact W4.mk' hlb.out | exact W4.mk' HM.out | exact W4.mk' (Nat.lt_trans (Nat.mod_lt _ hpos) HM.out) | exact W4.small (n := 1) rfl (by decide) | exact W4.small (n := 2) rfl (by decide) | exact W4.small (n := 3) rfl (by decide) | exact W4.small (n := 4) rfl (by decide) | exact W4.small (n := 5) rfl (by decide) | exact W4.small (n := 7) rfl (by decide)) (by first | exact W4.mk' hla.out | exact W4.mk' hlb.out | exact W4.mk' HM.out | exact W4.mk' (Nat.lt_trans (Nat.mod_lt _ hpos) HM.out) | exact W4.small (n := 1) rfl (by decide) | exact W4.small (n := 2) rfl (by decide) | exact W4.small (n := 3) rfl (by decide) | exact W4.small (n := 4) rfl (by decide) | exact W4.small (n := 5) rfl (by decide) | exact W4.small (n := 7) rfl (by decide)) _ (show IsF _ (g) (PP) from (by first | exact fF | exact ⟨fF.blk, fF.odd, fF.three, fF.lt⟩ | exact ⟨ak fF.blk, fF.odd, fF.three, fF.lt⟩ | exact ⟨ak (ak fF.blk), fF.odd, fF.three, fF.lt⟩))).mono ?_; rintro e W ⟨rfl, hb⟩; (first | replace hA := below_get hb hA | replace hA := below_get hb (ak hA)); (first | replace hQ := below_get hb hQ | replace hQ := below_get hb (ak hQ)); (replace kk := bcl (by first | exact kk | exact kk.drew | exact bal kk _ | exact (bal kk _).drew) hb); (replace fF := IsF.of HF.out hQ); (try clear cA0 cA1 cA2 cA3 cA4 cA5 cA6 cA7 cA8); (obtain ⟨cA0, cA1, cA2, cA3, cA4, cA5, cA6, cA7, cA8⟩ := row9c hA); clear hb)
          try go_wp2_with fail
          refine hK.out _ _ (by (try dsimp only); first | (with_reducible exact ⟨cA0, cA1, cA2, cA3, cA4, cA5, cA6, cA7, cA8⟩) | exact ⟨cA0, cA1, cA2, cA3, cA4, cA5, cA6, cA7, cA8⟩ | go_keep) (fun hHeld => ?_)
          clear hK K
          try simp only [Act.put, List.setIfInBounds_toArray, List.set_cons_zero, List.set_cons_succ]
          refine callH (i := 24) _ rfl (by rfl) (by kernel_rfl) (fun K hK => ?_)
          go_simp
          (go_at_call 78; refine (right_any (by first | exact W4.mk' hla.out | exact W4.mk' hlb.out | exact W4.mk' HM.out | exact W4.mk' (Nat.lt_trans (Nat.mod_lt _ hpos) HM.out) | exact W4.small (n := 1) rfl (by decide) | exact W4.small (n := 2) rfl (by decide) | exact W4.small (n := 3) rfl (by decide) | exact W4.small (n := 4) rfl (by decide) | exact W4.small (n := 5) rfl (by decide) | exact W4.small (n := 7) rfl (by decide)) _ (show IsF _ (g) (PP) from (by first | exact fF | exact ⟨fF.blk, fF.odd, fF.three, fF.lt⟩ | exact ⟨ak fF.blk, fF.odd, fF.three, fF.lt⟩ | exact ⟨ak (ak fF.blk), fF.odd, fF.three, fF.lt⟩))).mono ?_; rintro e W ⟨rfl, hb⟩; (first | replace hA := below_get hb hA | replace hA := below_get hb (ak hA)); (first | replace hQ := below_get hb hQ | replace hQ := below_get hb (ak hQ)); (replace kk := bcl (by first | exact kk | exact kk.drew | exact bal kk _ | exact (bal kk _).drew) hb); (replace fF := IsF.of HF.out hQ); (try clear cA0 cA1 cA2 cA3 cA4 cA5 cA6 cA7 cA8); (obtain ⟨cA0, cA1, cA2, cA3, cA4, cA5, cA6, cA7, cA8⟩ := row9c hA); clear hb)
          try go_wp2_with fail
          refine hK.out _ _ (by (try dsimp only); first | (with_reducible exact ⟨cA0, cA1, cA2, cA3, cA4, cA5, cA6, cA7, cA8⟩) | exact ⟨cA0, cA1, cA2, cA3, cA4, cA5, cA6, cA7, cA8⟩ | go_keep) (fun hHeld => ?_)
          clear hK K
          try simp only [Act.put, List.setIfInBounds_toArray, List.set_cons_zero, List.set_cons_succ]
          refine takeH (i := 25) (d := some 35) (v := ?_) _ rfl rfl (by rfl) (by kernel_rfl) (by kernel_rfl) (by kernel_rfl) (fun _ _ _ h => h) (by assumption) ?_ ?_
          rotate_left
          · (intro w' hSw; (try dsimp only at hSw); go_simp; try (with_reducible rfl))
          try simp only [Act.put, List.setIfInBounds_toArray, List.set_cons_zero, List.set_cons_succ]
          refine takeH (i := 26) (d := some 36) (v := ?_) _ rfl rfl (by rfl) (by kernel_rfl) (by kernel_rfl) (by kernel_rfl) (fun _ _ _ h => h) (by assumption) ?_ ?_
          rotate_left
          · (intro w' hSw; (try dsimp only at hSw); go_simp; try (with_reducible rfl))
          try simp only [Act.put, List.setIfInBounds_toArray, List.set_cons_zero, List.set_cons_succ]
          refine takeH (i := 27) (d := some 2) (v := ?_) _ rfl rfl (by rfl) (by kernel_rfl) (by kernel_rfl) (by kernel_rfl) (fun _ _ _ h => h) (by assumption) ?_ ?_
          rotate_left
          · (intro w' hSw; (try dsimp only at hSw); go_simp; try (with_reducible rfl))
          try simp only [Act.put, List.setIfInBounds_toArray, List.set_cons_zero, List.set_cons_succ]
          refine wpAnyH_done (by kernel_rfl) ?_ _
          go_simp
          go_wp2_with fail
          refine bodyPost_ret (v := _) (by simp [results, Try.results44, go_sem]; rfl) rfl ?_
          rw [HB.out]
          exact ⟨rfl, kk⟩
        · have HB := Lib.hid (show onB x y false = false by unfold onB; rw [if_neg (by decide), decide_eq_true hx, decide_eq_true hy, decide_eq_false hq]; rfl)
          have q := eqlGn (show mulm PP y y < 2 ^ 256 from Nat.lt_trans (Nat.mod_lt _ hpos) HM.out) (show rightN PP x < 2 ^ 256 from Nat.lt_trans (Nat.mod_lt _ hpos) HM.out) hq
          clear hx hy hq
          skip
          try clear cA0 cA1 cA2 cA3 cA4 cA5 cA6 cA7 cA8
          obtain ⟨cA0, cA1, cA2, cA3, cA4, cA5, cA6, cA7, cA8⟩ := row9c hA
          refine wp_region_held_drew (S := (fun w' => w'.cell? ⟨w.heap.size, 0, none⟩ = some (.int .u64 (w0 (x) : Nat)) ∧ w'.cell? ⟨w.heap.size, 1, none⟩ = some (.int .u64 (w1 (x) : Nat)) ∧ w'.cell? ⟨w.heap.size, 2, none⟩ = some (.int .u64 (w2 (x) : Nat)) ∧ w'.cell? ⟨w.heap.size, 3, none⟩ = some (.int .u64 (w3 (x) : Nat)) ∧ w'.cell? ⟨w.heap.size, 4, none⟩ = some (.int .u64 (w0 (y) : Nat)) ∧ w'.cell? ⟨w.heap.size, 5, none⟩ = some (.int .u64 (w1 (y) : Nat)) ∧ w'.cell? ⟨w.heap.size, 6, none⟩ = some (.int .u64 (w2 (y) : Nat)) ∧ w'.cell? ⟨w.heap.size, 7, none⟩ = some (.int .u64 (w3 (y) : Nat)) ∧ w'.cell? ⟨w.heap.size, 8, none⟩ = some (.bool false))) (by kernel_rfl) (by (try dsimp only); first | (with_reducible exact ⟨cA0, cA1, cA2, cA3, cA4, cA5, cA6, cA7, cA8⟩) | exact ⟨cA0, cA1, cA2, cA3, cA4, cA5, cA6, cA7, cA8⟩ | go_keep) (fun hHeld => ?_)
          refine takeH (i := 0) (d := some 10) (v := ?_) _ rfl rfl (by rfl) (by kernel_rfl) (by kernel_rfl) (by kernel_rfl) (fun _ _ _ h => h) (by assumption) ?_ ?_
          rotate_left
          · (intro w' hSw; (try dsimp only at hSw); go_simp; try (with_reducible rfl))
          try simp only [Act.put, List.setIfInBounds_toArray, List.set_cons_zero, List.set_cons_succ]
          refine takeH (i := 1) (d := some 11) (v := ?_) _ rfl rfl (by rfl) (by kernel_rfl) (by kernel_rfl) (by kernel_rfl) (fun _ _ _ h => h) (by assumption) ?_ ?_
          rotate_left
          · (intro w' hSw; (try dsimp only at hSw); go_simp; try (with_reducible rfl))
          try simp only [Act.put, List.setIfInBounds_toArray, List.set_cons_zero, List.set_cons_succ]
          refine takeH (i := 2) (d := some 12) (v := ?_) _ rfl rfl (by rfl) (by kernel_rfl) (by kernel_rfl) (by kernel_rfl) (fun _ _ _ h => h) (by assumption) ?_ ?_
          rotate_left
          · (intro w' hSw; (try dsimp only at hSw); go_simp; try (with_reducible rfl))
          try simp only [Act.put, List.setIfInBounds_toArray, List.set_cons_zero, List.set_cons_succ]
          refine callH (i := 3) _ rfl (by rfl) (by kernel_rfl) (fun K hK => ?_)
          go_simp
          (go_at_call 30; refine (modulus_any _ (show IsF _ (g) (PP) from (by first | exact fF | exact ⟨fF.blk, fF.odd, fF.three, fF.lt⟩ | exact ⟨ak fF.blk, fF.odd, fF.three, fF.lt⟩ | exact ⟨ak (ak fF.blk), fF.odd, fF.three, fF.lt⟩))).mono ?_; rintro e W ⟨rfl, hb⟩; (first | replace hA := below_get hb hA | replace hA := below_get hb (ak hA)); (first | replace hQ := below_get hb hQ | replace hQ := below_get hb (ak hQ)); (replace kk := bcl (by first | exact kk | exact kk.drew | exact bal kk _ | exact (bal kk _).drew) hb); (replace fF := IsF.of HF.out hQ); (try clear cA0 cA1 cA2 cA3 cA4 cA5 cA6 cA7 cA8); (obtain ⟨cA0, cA1, cA2, cA3, cA4, cA5, cA6, cA7, cA8⟩ := row9c hA); clear hb)
          try go_wp2_with fail
          refine hK.out _ _ (by (try dsimp only); first | (with_reducible exact ⟨cA0, cA1, cA2, cA3, cA4, cA5, cA6, cA7, cA8⟩) | exact ⟨cA0, cA1, cA2, cA3, cA4, cA5, cA6, cA7, cA8⟩ | go_keep) (fun hHeld => ?_)
          clear hK K
          try simp only [Act.put, List.setIfInBounds_toArray, List.set_cons_zero, List.set_cons_succ]
          refine callH (i := 4) _ rfl (by rfl) (by kernel_rfl) (fun K hK => ?_)
          go_simp
          (go_at_call 50; refine (cmp_any (by first | exact W4.mk' hla.out | exact W4.mk' hlb.out | exact W4.mk' HM.out | exact W4.mk' (Nat.lt_trans (Nat.mod_lt _ hpos) HM.out) | exact W4.small (n := 1) rfl (by decide) | exact W4.small (n := 2) rfl (by decide) | exact W4.small (n := 3) rfl (by decide) | exact W4.small (n := 4) rfl (by decide) | exact W4.small (n := 5) rfl (by decide) | exact W4.small (n := 7) rfl (by decide)) (by first | exact W4.mk' hla.out | exact W4.mk' hlb.out | exact W4.mk' HM.out | exact W4.mk' (Nat.lt_trans (Nat.mod_lt _ hpos) HM.out) | exact W4.small (n := 1) rfl (by decide) | exact W4.small (n := 2) rfl (by decide) | exact W4.small (n := 3) rfl (by decide) | exact W4.small (n := 4) rfl (by decide) | exact W4.small (n := 5) rfl (by decide) | exact W4.small (n := 7) rfl (by decide)) _).mono ?_; rintro e W ⟨rfl, hb⟩; (first | replace hA := below_get hb hA | replace hA := below_get hb (ak hA)); (first | replace hQ := below_get hb hQ | replace hQ := below_get hb (ak hQ)); (replace kk := bcl (by first | exact kk | exact kk.drew | exact bal kk _ | exact (bal kk _).drew) hb); (replace fF := IsF.of HF.out hQ); (try clear cA0 cA1 cA2 cA3 cA4 cA5 cA6 cA7 cA8); (obtain ⟨cA0, cA1, cA2, cA3, cA4, cA5, cA6, cA7, cA8⟩ := row9c hA); clear hb; (first | rw [hcx] | rw [hcy]))
          try go_wp2_with fail
          refine hK.out _ _ (by (try dsimp only); first | (with_reducible exact ⟨cA0, cA1, cA2, cA3, cA4, cA5, cA6, cA7, cA8⟩) | exact ⟨cA0, cA1, cA2, cA3, cA4, cA5, cA6, cA7, cA8⟩ | go_keep) (fun hHeld => ?_)
          clear hK K
          try simp only [Act.put, List.setIfInBounds_toArray, List.set_cons_zero, List.set_cons_succ]
          refine takeH (i := 5) (d := some 15) (v := ?_) _ rfl rfl (by rfl) (by kernel_rfl) (by kernel_rfl) (by kernel_rfl) (fun _ _ _ h => h) (by assumption) ?_ ?_
          rotate_left
          · (intro w' hSw; (try dsimp only at hSw); go_simp; try (with_reducible rfl))
          try simp only [Act.put, List.setIfInBounds_toArray, List.set_cons_zero, List.set_cons_succ]
          refine takeH (i := 6) (d := some 16) (v := ?_) _ rfl rfl (by rfl) (by kernel_rfl) (by kernel_rfl) (by kernel_rfl) (fun _ _ _ h => h) (by assumption) ?_ ?_
          rotate_left
          · (intro w' hSw; (try dsimp only at hSw); go_simp; try (with_reducible rfl))
          try simp only [Act.put, List.setIfInBounds_toArray, List.set_cons_zero, List.set_cons_succ]
          refine takeH (i := 7) (d := some 17) (v := ?_) _ rfl rfl (by rfl) (by kernel_rfl) (by kernel_rfl) (by kernel_rfl) (fun _ _ _ h => h) (by assumption) ?_ ?_
          rotate_left
          · (intro w' hSw; (try dsimp only at hSw); go_simp; try (with_reducible rfl))
          try simp only [Act.put, List.setIfInBounds_toArray, List.set_cons_zero, List.set_cons_succ]
          refine takeH (i := 8) (d := some 18) (v := ?_) _ rfl rfl (by rfl) (by kernel_rfl) (by kernel_rfl) (by kernel_rfl) (fun _ _ _ h => h) (by assumption) ?_ ?_
          rotate_left
          · (intro w' hSw; (try dsimp only at hSw); go_simp; try (with_reducible rfl))
          try simp only [Act.put, List.setIfInBounds_toArray, List.set_cons_zero, List.set_cons_succ]
          refine takeH (i := 9) (d := some 19) (v := ?_) _ rfl rfl (by rfl) (by kernel_rfl) (by kernel_rfl) (by kernel_rfl) (fun _ _ _ h => h) (by assumption) ?_ ?_
          rotate_left
          · (intro w' hSw; (try dsimp only at hSw); go_simp; try (with_reducible rfl))
          try simp only [Act.put, List.setIfInBounds_toArray, List.set_cons_zero, List.set_cons_succ]
          refine callH (i := 10) _ rfl (by rfl) (by kernel_rfl) (fun K hK => ?_)
          go_simp
          (go_at_call 30; refine (modulus_any _ (show IsF _ (g) (PP) from (by first | exact fF | exact ⟨fF.blk, fF.odd, fF.three, fF.lt⟩ | exact ⟨ak fF.blk, fF.odd, fF.three, fF.lt⟩ | exact ⟨ak (ak fF.blk), fF.odd, fF.three, fF.lt⟩))).mono ?_; rintro e W ⟨rfl, hb⟩; (first | replace hA := below_get hb hA | replace hA := below_get hb (ak hA)); (first | replace hQ := below_get hb hQ | replace hQ := below_get hb (ak hQ)); (replace kk := bcl (by first | exact kk | exact kk.drew | exact bal kk _ | exact (bal kk _).drew) hb); (replace fF := IsF.of HF.out hQ); (try clear cA0 cA1 cA2 cA3 cA4 cA5 cA6 cA7 cA8); (obtain ⟨cA0, cA1, cA2, cA3, cA4, cA5, cA6, cA7, cA8⟩ := row9c hA); clear hb)
          try go_wp2_with fail
          refine hK.out _ _ (by (try dsimp only); first | (with_reducible exact ⟨cA0, cA1, cA2, cA3, cA4, cA5, cA6, cA7, cA8⟩) | exact ⟨cA0, cA1, cA2, cA3, cA4, cA5, cA6, cA7, cA8⟩ | go_keep) (fun hHeld => ?_)
          clear hK K
          try simp only [Act.put, List.setIfInBounds_toArray, List.set_cons_zero, List.set_cons_succ]
          refine callH (i := 11) _ rfl (by rfl) (by kernel_rfl) (fun K hK => ?_)
          go_simp
          (go_at_call 50; refine (cmp_any (by first | exact W4.mk' hla.out | exact W4.mk' hlb.out | exact W4.mk' HM.out | exact W4.mk' (Nat.lt_trans (Nat.mod_lt _ hpos) HM.out) | exact W4.small (n := 1) rfl (by decide) | exact W4.small (n := 2) rfl (by decide) | exact W4.small (n := 3) rfl (by decide) | exact W4.small (n := 4) rfl (by decide) | exact W4.small (n := 5) rfl (by decide) | exact W4.small (n := 7) rfl (by decide)) (by first | exact W4.mk' hla.out | exact W4.mk' hlb.out | exact W4.mk' HM.out | exact W4.mk' (Nat.lt_trans (Nat.mod_lt _ hpos) HM.out) | exact W4.small (n := 1) rfl (by decide) | exact W4.small (n := 2) rfl (by decide) | exact W4.small (n := 3) rfl (by decide) | exact W4.small (n := 4) rfl (by decide) | exact W4.small (n := 5) rfl (by decide) | exact W4.small (n := 7) rfl (by decide)) _).mono ?_; rintro e W ⟨rfl, hb⟩; (first | replace hA := below_get hb hA | replace hA := below_get hb (ak hA)); (first | replace hQ := below_get hb hQ | replace hQ := below_get hb (ak hQ)); (replace kk := bcl (by first | exact kk | exact kk.drew | exact bal kk _ | exact (bal kk _).drew) hb); (replace fF := IsF.of HF.out hQ); (try clear cA0 cA1 cA2 cA3 cA4 cA5 cA6 cA7 cA8); (obtain ⟨cA0, cA1, cA2, cA3, cA4, cA5, cA6, cA7, cA8⟩ := row9c hA); clear hb; (first | rw [hcx] | rw [hcy]))
          try go_wp2_with fail
          refine hK.out _ _ (by (try dsimp only); first | (with_reducible exact ⟨cA0, cA1, cA2, cA3, cA4, cA5, cA6, cA7, cA8⟩) | exact ⟨cA0, cA1, cA2, cA3, cA4, cA5, cA6, cA7, cA8⟩ | go_keep) (fun hHeld => ?_)
          clear hK K
          try simp only [Act.put, List.setIfInBounds_toArray, List.set_cons_zero, List.set_cons_succ]
          refine takeH (i := 12) (d := some 22) (v := ?_) _ rfl rfl (by rfl) (by kernel_rfl) (by kernel_rfl) (by kernel_rfl) (fun _ _ _ h => h) (by assumption) ?_ ?_
          rotate_left
          · (intro w' hSw; (try dsimp only at hSw); go_simp; try (with_reducible rfl))
          try simp only [Act.put, List.setIfInBounds_toArray, List.set_cons_zero, List.set_cons_succ]
          refine takeH (i := 13) (d := some 23) (v := ?_) _ rfl rfl (by rfl) (by kernel_rfl) (by kernel_rfl) (by kernel_rfl) (fun _ _ _ h => h) (by assumption) ?_ ?_
          rotate_left
          · (intro w' hSw; (try dsimp only at hSw); go_simp; try (with_reducible rfl))
          try simp only [Act.put, List.setIfInBounds_toArray, List.set_cons_zero, List.set_cons_succ]
          refine takeH (i := 14) (d := some 24) (v := ?_) _ rfl rfl (by rfl) (by kernel_rfl) (by kernel_rfl) (by kernel_rfl) (fun _ _ _ h => h) (by assumption) ?_ ?_
          rotate_left
          · (intro w' hSw; (try dsimp only at hSw); go_simp; try (with_reducible rfl))
          try simp only [Act.put, List.setIfInBounds_toArray, List.set_cons_zero, List.set_cons_succ]
          refine takeH (i := 15) (d := some 25) (v := ?_) _ rfl rfl (by rfl) (by kernel_rfl) (by kernel_rfl) (by kernel_rfl) (fun _ _ _ h => h) (by assumption) ?_ ?_
          rotate_left
          · (intro w' hSw; (try dsimp only at hSw); go_simp; try (with_reducible rfl))
          try simp only [Act.put, List.setIfInBounds_toArray, List.set_cons_zero, List.set_cons_succ]
          refine takeH (i := 16) (d := some 26) (v := ?_) _ rfl rfl (by rfl) (by kernel_rfl) (by kernel_rfl) (by kernel_rfl) (fun _ _ _ h => h) (by assumption) ?_ ?_
          rotate_left
          · (intro w' hSw; (try dsimp only at hSw); go_simp; try (with_reducible rfl))
          try simp only [Act.put, List.setIfInBounds_toArray, List.set_cons_zero, List.set_cons_succ]
          refine takeH (i := 17) (d := some 27) (v := ?_) _ rfl rfl (by rfl) (by kernel_rfl) (by kernel_rfl) (by kernel_rfl) (fun _ _ _ h => h) (by assumption) ?_ ?_
          rotate_left
          · (intro w' hSw; (try dsimp only at hSw); go_simp; try (with_reducible rfl))
          try simp only [Act.put, List.setIfInBounds_toArray, List.set_cons_zero, List.set_cons_succ]
          refine takeH (i := 18) (d := some 28) (v := ?_) _ rfl rfl (by rfl) (by kernel_rfl) (by kernel_rfl) (by kernel_rfl) (fun _ _ _ h => h) (by assumption) ?_ ?_
          rotate_left
          · (intro w' hSw; (try dsimp only at hSw); go_simp; try (with_reducible rfl))
          try simp only [Act.put, List.setIfInBounds_toArray, List.set_cons_zero, List.set_cons_succ]
          refine takeH (i := 19) (d := some 29) (v := ?_) _ rfl rfl (by rfl) (by kernel_rfl) (by kernel_rfl) (by kernel_rfl) (fun _ _ _ h => h) (by assumption) ?_ ?_
          rotate_left
          · (intro w' hSw; (try dsimp only at hSw); go_simp; try (with_reducible rfl))
          try simp only [Act.put, List.setIfInBounds_toArray, List.set_cons_zero, List.set_cons_succ]
          refine takeH (i := 21) (d := some 31) (v := ?_) _ rfl rfl (by rfl) (by kernel_rfl) (by kernel_rfl) (by kernel_rfl) (fun _ _ _ h => h) (by assumption) ?_ ?_
          rotate_left
          · (intro w' hSw; (try dsimp only at hSw); go_simp; try (with_reducible rfl))
          try simp only [Act.put, List.setIfInBounds_toArray, List.set_cons_zero, List.set_cons_succ]
          refine takeH (i := 22) (d := some 32) (v := ?_) _ rfl rfl (by rfl) (by kernel_rfl) (by kernel_rfl) (by kernel_rfl) (fun _ _ _ h => h) (by assumption) ?_ ?_
          rotate_left
          · (intro w' hSw; (try dsimp only at hSw); go_simp; try (with_reducible rfl))
          try simp only [Act.put, List.setIfInBounds_toArray, List.set_cons_zero, List.set_cons_succ]
          refine takeH (i := 23) (d := some 33) (v := ?_) _ rfl rfl (by rfl) (by kernel_rfl) (by kernel_rfl) (by kernel_rfl) (fun _ _ _ h => h) (by assumption) ?_ ?_
          rotate_left
          · (intro w' hSw; (try dsimp only at hSw); go_simp; try (with_reducible rfl))
          try simp only [Act.put, List.setIfInBounds_toArray, List.set_cons_zero, List.set_cons_succ]
          refine callH (i := 20) _ rfl (by rfl) (by kernel_rfl) (fun K hK => ?_)
          go_simp
          (go_at_call 26; refine (mulG_any (by first | exact W4.mk' hla.out | exact W4.mk' hlb.out | exact W4.mk' HM.out | exact W4.mk' (Nat.lt_trans (Nat.mod_lt _ hpos) HM.out) | exact W4.small (n := 1) rfl (by decide) | exact W4.small (n := 2) rfl (by decide) | exact W4.small (n := 3) rfl (by decide) | exact W4.small (n := 4) rfl (by decide) | exact W4.small (n := 5) rfl (by decide) | exact W4.small (n := 7) rfl (by decide)) (by first | exact W4.mk' hla.out | exact W4.mk' hlb.out | exact W4.mk' HM.out | exact W4.mk' (Nat.lt_trans (Nat.mod_lt _ hpos) HM.out) | exact W4.small (n := 1) rfl (by decide) | exact W4.small (n := 2) rfl (by decide) | exact W4.small (n := 3) rfl (by decide) | exact W4.small (n := 4) rfl (by decide) | exact W4.small (n := 5) rfl (by decide) | exact W4.small (n := 7) rfl (by decide)) _ (show IsF _ (g) (PP) from (by first | exact fF | exact ⟨fF.blk, fF.odd, fF.three, fF.lt⟩ | exact ⟨ak fF.blk, fF.odd, fF.three, fF.lt⟩ | exact ⟨ak (ak fF.blk), fF.odd, fF.three, fF.lt⟩))).mono ?_; rintro e W ⟨rfl, hb⟩; (first | replace hA := below_get hb hA | replace hA := below_get hb (ak hA)); (first | replace hQ := below_get hb hQ | replace hQ := below_get hb (ak hQ)); (replace kk := bcl (by first | exact kk | exact kk.drew | exact bal kk _ | exact (bal kk _).drew) hb); (replace fF := IsF.of HF.out hQ); (try clear cA0 cA1 cA2 cA3 cA4 cA5 cA6 cA7 cA8); (obtain ⟨cA0, cA1, cA2, cA3, cA4, cA5, cA6, cA7, cA8⟩ := row9c hA); clear hb)
          try go_wp2_with fail
          refine hK.out _ _ (by (try dsimp only); first | (with_reducible exact ⟨cA0, cA1, cA2, cA3, cA4, cA5, cA6, cA7, cA8⟩) | exact ⟨cA0, cA1, cA2, cA3, cA4, cA5, cA6, cA7, cA8⟩ | go_keep) (fun hHeld => ?_)
          clear hK K
          try simp only [Act.put, List.setIfInBounds_toArray, List.set_cons_zero, List.set_cons_succ]
          refine callH (i := 24) _ rfl (by rfl) (by kernel_rfl) (fun K hK => ?_)
          go_simp
          (go_at_call 78; refine (right_any (by first | exact W4.mk' hla.out | exact W4.mk' hlb.out | exact W4.mk' HM.out | exact W4.mk' (Nat.lt_trans (Nat.mod_lt _ hpos) HM.out) | exact W4.small (n := 1) rfl (by decide) | exact W4.small (n := 2) rfl (by decide) | exact W4.small (n := 3) rfl (by decide) | exact W4.small (n := 4) rfl (by decide) | exact W4.small (n := 5) rfl (by decide) | exact W4.small (n := 7) rfl (by decide)) _ (show IsF _ (g) (PP) from (by first | exact fF | exact ⟨fF.blk, fF.odd, fF.three, fF.lt⟩ | exact ⟨ak fF.blk, fF.odd, fF.three, fF.lt⟩ | exact ⟨ak (ak fF.blk), fF.odd, fF.three, fF.lt⟩))).mono ?_; rintro e W ⟨rfl, hb⟩; (first | replace hA := below_get hb hA | replace hA := below_get hb (ak hA)); (first | replace hQ := below_get hb hQ | replace hQ := below_get hb (ak hQ)); (replace kk := bcl (by first | exact kk | exact kk.drew | exact bal kk _ | exact (bal kk _).drew) hb); (replace fF := IsF.of HF.out hQ); (try clear cA0 cA1 cA2 cA3 cA4 cA5 cA6 cA7 cA8); (obtain ⟨cA0, cA1, cA2, cA3, cA4, cA5, cA6, cA7, cA8⟩ := row9c hA); clear hb)
          try go_wp2_with fail
          refine hK.out _ _ (by (try dsimp only); first | (with_reducible exact ⟨cA0, cA1, cA2, cA3, cA4, cA5, cA6, cA7, cA8⟩) | exact ⟨cA0, cA1, cA2, cA3, cA4, cA5, cA6, cA7, cA8⟩ | go_keep) (fun hHeld => ?_)
          clear hK K
          try simp only [Act.put, List.setIfInBounds_toArray, List.set_cons_zero, List.set_cons_succ]
          refine takeH (i := 25) (d := some 35) (v := ?_) _ rfl rfl (by rfl) (by kernel_rfl) (by kernel_rfl) (by kernel_rfl) (fun _ _ _ h => h) (by assumption) ?_ ?_
          rotate_left
          · (intro w' hSw; (try dsimp only at hSw); go_simp; try (with_reducible rfl))
          try simp only [Act.put, List.setIfInBounds_toArray, List.set_cons_zero, List.set_cons_succ]
          refine takeH (i := 26) (d := some 36) (v := ?_) _ rfl rfl (by rfl) (by kernel_rfl) (by kernel_rfl) (by kernel_rfl) (fun _ _ _ h => h) (by assumption) ?_ ?_
          rotate_left
          · (intro w' hSw; (try dsimp only at hSw); go_simp; try (with_reducible rfl))
          try simp only [Act.put, List.setIfInBounds_toArray, List.set_cons_zero, List.set_cons_succ]
          refine takeH (i := 27) (d := some 2) (v := ?_) _ rfl rfl (by rfl) (by kernel_rfl) (by kernel_rfl) (by kernel_rfl) (fun _ _ _ h => h) (by assumption) ?_ ?_
          rotate_left
          · (intro w' hSw; (try dsimp only at hSw); go_simp; try (with_reducible rfl))
          try simp only [Act.put, List.setIfInBounds_toArray, List.set_cons_zero, List.set_cons_succ]
          refine wpAnyH_done (by kernel_rfl) ?_ _
          go_simp
          go_wp2_with fail
          refine bodyPost_ret (v := _) (by simp [results, Try.results44, go_sem]; rfl) rfl ?_
          rw [HB.out]
          exact ⟨rfl, kk⟩
      · have HB := Lib.hid (show onB x y false = false by unfold onB; rw [if_neg (by decide), decide_eq_true hx, decide_eq_false hy]; rfl)
        rcases cmp_one hy with hcy | hcy
        · clear hx hy
          skip
          try clear cA0 cA1 cA2 cA3 cA4 cA5 cA6 cA7 cA8
          obtain ⟨cA0, cA1, cA2, cA3, cA4, cA5, cA6, cA7, cA8⟩ := row9c hA
          refine wp_region_held_drew (S := (fun w' => w'.cell? ⟨w.heap.size, 0, none⟩ = some (.int .u64 (w0 (x) : Nat)) ∧ w'.cell? ⟨w.heap.size, 1, none⟩ = some (.int .u64 (w1 (x) : Nat)) ∧ w'.cell? ⟨w.heap.size, 2, none⟩ = some (.int .u64 (w2 (x) : Nat)) ∧ w'.cell? ⟨w.heap.size, 3, none⟩ = some (.int .u64 (w3 (x) : Nat)) ∧ w'.cell? ⟨w.heap.size, 4, none⟩ = some (.int .u64 (w0 (y) : Nat)) ∧ w'.cell? ⟨w.heap.size, 5, none⟩ = some (.int .u64 (w1 (y) : Nat)) ∧ w'.cell? ⟨w.heap.size, 6, none⟩ = some (.int .u64 (w2 (y) : Nat)) ∧ w'.cell? ⟨w.heap.size, 7, none⟩ = some (.int .u64 (w3 (y) : Nat)) ∧ w'.cell? ⟨w.heap.size, 8, none⟩ = some (.bool false))) (by kernel_rfl) (by (try dsimp only); first | (with_reducible exact ⟨cA0, cA1, cA2, cA3, cA4, cA5, cA6, cA7, cA8⟩) | exact ⟨cA0, cA1, cA2, cA3, cA4, cA5, cA6, cA7, cA8⟩ | go_keep) (fun hHeld => ?_)
          refine takeH (i := 0) (d := some 10) (v := ?_) _ rfl rfl (by rfl) (by kernel_rfl) (by kernel_rfl) (by kernel_rfl) (fun _ _ _ h => h) (by assumption) ?_ ?_
          rotate_left
          · (intro w' hSw; (try dsimp only at hSw); go_simp; try (with_reducible rfl))
          try simp only [Act.put, List.setIfInBounds_toArray, List.set_cons_zero, List.set_cons_succ]
          refine takeH (i := 1) (d := some 11) (v := ?_) _ rfl rfl (by rfl) (by kernel_rfl) (by kernel_rfl) (by kernel_rfl) (fun _ _ _ h => h) (by assumption) ?_ ?_
          rotate_left
          · (intro w' hSw; (try dsimp only at hSw); go_simp; try (with_reducible rfl))
          try simp only [Act.put, List.setIfInBounds_toArray, List.set_cons_zero, List.set_cons_succ]
          refine takeH (i := 2) (d := some 12) (v := ?_) _ rfl rfl (by rfl) (by kernel_rfl) (by kernel_rfl) (by kernel_rfl) (fun _ _ _ h => h) (by assumption) ?_ ?_
          rotate_left
          · (intro w' hSw; (try dsimp only at hSw); go_simp; try (with_reducible rfl))
          try simp only [Act.put, List.setIfInBounds_toArray, List.set_cons_zero, List.set_cons_succ]
          refine callH (i := 3) _ rfl (by rfl) (by kernel_rfl) (fun K hK => ?_)
          go_simp
          (go_at_call 30; refine (modulus_any _ (show IsF _ (g) (PP) from (by first | exact fF | exact ⟨fF.blk, fF.odd, fF.three, fF.lt⟩ | exact ⟨ak fF.blk, fF.odd, fF.three, fF.lt⟩ | exact ⟨ak (ak fF.blk), fF.odd, fF.three, fF.lt⟩))).mono ?_; rintro e W ⟨rfl, hb⟩; (first | replace hA := below_get hb hA | replace hA := below_get hb (ak hA)); (first | replace hQ := below_get hb hQ | replace hQ := below_get hb (ak hQ)); (replace kk := bcl (by first | exact kk | exact kk.drew | exact bal kk _ | exact (bal kk _).drew) hb); (replace fF := IsF.of HF.out hQ); (try clear cA0 cA1 cA2 cA3 cA4 cA5 cA6 cA7 cA8); (obtain ⟨cA0, cA1, cA2, cA3, cA4, cA5, cA6, cA7, cA8⟩ := row9c hA); clear hb)
          try go_wp2_with fail
          refine hK.out _ _ (by (try dsimp only); first | (with_reducible exact ⟨cA0, cA1, cA2, cA3, cA4, cA5, cA6, cA7, cA8⟩) | exact ⟨cA0, cA1, cA2, cA3, cA4, cA5, cA6, cA7, cA8⟩ | go_keep) (fun hHeld => ?_)
          clear hK K
          try simp only [Act.put, List.setIfInBounds_toArray, List.set_cons_zero, List.set_cons_succ]
          refine callH (i := 4) _ rfl (by rfl) (by kernel_rfl) (fun K hK => ?_)
          go_simp
          (go_at_call 50; refine (cmp_any (by first | exact W4.mk' hla.out | exact W4.mk' hlb.out | exact W4.mk' HM.out | exact W4.mk' (Nat.lt_trans (Nat.mod_lt _ hpos) HM.out) | exact W4.small (n := 1) rfl (by decide) | exact W4.small (n := 2) rfl (by decide) | exact W4.small (n := 3) rfl (by decide) | exact W4.small (n := 4) rfl (by decide) | exact W4.small (n := 5) rfl (by decide) | exact W4.small (n := 7) rfl (by decide)) (by first | exact W4.mk' hla.out | exact W4.mk' hlb.out | exact W4.mk' HM.out | exact W4.mk' (Nat.lt_trans (Nat.mod_lt _ hpos) HM.out) | exact W4.small (n := 1) rfl (by decide) | exact W4.small (n := 2) rfl (by decide) | exact W4.small (n := 3) rfl (by decide) | exact W4.small (n := 4) rfl (by decide) | exact W4.small (n := 5) rfl (by decide) | exact W4.small (n := 7) rfl (by decide)) _).mono ?_; rintro e W ⟨rfl, hb⟩; (first | replace hA := below_get hb hA | replace hA := below_get hb (ak hA)); (first | replace hQ := below_get hb hQ | replace hQ := below_get hb (ak hQ)); (replace kk := bcl (by first | exact kk | exact kk.drew | exact bal kk _ | exact (bal kk _).drew) hb); (replace fF := IsF.of HF.out hQ); (try clear cA0 cA1 cA2 cA3 cA4 cA5 cA6 cA7 cA8); (obtain ⟨cA0, cA1, cA2, cA3, cA4, cA5, cA6, cA7, cA8⟩ := row9c hA); clear hb; (first | rw [hcx] | rw [hcy]))
          try go_wp2_with fail
          refine hK.out _ _ (by (try dsimp only); first | (with_reducible exact ⟨cA0, cA1, cA2, cA3, cA4, cA5, cA6, cA7, cA8⟩) | exact ⟨cA0, cA1, cA2, cA3, cA4, cA5, cA6, cA7, cA8⟩ | go_keep) (fun hHeld => ?_)
          clear hK K
          try simp only [Act.put, List.setIfInBounds_toArray, List.set_cons_zero, List.set_cons_succ]
          refine takeH (i := 5) (d := some 15) (v := ?_) _ rfl rfl (by rfl) (by kernel_rfl) (by kernel_rfl) (by kernel_rfl) (fun _ _ _ h => h) (by assumption) ?_ ?_
          rotate_left
          · (intro w' hSw; (try dsimp only at hSw); go_simp; try (with_reducible rfl))
          try simp only [Act.put, List.setIfInBounds_toArray, List.set_cons_zero, List.set_cons_succ]
          refine takeH (i := 6) (d := some 16) (v := ?_) _ rfl rfl (by rfl) (by kernel_rfl) (by kernel_rfl) (by kernel_rfl) (fun _ _ _ h => h) (by assumption) ?_ ?_
          rotate_left
          · (intro w' hSw; (try dsimp only at hSw); go_simp; try (with_reducible rfl))
          try simp only [Act.put, List.setIfInBounds_toArray, List.set_cons_zero, List.set_cons_succ]
          refine takeH (i := 7) (d := some 17) (v := ?_) _ rfl rfl (by rfl) (by kernel_rfl) (by kernel_rfl) (by kernel_rfl) (fun _ _ _ h => h) (by assumption) ?_ ?_
          rotate_left
          · (intro w' hSw; (try dsimp only at hSw); go_simp; try (with_reducible rfl))
          try simp only [Act.put, List.setIfInBounds_toArray, List.set_cons_zero, List.set_cons_succ]
          refine takeH (i := 8) (d := some 18) (v := ?_) _ rfl rfl (by rfl) (by kernel_rfl) (by kernel_rfl) (by kernel_rfl) (fun _ _ _ h => h) (by assumption) ?_ ?_
          rotate_left
          · (intro w' hSw; (try dsimp only at hSw); go_simp; try (with_reducible rfl))
          try simp only [Act.put, List.setIfInBounds_toArray, List.set_cons_zero, List.set_cons_succ]
          refine takeH (i := 9) (d := some 19) (v := ?_) _ rfl rfl (by rfl) (by kernel_rfl) (by kernel_rfl) (by kernel_rfl) (fun _ _ _ h => h) (by assumption) ?_ ?_
          rotate_left
          · (intro w' hSw; (try dsimp only at hSw); go_simp; try (with_reducible rfl))
          try simp only [Act.put, List.setIfInBounds_toArray, List.set_cons_zero, List.set_cons_succ]
          refine callH (i := 10) _ rfl (by rfl) (by kernel_rfl) (fun K hK => ?_)
          go_simp
          (go_at_call 30; refine (modulus_any _ (show IsF _ (g) (PP) from (by first | exact fF | exact ⟨fF.blk, fF.odd, fF.three, fF.lt⟩ | exact ⟨ak fF.blk, fF.odd, fF.three, fF.lt⟩ | exact ⟨ak (ak fF.blk), fF.odd, fF.three, fF.lt⟩))).mono ?_; rintro e W ⟨rfl, hb⟩; (first | replace hA := below_get hb hA | replace hA := below_get hb (ak hA)); (first | replace hQ := below_get hb hQ | replace hQ := below_get hb (ak hQ)); (replace kk := bcl (by first | exact kk | exact kk.drew | exact bal kk _ | exact (bal kk _).drew) hb); (replace fF := IsF.of HF.out hQ); (try clear cA0 cA1 cA2 cA3 cA4 cA5 cA6 cA7 cA8); (obtain ⟨cA0, cA1, cA2, cA3, cA4, cA5, cA6, cA7, cA8⟩ := row9c hA); clear hb)
          try go_wp2_with fail
          refine hK.out _ _ (by (try dsimp only); first | (with_reducible exact ⟨cA0, cA1, cA2, cA3, cA4, cA5, cA6, cA7, cA8⟩) | exact ⟨cA0, cA1, cA2, cA3, cA4, cA5, cA6, cA7, cA8⟩ | go_keep) (fun hHeld => ?_)
          clear hK K
          try simp only [Act.put, List.setIfInBounds_toArray, List.set_cons_zero, List.set_cons_succ]
          refine callH (i := 11) _ rfl (by rfl) (by kernel_rfl) (fun K hK => ?_)
          go_simp
          (go_at_call 50; refine (cmp_any (by first | exact W4.mk' hla.out | exact W4.mk' hlb.out | exact W4.mk' HM.out | exact W4.mk' (Nat.lt_trans (Nat.mod_lt _ hpos) HM.out) | exact W4.small (n := 1) rfl (by decide) | exact W4.small (n := 2) rfl (by decide) | exact W4.small (n := 3) rfl (by decide) | exact W4.small (n := 4) rfl (by decide) | exact W4.small (n := 5) rfl (by decide) | exact W4.small (n := 7) rfl (by decide)) (by first | exact W4.mk' hla.out | exact W4.mk' hlb.out | exact W4.mk' HM.out | exact W4.mk' (Nat.lt_trans (Nat.mod_lt _ hpos) HM.out) | exact W4.small (n := 1) rfl (by decide) | exact W4.small (n := 2) rfl (by decide) | exact W4.small (n := 3) rfl (by decide) | exact W4.small (n := 4) rfl (by decide) | exact W4.small (n := 5) rfl (by decide) | exact W4.small (n := 7) rfl (by decide)) _).mono ?_; rintro e W ⟨rfl, hb⟩; (first | replace hA := below_get hb hA | replace hA := below_get hb (ak hA)); (first | replace hQ := below_get hb hQ | replace hQ := below_get hb (ak hQ)); (replace kk := bcl (by first | exact kk | exact kk.drew | exact bal kk _ | exact (bal kk _).drew) hb); (replace fF := IsF.of HF.out hQ); (try clear cA0 cA1 cA2 cA3 cA4 cA5 cA6 cA7 cA8); (obtain ⟨cA0, cA1, cA2, cA3, cA4, cA5, cA6, cA7, cA8⟩ := row9c hA); clear hb; (first | rw [hcx] | rw [hcy]))
          try go_wp2_with fail
          refine hK.out _ _ (by (try dsimp only); first | (with_reducible exact ⟨cA0, cA1, cA2, cA3, cA4, cA5, cA6, cA7, cA8⟩) | exact ⟨cA0, cA1, cA2, cA3, cA4, cA5, cA6, cA7, cA8⟩ | go_keep) (fun hHeld => ?_)
          clear hK K
          try simp only [Act.put, List.setIfInBounds_toArray, List.set_cons_zero, List.set_cons_succ]
          refine takeH (i := 12) (d := some 22) (v := ?_) _ rfl rfl (by rfl) (by kernel_rfl) (by kernel_rfl) (by kernel_rfl) (fun _ _ _ h => h) (by assumption) ?_ ?_
          rotate_left
          · (intro w' hSw; (try dsimp only at hSw); go_simp; try (with_reducible rfl))
          try simp only [Act.put, List.setIfInBounds_toArray, List.set_cons_zero, List.set_cons_succ]
          refine takeH (i := 13) (d := some 23) (v := ?_) _ rfl rfl (by rfl) (by kernel_rfl) (by kernel_rfl) (by kernel_rfl) (fun _ _ _ h => h) (by assumption) ?_ ?_
          rotate_left
          · (intro w' hSw; (try dsimp only at hSw); go_simp; try (with_reducible rfl))
          try simp only [Act.put, List.setIfInBounds_toArray, List.set_cons_zero, List.set_cons_succ]
          refine takeH (i := 14) (d := some 24) (v := ?_) _ rfl rfl (by rfl) (by kernel_rfl) (by kernel_rfl) (by kernel_rfl) (fun _ _ _ h => h) (by assumption) ?_ ?_
          rotate_left
          · (intro w' hSw; (try dsimp only at hSw); go_simp; try (with_reducible rfl))
          try simp only [Act.put, List.setIfInBounds_toArray, List.set_cons_zero, List.set_cons_succ]
          refine skipH (i := 15) (d := some 25) ⟨_, rfl, rfl, by rfl⟩ (by kernel_rfl) (by kernel_rfl) (by kernel_rfl) (fun _ _ _ h => h) (by assumption) ?_
          try simp only [Act.put, List.setIfInBounds_toArray, List.set_cons_zero, List.set_cons_succ]
          refine skipH (i := 16) (d := some 26) ⟨_, rfl, rfl, by rfl⟩ (by kernel_rfl) (by kernel_rfl) (by kernel_rfl) (fun _ _ _ h => h) (by assumption) ?_
          try simp only [Act.put, List.setIfInBounds_toArray, List.set_cons_zero, List.set_cons_succ]
          refine skipH (i := 17) (d := some 27) ⟨_, rfl, rfl, by rfl⟩ (by kernel_rfl) (by kernel_rfl) (by kernel_rfl) (fun _ _ _ h => h) (by assumption) ?_
          try simp only [Act.put, List.setIfInBounds_toArray, List.set_cons_zero, List.set_cons_succ]
          refine skipH (i := 18) (d := some 28) ⟨_, rfl, rfl, by rfl⟩ (by kernel_rfl) (by kernel_rfl) (by kernel_rfl) (fun _ _ _ h => h) (by assumption) ?_
          try simp only [Act.put, List.setIfInBounds_toArray, List.set_cons_zero, List.set_cons_succ]
          refine skipH (i := 19) (d := some 29) ⟨_, rfl, rfl, by rfl⟩ (by kernel_rfl) (by kernel_rfl) (by kernel_rfl) (fun _ _ _ h => h) (by assumption) ?_
          try simp only [Act.put, List.setIfInBounds_toArray, List.set_cons_zero, List.set_cons_succ]
          refine skipH (i := 20) (d := some 30) ⟨_, rfl, rfl, by rfl⟩ (by kernel_rfl) (by kernel_rfl) (by kernel_rfl) (fun _ _ _ h => h) (by assumption) ?_
          try simp only [Act.put, List.setIfInBounds_toArray, List.set_cons_zero, List.set_cons_succ]
          refine skipH (i := 21) (d := some 31) ⟨_, rfl, rfl, by rfl⟩ (by kernel_rfl) (by kernel_rfl) (by kernel_rfl) (fun _ _ _ h => h) (by assumption) ?_
          try simp only [Act.put, List.setIfInBounds_toArray, List.set_cons_zero, List.set_cons_succ]
          refine skipH (i := 22) (d := some 32) ⟨_, rfl, rfl, by rfl⟩ (by kernel_rfl) (by kernel_rfl) (by kernel_rfl) (fun _ _ _ h => h) (by assumption) ?_
          try simp only [Act.put, List.setIfInBounds_toArray, List.set_cons_zero, List.set_cons_succ]
          refine skipH (i := 23) (d := some 33) ⟨_, rfl, rfl, by rfl⟩ (by kernel_rfl) (by kernel_rfl) (by kernel_rfl) (fun _ _ _ h => h) (by assumption) ?_
          try simp only [Act.put, List.setIfInBounds_toArray, List.set_cons_zero, List.set_cons_succ]
          refine skipH (i := 24) (d := some 34) ⟨_, rfl, rfl, by rfl⟩ (by kernel_rfl) (by kernel_rfl) (by kernel_rfl) (fun _ _ _ h => h) (by assumption) ?_
          try simp only [Act.put, List.setIfInBounds_toArray, List.set_cons_zero, List.set_cons_succ]
          refine skipH (i := 25) (d := some 35) ⟨_, rfl, rfl, by rfl⟩ (by kernel_rfl) (by kernel_rfl) (by kernel_rfl) (fun _ _ _ h => h) (by assumption) ?_
          try simp only [Act.put, List.setIfInBounds_toArray, List.set_cons_zero, List.set_cons_succ]
          refine takeH (i := 26) (d := some 36) (v := ?_) _ rfl rfl (by rfl) (by kernel_rfl) (by kernel_rfl) (by kernel_rfl) (fun _ _ _ h => h) (by assumption) ?_ ?_
          rotate_left
          · (intro w' hSw; (try dsimp only at hSw); go_simp; try (with_reducible rfl))
          try simp only [Act.put, List.setIfInBounds_toArray, List.set_cons_zero, List.set_cons_succ]
          refine takeH (i := 27) (d := some 2) (v := ?_) _ rfl rfl (by rfl) (by kernel_rfl) (by kernel_rfl) (by kernel_rfl) (fun _ _ _ h => h) (by assumption) ?_ ?_
          rotate_left
          · (intro w' hSw; (try dsimp only at hSw); go_simp; try (with_reducible rfl))
          try simp only [Act.put, List.setIfInBounds_toArray, List.set_cons_zero, List.set_cons_succ]
          refine wpAnyH_done (by kernel_rfl) ?_ _
          go_simp
          go_wp2_with fail
          refine bodyPost_ret (v := _) (by simp [results, Try.results44, go_sem]; rfl) rfl ?_
          rw [HB.out]
          exact ⟨rfl, kk⟩
        · clear hx hy
          skip
          try clear cA0 cA1 cA2 cA3 cA4 cA5 cA6 cA7 cA8
          obtain ⟨cA0, cA1, cA2, cA3, cA4, cA5, cA6, cA7, cA8⟩ := row9c hA
          refine wp_region_held_drew (S := (fun w' => w'.cell? ⟨w.heap.size, 0, none⟩ = some (.int .u64 (w0 (x) : Nat)) ∧ w'.cell? ⟨w.heap.size, 1, none⟩ = some (.int .u64 (w1 (x) : Nat)) ∧ w'.cell? ⟨w.heap.size, 2, none⟩ = some (.int .u64 (w2 (x) : Nat)) ∧ w'.cell? ⟨w.heap.size, 3, none⟩ = some (.int .u64 (w3 (x) : Nat)) ∧ w'.cell? ⟨w.heap.size, 4, none⟩ = some (.int .u64 (w0 (y) : Nat)) ∧ w'.cell? ⟨w.heap.size, 5, none⟩ = some (.int .u64 (w1 (y) : Nat)) ∧ w'.cell? ⟨w.heap.size, 6, none⟩ = some (.int .u64 (w2 (y) : Nat)) ∧ w'.cell? ⟨w.heap.size, 7, none⟩ = some (.int .u64 (w3 (y) : Nat)) ∧ w'.cell? ⟨w.heap.size, 8, none⟩ = some (.bool false))) (by kernel_rfl) (by (try dsimp only); first | (with_reducible exact ⟨cA0, cA1, cA2, cA3, cA4, cA5, cA6, cA7, cA8⟩) | exact ⟨cA0, cA1, cA2, cA3, cA4, cA5, cA6, cA7, cA8⟩ | go_keep) (fun hHeld => ?_)
          refine takeH (i := 0) (d := some 10) (v := ?_) _ rfl rfl (by rfl) (by kernel_rfl) (by kernel_rfl) (by kernel_rfl) (fun _ _ _ h => h) (by assumption) ?_ ?_
          rotate_left
          · (intro w' hSw; (try dsimp only at hSw); go_simp; try (with_reducible rfl))
          try simp only [Act.put, List.setIfInBounds_toArray, List.set_cons_zero, List.set_cons_succ]
          refine takeH (i := 1) (d := some 11) (v := ?_) _ rfl rfl (by rfl) (by kernel_rfl) (by kernel_rfl) (by kernel_rfl) (fun _ _ _ h => h) (by assumption) ?_ ?_
          rotate_left
          · (intro w' hSw; (try dsimp only at hSw); go_simp; try (with_reducible rfl))
          try simp only [Act.put, List.setIfInBounds_toArray, List.set_cons_zero, List.set_cons_succ]
          refine takeH (i := 2) (d := some 12) (v := ?_) _ rfl rfl (by rfl) (by kernel_rfl) (by kernel_rfl) (by kernel_rfl) (fun _ _ _ h => h) (by assumption) ?_ ?_
          rotate_left
          · (intro w' hSw; (try dsimp only at hSw); go_simp; try (with_reducible rfl))
          try simp only [Act.put, List.setIfInBounds_toArray, List.set_cons_zero, List.set_cons_succ]
          refine callH (i := 3) _ rfl (by rfl) (by kernel_rfl) (fun K hK => ?_)
          go_simp
          (go_at_call 30; refine (modulus_any _ (show IsF _ (g) (PP) from (by first | exact fF | exact ⟨fF.blk, fF.odd, fF.three, fF.lt⟩ | exact ⟨ak fF.blk, fF.odd, fF.three, fF.lt⟩ | exact ⟨ak (ak fF.blk), fF.odd, fF.three, fF.lt⟩))).mono ?_; rintro e W ⟨rfl, hb⟩; (first | replace hA := below_get hb hA | replace hA := below_get hb (ak hA)); (first | replace hQ := below_get hb hQ | replace hQ := below_get hb (ak hQ)); (replace kk := bcl (by first | exact kk | exact kk.drew | exact bal kk _ | exact (bal kk _).drew) hb); (replace fF := IsF.of HF.out hQ); (try clear cA0 cA1 cA2 cA3 cA4 cA5 cA6 cA7 cA8); (obtain ⟨cA0, cA1, cA2, cA3, cA4, cA5, cA6, cA7, cA8⟩ := row9c hA); clear hb)
          try go_wp2_with fail
          refine hK.out _ _ (by (try dsimp only); first | (with_reducible exact ⟨cA0, cA1, cA2, cA3, cA4, cA5, cA6, cA7, cA8⟩) | exact ⟨cA0, cA1, cA2, cA3, cA4, cA5, cA6, cA7, cA8⟩ | go_keep) (fun hHeld => ?_)
          clear hK K
          try simp only [Act.put, List.setIfInBounds_toArray, List.set_cons_zero, List.set_cons_succ]
          refine callH (i := 4) _ rfl (by rfl) (by kernel_rfl) (fun K hK => ?_)
          go_simp
          (go_at_call 50; refine (cmp_any (by first | exact W4.mk' hla.out | exact W4.mk' hlb.out | exact W4.mk' HM.out | exact W4.mk' (Nat.lt_trans (Nat.mod_lt _ hpos) HM.out) | exact W4.small (n := 1) rfl (by decide) | exact W4.small (n := 2) rfl (by decide) | exact W4.small (n := 3) rfl (by decide) | exact W4.small (n := 4) rfl (by decide) | exact W4.small (n := 5) rfl (by decide) | exact W4.small (n := 7) rfl (by decide)) (by first | exact W4.mk' hla.out | exact W4.mk' hlb.out | exact W4.mk' HM.out | exact W4.mk' (Nat.lt_trans (Nat.mod_lt _ hpos) HM.out) | exact W4.small (n := 1) rfl (by decide) | exact W4.small (n := 2) rfl (by decide) | exact W4.small (n := 3) rfl (by decide) | exact W4.small (n := 4) rfl (by decide) | exact W4.small (n := 5) rfl (by decide) | exact W4.small (n := 7) rfl (by decide)) _).mono ?_; rintro e W ⟨rfl, hb⟩; (first | replace hA := below_get hb hA | replace hA := below_get hb (ak hA)); (first | replace hQ := below_get hb hQ | replace hQ := below_get hb (ak hQ)); (replace kk := bcl (by first | exact kk | exact kk.drew | exact bal kk _ | exact (bal kk _).drew) hb); (replace fF := IsF.of HF.out hQ); (try clear cA0 cA1 cA2 cA3 cA4 cA5 cA6 cA7 cA8); (obtain ⟨cA0, cA1, cA2, cA3, cA4, cA5, cA6, cA7, cA8⟩ := row9c hA); clear hb; (first | rw [hcx] | rw [hcy]))
          try go_wp2_with fail
          refine hK.out _ _ (by (try dsimp only); first | (with_reducible exact ⟨cA0, cA1, cA2, cA3, cA4, cA5, cA6, cA7, cA8⟩) | exact ⟨cA0, cA1, cA2, cA3, cA4, cA5, cA6, cA7, cA8⟩ | go_keep) (fun hHeld => ?_)
          clear hK K
          try simp only [Act.put, List.setIfInBounds_toArray, List.set_cons_zero, List.set_cons_succ]
          refine takeH (i := 5) (d := some 15) (v := ?_) _ rfl rfl (by rfl) (by kernel_rfl) (by kernel_rfl) (by kernel_rfl) (fun _ _ _ h => h) (by assumption) ?_ ?_
          rotate_left
          · (intro w' hSw; (try dsimp only at hSw); go_simp; try (with_reducible rfl))
          try simp only [Act.put, List.setIfInBounds_toArray, List.set_cons_zero, List.set_cons_succ]
          refine takeH (i := 6) (d := some 16) (v := ?_) _ rfl rfl (by rfl) (by kernel_rfl) (by kernel_rfl) (by kernel_rfl) (fun _ _ _ h => h) (by assumption) ?_ ?_
          rotate_left
          · (intro w' hSw; (try dsimp only at hSw); go_simp; try (with_reducible rfl))
          try simp only [Act.put, List.setIfInBounds_toArray, List.set_cons_zero, List.set_cons_succ]
          refine takeH (i := 7) (d := some 17) (v := ?_) _ rfl rfl (by rfl) (by kernel_rfl) (by kernel_rfl) (by kernel_rfl) (fun _ _ _ h => h) (by assumption) ?_ ?_
          rotate_left
          · (intro w' hSw; (try dsimp only at hSw); go_simp; try (with_reducible rfl))
          try simp only [Act.put, List.setIfInBounds_toArray, List.set_cons_zero, List.set_cons_succ]
          refine takeH (i := 8) (d := some 18) (v := ?_) _ rfl rfl (by rfl) (by kernel_rfl) (by kernel_rfl) (by kernel_rfl) (fun _ _ _ h => h) (by assumption) ?_ ?_
          rotate_left
          · (intro w' hSw; (try dsimp only at hSw); go_simp; try (with_reducible rfl))
          try simp only [Act.put, List.setIfInBounds_toArray, List.set_cons_zero, List.set_cons_succ]
          refine takeH (i := 9) (d := some 19) (v := ?_) _ rfl rfl (by rfl) (by kernel_rfl) (by kernel_rfl) (by kernel_rfl) (fun _ _ _ h => h) (by assumption) ?_ ?_
          rotate_left
          · (intro w' hSw; (try dsimp only at hSw); go_simp; try (with_reducible rfl))
          try simp only [Act.put, List.setIfInBounds_toArray, List.set_cons_zero, List.set_cons_succ]
          refine callH (i := 10) _ rfl (by rfl) (by kernel_rfl) (fun K hK => ?_)
          go_simp
          (go_at_call 30; refine (modulus_any _ (show IsF _ (g) (PP) from (by first | exact fF | exact ⟨fF.blk, fF.odd, fF.three, fF.lt⟩ | exact ⟨ak fF.blk, fF.odd, fF.three, fF.lt⟩ | exact ⟨ak (ak fF.blk), fF.odd, fF.three, fF.lt⟩))).mono ?_; rintro e W ⟨rfl, hb⟩; (first | replace hA := below_get hb hA | replace hA := below_get hb (ak hA)); (first | replace hQ := below_get hb hQ | replace hQ := below_get hb (ak hQ)); (replace kk := bcl (by first | exact kk | exact kk.drew | exact bal kk _ | exact (bal kk _).drew) hb); (replace fF := IsF.of HF.out hQ); (try clear cA0 cA1 cA2 cA3 cA4 cA5 cA6 cA7 cA8); (obtain ⟨cA0, cA1, cA2, cA3, cA4, cA5, cA6, cA7, cA8⟩ := row9c hA); clear hb)
          try go_wp2_with fail
          refine hK.out _ _ (by (try dsimp only); first | (with_reducible exact ⟨cA0, cA1, cA2, cA3, cA4, cA5, cA6, cA7, cA8⟩) | exact ⟨cA0, cA1, cA2, cA3, cA4, cA5, cA6, cA7, cA8⟩ | go_keep) (fun hHeld => ?_)
          clear hK K
          try simp only [Act.put, List.setIfInBounds_toArray, List.set_cons_zero, List.set_cons_succ]
          refine callH (i := 11) _ rfl (by rfl) (by kernel_rfl) (fun K hK => ?_)
          go_simp
          (go_at_call 50; refine (cmp_any (by first | exact W4.mk' hla.out | exact W4.mk' hlb.out | exact W4.mk' HM.out | exact W4.mk' (Nat.lt_trans (Nat.mod_lt _ hpos) HM.out) | exact W4.small (n := 1) rfl (by decide) | exact W4.small (n := 2) rfl (by decide) | exact W4.small (n := 3) rfl (by decide) | exact W4.small (n := 4) rfl (by decide) | exact W4.small (n := 5) rfl (by decide) | exact W4.small (n := 7) rfl (by decide)) (by first | exact W4.mk' hla.out | exact W4.mk' hlb.out | exact W4.mk' HM.out | exact W4.mk' (Nat.lt_trans (Nat.mod_lt _ hpos) HM.out) | exact W4.small (n := 1) rfl (by decide) | exact W4.small (n := 2) rfl (by decide) | exact W4.small (n := 3) rfl (by decide) | exact W4.small (n := 4) rfl (by decide) | exact W4.small (n := 5) rfl (by decide) | exact W4.small (n := 7) rfl (by decide)) _).mono ?_; rintro e W ⟨rfl, hb⟩; (first | replace hA := below_get hb hA | replace hA := below_get hb (ak hA)); (first | replace hQ := below_get hb hQ | replace hQ := below_get hb (ak hQ)); (replace kk := bcl (by first | exact kk | exact kk.drew | exact bal kk _ | exact (bal kk _).drew) hb); (replace fF := IsF.of HF.out hQ); (try clear cA0 cA1 cA2 cA3 cA4 cA5 cA6 cA7 cA8); (obtain ⟨cA0, cA1, cA2, cA3, cA4, cA5, cA6, cA7, cA8⟩ := row9c hA); clear hb; (first | rw [hcx] | rw [hcy]))
          try go_wp2_with fail
          refine hK.out _ _ (by (try dsimp only); first | (with_reducible exact ⟨cA0, cA1, cA2, cA3, cA4, cA5, cA6, cA7, cA8⟩) | exact ⟨cA0, cA1, cA2, cA3, cA4, cA5, cA6, cA7, cA8⟩ | go_keep) (fun hHeld => ?_)
          clear hK K
          try simp only [Act.put, List.setIfInBounds_toArray, List.set_cons_zero, List.set_cons_succ]
          refine takeH (i := 12) (d := some 22) (v := ?_) _ rfl rfl (by rfl) (by kernel_rfl) (by kernel_rfl) (by kernel_rfl) (fun _ _ _ h => h) (by assumption) ?_ ?_
          rotate_left
          · (intro w' hSw; (try dsimp only at hSw); go_simp; try (with_reducible rfl))
          try simp only [Act.put, List.setIfInBounds_toArray, List.set_cons_zero, List.set_cons_succ]
          refine takeH (i := 13) (d := some 23) (v := ?_) _ rfl rfl (by rfl) (by kernel_rfl) (by kernel_rfl) (by kernel_rfl) (fun _ _ _ h => h) (by assumption) ?_ ?_
          rotate_left
          · (intro w' hSw; (try dsimp only at hSw); go_simp; try (with_reducible rfl))
          try simp only [Act.put, List.setIfInBounds_toArray, List.set_cons_zero, List.set_cons_succ]
          refine takeH (i := 14) (d := some 24) (v := ?_) _ rfl rfl (by rfl) (by kernel_rfl) (by kernel_rfl) (by kernel_rfl) (fun _ _ _ h => h) (by assumption) ?_ ?_
          rotate_left
          · (intro w' hSw; (try dsimp only at hSw); go_simp; try (with_reducible rfl))
          try simp only [Act.put, List.setIfInBounds_toArray, List.set_cons_zero, List.set_cons_succ]
          refine skipH (i := 15) (d := some 25) ⟨_, rfl, rfl, by rfl⟩ (by kernel_rfl) (by kernel_rfl) (by kernel_rfl) (fun _ _ _ h => h) (by assumption) ?_
          try simp only [Act.put, List.setIfInBounds_toArray, List.set_cons_zero, List.set_cons_succ]
          refine skipH (i := 16) (d := some 26) ⟨_, rfl, rfl, by rfl⟩ (by kernel_rfl) (by kernel_rfl) (by kernel_rfl) (fun _ _ _ h => h) (by assumption) ?_
          try simp only [Act.put, List.setIfInBounds_toArray, List.set_cons_zero, List.set_cons_succ]
          refine skipH (i := 17) (d := some 27) ⟨_, rfl, rfl, by rfl⟩ (by kernel_rfl) (by kernel_rfl) (by kernel_rfl) (fun _ _ _ h => h) (by assumption) ?_
          try simp only [Act.put, List.setIfInBounds_toArray, List.set_cons_zero, List.set_cons_succ]
          refine skipH (i := 18) (d := some 28) ⟨_, rfl, rfl, by rfl⟩ (by kernel_rfl) (by kernel_rfl) (by kernel_rfl) (fun _ _ _ h => h) (by assumption) ?_
          try simp only [Act.put, List.setIfInBounds_toArray, List.set_cons_zero, List.set_cons_succ]
          refine skipH (i := 19) (d := some 29) ⟨_, rfl, rfl, by rfl⟩ (by kernel_rfl) (by kernel_rfl) (by kernel_rfl) (fun _ _ _ h => h) (by assumption) ?_
          try simp only [Act.put, List.setIfInBounds_toArray, List.set_cons_zero, List.set_cons_succ]
          refine skipH (i := 20) (d := some 30) ⟨_, rfl, rfl, by rfl⟩ (by kernel_rfl) (by kernel_rfl) (by kernel_rfl) (fun _ _ _ h => h) (by assumption) ?_
          try simp only [Act.put, List.setIfInBounds_toArray, List.set_cons_zero, List.set_cons_succ]
          refine skipH (i := 21) (d := some 31) ⟨_, rfl, rfl, by rfl⟩ (by kernel_rfl) (by kernel_rfl) (by kernel_rfl) (fun _ _ _ h => h) (by assumption) ?_
          try simp only [Act.put, List.setIfInBounds_toArray, List.set_cons_zero, List.set_cons_succ]
          refine skipH (i := 22) (d := some 32) ⟨_, rfl, rfl, by rfl⟩ (by kernel_rfl) (by kernel_rfl) (by kernel_rfl) (fun _ _ _ h => h) (by assumption) ?_
          try simp only [Act.put, List.setIfInBounds_toArray, List.set_cons_zero, List.set_cons_succ]
          refine skipH (i := 23) (d := some 33) ⟨_, rfl, rfl, by rfl⟩ (by kernel_rfl) (by kernel_rfl) (by kernel_rfl) (fun _ _ _ h => h) (by assumption) ?_
          try simp only [Act.put, List.setIfInBounds_toArray, List.set_cons_zero, List.set_cons_succ]
          refine skipH (i := 24) (d := some 34) ⟨_, rfl, rfl, by rfl⟩ (by kernel_rfl) (by kernel_rfl) (by kernel_rfl) (fun _ _ _ h => h) (by assumption) ?_
          try simp only [Act.put, List.setIfInBounds_toArray, List.set_cons_zero, List.set_cons_succ]
          refine skipH (i := 25) (d := some 35) ⟨_, rfl, rfl, by rfl⟩ (by kernel_rfl) (by kernel_rfl) (by kernel_rfl) (fun _ _ _ h => h) (by assumption) ?_
          try simp only [Act.put, List.setIfInBounds_toArray, List.set_cons_zero, List.set_cons_succ]
          refine takeH (i := 26) (d := some 36) (v := ?_) _ rfl rfl (by rfl) (by kernel_rfl) (by kernel_rfl) (by kernel_rfl) (fun _ _ _ h => h) (by assumption) ?_ ?_
          rotate_left
          · (intro w' hSw; (try dsimp only at hSw); go_simp; try (with_reducible rfl))
          try simp only [Act.put, List.setIfInBounds_toArray, List.set_cons_zero, List.set_cons_succ]
          refine takeH (i := 27) (d := some 2) (v := ?_) _ rfl rfl (by rfl) (by kernel_rfl) (by kernel_rfl) (by kernel_rfl) (fun _ _ _ h => h) (by assumption) ?_ ?_
          rotate_left
          · (intro w' hSw; (try dsimp only at hSw); go_simp; try (with_reducible rfl))
          try simp only [Act.put, List.setIfInBounds_toArray, List.set_cons_zero, List.set_cons_succ]
          refine wpAnyH_done (by kernel_rfl) ?_ _
          go_simp
          go_wp2_with fail
          refine bodyPost_ret (v := _) (by simp [results, Try.results44, go_sem]; rfl) rfl ?_
          rw [HB.out]
          exact ⟨rfl, kk⟩
    · have HB := Lib.hid (show onB x y false = false by unfold onB; rw [if_neg (by decide), decide_eq_false hx]; rfl)
      rcases cmp_one hx with hcx | hcx
      · clear hx
        skip
        try clear cA0 cA1 cA2 cA3 cA4 cA5 cA6 cA7 cA8
        obtain ⟨cA0, cA1, cA2, cA3, cA4, cA5, cA6, cA7, cA8⟩ := row9c hA
        refine wp_region_held_drew (S := (fun w' => w'.cell? ⟨w.heap.size, 0, none⟩ = some (.int .u64 (w0 (x) : Nat)) ∧ w'.cell? ⟨w.heap.size, 1, none⟩ = some (.int .u64 (w1 (x) : Nat)) ∧ w'.cell? ⟨w.heap.size, 2, none⟩ = some (.int .u64 (w2 (x) : Nat)) ∧ w'.cell? ⟨w.heap.size, 3, none⟩ = some (.int .u64 (w3 (x) : Nat)) ∧ w'.cell? ⟨w.heap.size, 4, none⟩ = some (.int .u64 (w0 (y) : Nat)) ∧ w'.cell? ⟨w.heap.size, 5, none⟩ = some (.int .u64 (w1 (y) : Nat)) ∧ w'.cell? ⟨w.heap.size, 6, none⟩ = some (.int .u64 (w2 (y) : Nat)) ∧ w'.cell? ⟨w.heap.size, 7, none⟩ = some (.int .u64 (w3 (y) : Nat)) ∧ w'.cell? ⟨w.heap.size, 8, none⟩ = some (.bool false))) (by kernel_rfl) (by (try dsimp only); first | (with_reducible exact ⟨cA0, cA1, cA2, cA3, cA4, cA5, cA6, cA7, cA8⟩) | exact ⟨cA0, cA1, cA2, cA3, cA4, cA5, cA6, cA7, cA8⟩ | go_keep) (fun hHeld => ?_)
        refine takeH (i := 0) (d := some 10) (v := ?_) _ rfl rfl (by rfl) (by kernel_rfl) (by kernel_rfl) (by kernel_rfl) (fun _ _ _ h => h) (by assumption) ?_ ?_
        rotate_left
        · (intro w' hSw; (try dsimp only at hSw); go_simp; try (with_reducible rfl))
        try simp only [Act.put, List.setIfInBounds_toArray, List.set_cons_zero, List.set_cons_succ]
        refine takeH (i := 1) (d := some 11) (v := ?_) _ rfl rfl (by rfl) (by kernel_rfl) (by kernel_rfl) (by kernel_rfl) (fun _ _ _ h => h) (by assumption) ?_ ?_
        rotate_left
        · (intro w' hSw; (try dsimp only at hSw); go_simp; try (with_reducible rfl))
        try simp only [Act.put, List.setIfInBounds_toArray, List.set_cons_zero, List.set_cons_succ]
        refine takeH (i := 2) (d := some 12) (v := ?_) _ rfl rfl (by rfl) (by kernel_rfl) (by kernel_rfl) (by kernel_rfl) (fun _ _ _ h => h) (by assumption) ?_ ?_
        rotate_left
        · (intro w' hSw; (try dsimp only at hSw); go_simp; try (with_reducible rfl))
        try simp only [Act.put, List.setIfInBounds_toArray, List.set_cons_zero, List.set_cons_succ]
        refine callH (i := 3) _ rfl (by rfl) (by kernel_rfl) (fun K hK => ?_)
        go_simp
        (go_at_call 30; refine (modulus_any _ (show IsF _ (g) (PP) from (by first | exact fF | exact ⟨fF.blk, fF.odd, fF.three, fF.lt⟩ | exact ⟨ak fF.blk, fF.odd, fF.three, fF.lt⟩ | exact ⟨ak (ak fF.blk), fF.odd, fF.three, fF.lt⟩))).mono ?_; rintro e W ⟨rfl, hb⟩; (first | replace hA := below_get hb hA | replace hA := below_get hb (ak hA)); (first | replace hQ := below_get hb hQ | replace hQ := below_get hb (ak hQ)); (replace kk := bcl (by first | exact kk | exact kk.drew | exact bal kk _ | exact (bal kk _).drew) hb); (replace fF := IsF.of HF.out hQ); (try clear cA0 cA1 cA2 cA3 cA4 cA5 cA6 cA7 cA8); (obtain ⟨cA0, cA1, cA2, cA3, cA4, cA5, cA6, cA7, cA8⟩ := row9c hA); clear hb)
        try go_wp2_with fail
        refine hK.out _ _ (by (try dsimp only); first | (with_reducible exact ⟨cA0, cA1, cA2, cA3, cA4, cA5, cA6, cA7, cA8⟩) | exact ⟨cA0, cA1, cA2, cA3, cA4, cA5, cA6, cA7, cA8⟩ | go_keep) (fun hHeld => ?_)
        clear hK K
        try simp only [Act.put, List.setIfInBounds_toArray, List.set_cons_zero, List.set_cons_succ]
        refine callH (i := 4) _ rfl (by rfl) (by kernel_rfl) (fun K hK => ?_)
        go_simp
        (go_at_call 50; refine (cmp_any (by first | exact W4.mk' hla.out | exact W4.mk' hlb.out | exact W4.mk' HM.out | exact W4.mk' (Nat.lt_trans (Nat.mod_lt _ hpos) HM.out) | exact W4.small (n := 1) rfl (by decide) | exact W4.small (n := 2) rfl (by decide) | exact W4.small (n := 3) rfl (by decide) | exact W4.small (n := 4) rfl (by decide) | exact W4.small (n := 5) rfl (by decide) | exact W4.small (n := 7) rfl (by decide)) (by first | exact W4.mk' hla.out | exact W4.mk' hlb.out | exact W4.mk' HM.out | exact W4.mk' (Nat.lt_trans (Nat.mod_lt _ hpos) HM.out) | exact W4.small (n := 1) rfl (by decide) | exact W4.small (n := 2) rfl (by decide) | exact W4.small (n := 3) rfl (by decide) | exact W4.small (n := 4) rfl (by decide) | exact W4.small (n := 5) rfl (by decide) | exact W4.small (n := 7) rfl (by decide)) _).mono ?_; rintro e W ⟨rfl, hb⟩; (first | replace hA := below_get hb hA | replace hA := below_get hb (ak hA)); (first | replace hQ := below_get hb hQ | replace hQ := below_get hb (ak hQ)); (replace kk := bcl (by first | exact kk | exact kk.drew | exact bal kk _ | exact (bal kk _).drew) hb); (replace fF := IsF.of HF.out hQ); (try clear cA0 cA1 cA2 cA3 cA4 cA5 cA6 cA7 cA8); (obtain ⟨cA0, cA1, cA2, cA3, cA4, cA5, cA6, cA7, cA8⟩ := row9c hA); clear hb; (first | rw [hcx]))
        try go_wp2_with fail
        refine hK.out _ _ (by (try dsimp only); first | (with_reducible exact ⟨cA0, cA1, cA2, cA3, cA4, cA5, cA6, cA7, cA8⟩) | exact ⟨cA0, cA1, cA2, cA3, cA4, cA5, cA6, cA7, cA8⟩ | go_keep) (fun hHeld => ?_)
        clear hK K
        try simp only [Act.put, List.setIfInBounds_toArray, List.set_cons_zero, List.set_cons_succ]
        refine takeH (i := 5) (d := some 15) (v := ?_) _ rfl rfl (by rfl) (by kernel_rfl) (by kernel_rfl) (by kernel_rfl) (fun _ _ _ h => h) (by assumption) ?_ ?_
        rotate_left
        · (intro w' hSw; (try dsimp only at hSw); go_simp; try (with_reducible rfl))
        try simp only [Act.put, List.setIfInBounds_toArray, List.set_cons_zero, List.set_cons_succ]
        refine takeH (i := 6) (d := some 16) (v := ?_) _ rfl rfl (by rfl) (by kernel_rfl) (by kernel_rfl) (by kernel_rfl) (fun _ _ _ h => h) (by assumption) ?_ ?_
        rotate_left
        · (intro w' hSw; (try dsimp only at hSw); go_simp; try (with_reducible rfl))
        try simp only [Act.put, List.setIfInBounds_toArray, List.set_cons_zero, List.set_cons_succ]
        refine skipH (i := 7) (d := some 17) ⟨_, rfl, rfl, by rfl⟩ (by kernel_rfl) (by kernel_rfl) (by kernel_rfl) (fun _ _ _ h => h) (by assumption) ?_
        try simp only [Act.put, List.setIfInBounds_toArray, List.set_cons_zero, List.set_cons_succ]
        refine skipH (i := 8) (d := some 18) ⟨_, rfl, rfl, by rfl⟩ (by kernel_rfl) (by kernel_rfl) (by kernel_rfl) (fun _ _ _ h => h) (by assumption) ?_
        try simp only [Act.put, List.setIfInBounds_toArray, List.set_cons_zero, List.set_cons_succ]
        refine skipH (i := 9) (d := some 19) ⟨_, rfl, rfl, by rfl⟩ (by kernel_rfl) (by kernel_rfl) (by kernel_rfl) (fun _ _ _ h => h) (by assumption) ?_
        try simp only [Act.put, List.setIfInBounds_toArray, List.set_cons_zero, List.set_cons_succ]
        refine skipH (i := 10) (d := some 20) ⟨_, rfl, rfl, by rfl⟩ (by kernel_rfl) (by kernel_rfl) (by kernel_rfl) (fun _ _ _ h => h) (by assumption) ?_
        try simp only [Act.put, List.setIfInBounds_toArray, List.set_cons_zero, List.set_cons_succ]
        refine skipH (i := 11) (d := some 21) ⟨_, rfl, rfl, by rfl⟩ (by kernel_rfl) (by kernel_rfl) (by kernel_rfl) (fun _ _ _ h => h) (by assumption) ?_
        try simp only [Act.put, List.setIfInBounds_toArray, List.set_cons_zero, List.set_cons_succ]
        refine skipH (i := 12) (d := some 22) ⟨_, rfl, rfl, by rfl⟩ (by kernel_rfl) (by kernel_rfl) (by kernel_rfl) (fun _ _ _ h => h) (by assumption) ?_
        try simp only [Act.put, List.setIfInBounds_toArray, List.set_cons_zero, List.set_cons_succ]
        refine takeH (i := 13) (d := some 23) (v := ?_) _ rfl rfl (by rfl) (by kernel_rfl) (by kernel_rfl) (by kernel_rfl) (fun _ _ _ h => h) (by assumption) ?_ ?_
        rotate_left
        · (intro w' hSw; (try dsimp only at hSw); go_simp; try (with_reducible rfl))
        try simp only [Act.put, List.setIfInBounds_toArray, List.set_cons_zero, List.set_cons_succ]
        refine takeH (i := 14) (d := some 24) (v := ?_) _ rfl rfl (by rfl) (by kernel_rfl) (by kernel_rfl) (by kernel_rfl) (fun _ _ _ h => h) (by assumption) ?_ ?_
        rotate_left
        · (intro w' hSw; (try dsimp only at hSw); go_simp; try (with_reducible rfl))
        try simp only [Act.put, List.setIfInBounds_toArray, List.set_cons_zero, List.set_cons_succ]
        refine skipH (i := 15) (d := some 25) ⟨_, rfl, rfl, by rfl⟩ (by kernel_rfl) (by kernel_rfl) (by kernel_rfl) (fun _ _ _ h => h) (by assumption) ?_
        try simp only [Act.put, List.setIfInBounds_toArray, List.set_cons_zero, List.set_cons_succ]
        refine skipH (i := 16) (d := some 26) ⟨_, rfl, rfl, by rfl⟩ (by kernel_rfl) (by kernel_rfl) (by kernel_rfl) (fun _ _ _ h => h) (by assumption) ?_
        try simp only [Act.put, List.setIfInBounds_toArray, List.set_cons_zero, List.set_cons_succ]
        refine skipH (i := 17) (d := some 27) ⟨_, rfl, rfl, by rfl⟩ (by kernel_rfl) (by kernel_rfl) (by kernel_rfl) (fun _ _ _ h => h) (by assumption) ?_
        try simp only [Act.put, List.setIfInBounds_toArray, List.set_cons_zero, List.set_cons_succ]
        refine skipH (i := 18) (d := some 28) ⟨_, rfl, rfl, by rfl⟩ (by kernel_rfl) (by kernel_rfl) (by kernel_rfl) (fun _ _ _ h => h) (by assumption) ?_
        try simp only [Act.put, List.setIfInBounds_toArray, List.set_cons_zero, List.set_cons_succ]
        refine skipH (i := 19) (d := some 29) ⟨_, rfl, rfl, by rfl⟩ (by kernel_rfl) (by kernel_rfl) (by kernel_rfl) (fun _ _ _ h => h) (by assumption) ?_
        try simp only [Act.put, List.setIfInBounds_toArray, List.set_cons_zero, List.set_cons_succ]
        refine skipH (i := 20) (d := some 30) ⟨_, rfl, rfl, by rfl⟩ (by kernel_rfl) (by kernel_rfl) (by kernel_rfl) (fun _ _ _ h => h) (by assumption) ?_
        try simp only [Act.put, List.setIfInBounds_toArray, List.set_cons_zero, List.set_cons_succ]
        refine skipH (i := 21) (d := some 31) ⟨_, rfl, rfl, by rfl⟩ (by kernel_rfl) (by kernel_rfl) (by kernel_rfl) (fun _ _ _ h => h) (by assumption) ?_
        try simp only [Act.put, List.setIfInBounds_toArray, List.set_cons_zero, List.set_cons_succ]
        refine skipH (i := 22) (d := some 32) ⟨_, rfl, rfl, by rfl⟩ (by kernel_rfl) (by kernel_rfl) (by kernel_rfl) (fun _ _ _ h => h) (by assumption) ?_
        try simp only [Act.put, List.setIfInBounds_toArray, List.set_cons_zero, List.set_cons_succ]
        refine skipH (i := 23) (d := some 33) ⟨_, rfl, rfl, by rfl⟩ (by kernel_rfl) (by kernel_rfl) (by kernel_rfl) (fun _ _ _ h => h) (by assumption) ?_
        try simp only [Act.put, List.setIfInBounds_toArray, List.set_cons_zero, List.set_cons_succ]
        refine skipH (i := 24) (d := some 34) ⟨_, rfl, rfl, by rfl⟩ (by kernel_rfl) (by kernel_rfl) (by kernel_rfl) (fun _ _ _ h => h) (by assumption) ?_
        try simp only [Act.put, List.setIfInBounds_toArray, List.set_cons_zero, List.set_cons_succ]
        refine skipH (i := 25) (d := some 35) ⟨_, rfl, rfl, by rfl⟩ (by kernel_rfl) (by kernel_rfl) (by kernel_rfl) (fun _ _ _ h => h) (by assumption) ?_
        try simp only [Act.put, List.setIfInBounds_toArray, List.set_cons_zero, List.set_cons_succ]
        refine takeH (i := 26) (d := some 36) (v := ?_) _ rfl rfl (by rfl) (by kernel_rfl) (by kernel_rfl) (by kernel_rfl) (fun _ _ _ h => h) (by assumption) ?_ ?_
        rotate_left
        · (intro w' hSw; (try dsimp only at hSw); go_simp; try (with_reducible rfl))
        try simp only [Act.put, List.setIfInBounds_toArray, List.set_cons_zero, List.set_cons_succ]
        refine takeH (i := 27) (d := some 2) (v := ?_) _ rfl rfl (by rfl) (by kernel_rfl) (by kernel_rfl) (by kernel_rfl) (fun _ _ _ h => h) (by assumption) ?_ ?_
        rotate_left
        · (intro w' hSw; (try dsimp only at hSw); go_simp; try (with_reducible rfl))
        try simp only [Act.put, List.setIfInBounds_toArray, List.set_cons_zero, List.set_cons_succ]
        refine wpAnyH_done (by kernel_rfl) ?_ _
        go_simp
        go_wp2_with fail
        refine bodyPost_ret (v := _) (by simp [results, Try.results44, go_sem]; rfl) rfl ?_
        rw [HB.out]
        exact ⟨rfl, kk⟩
      · clear hx
        skip
        try clear cA0 cA1 cA2 cA3 cA4 cA5 cA6 cA7 cA8
        obtain ⟨cA0, cA1, cA2, cA3, cA4, cA5, cA6, cA7, cA8⟩ := row9c hA
        refine wp_region_held_drew (S := (fun w' => w'.cell? ⟨w.heap.size, 0, none⟩ = some (.int .u64 (w0 (x) : Nat)) ∧ w'.cell? ⟨w.heap.size, 1, none⟩ = some (.int .u64 (w1 (x) : Nat)) ∧ w'.cell? ⟨w.heap.size, 2, none⟩ = some (.int .u64 (w2 (x) : Nat)) ∧ w'.cell? ⟨w.heap.size, 3, none⟩ = some (.int .u64 (w3 (x) : Nat)) ∧ w'.cell? ⟨w.heap.size, 4, none⟩ = some (.int .u64 (w0 (y) : Nat)) ∧ w'.cell? ⟨w.heap.size, 5, none⟩ = some (.int .u64 (w1 (y) : Nat)) ∧ w'.cell? ⟨w.heap.size, 6, none⟩ = some (.int .u64 (w2 (y) : Nat)) ∧ w'.cell? ⟨w.heap.size, 7, none⟩ = some (.int .u64 (w3 (y) : Nat)) ∧ w'.cell? ⟨w.heap.size, 8, none⟩ = some (.bool false))) (by kernel_rfl) (by (try dsimp only); first | (with_reducible exact ⟨cA0, cA1, cA2, cA3, cA4, cA5, cA6, cA7, cA8⟩) | exact ⟨cA0, cA1, cA2, cA3, cA4, cA5, cA6, cA7, cA8⟩ | go_keep) (fun hHeld => ?_)
        refine takeH (i := 0) (d := some 10) (v := ?_) _ rfl rfl (by rfl) (by kernel_rfl) (by kernel_rfl) (by kernel_rfl) (fun _ _ _ h => h) (by assumption) ?_ ?_
        rotate_left
        · (intro w' hSw; (try dsimp only at hSw); go_simp; try (with_reducible rfl))
        try simp only [Act.put, List.setIfInBounds_toArray, List.set_cons_zero, List.set_cons_succ]
        refine takeH (i := 1) (d := some 11) (v := ?_) _ rfl rfl (by rfl) (by kernel_rfl) (by kernel_rfl) (by kernel_rfl) (fun _ _ _ h => h) (by assumption) ?_ ?_
        rotate_left
        · (intro w' hSw; (try dsimp only at hSw); go_simp; try (with_reducible rfl))
        try simp only [Act.put, List.setIfInBounds_toArray, List.set_cons_zero, List.set_cons_succ]
        refine takeH (i := 2) (d := some 12) (v := ?_) _ rfl rfl (by rfl) (by kernel_rfl) (by kernel_rfl) (by kernel_rfl) (fun _ _ _ h => h) (by assumption) ?_ ?_
        rotate_left
        · (intro w' hSw; (try dsimp only at hSw); go_simp; try (with_reducible rfl))
        try simp only [Act.put, List.setIfInBounds_toArray, List.set_cons_zero, List.set_cons_succ]
        refine callH (i := 3) _ rfl (by rfl) (by kernel_rfl) (fun K hK => ?_)
        go_simp
        (go_at_call 30; refine (modulus_any _ (show IsF _ (g) (PP) from (by first | exact fF | exact ⟨fF.blk, fF.odd, fF.three, fF.lt⟩ | exact ⟨ak fF.blk, fF.odd, fF.three, fF.lt⟩ | exact ⟨ak (ak fF.blk), fF.odd, fF.three, fF.lt⟩))).mono ?_; rintro e W ⟨rfl, hb⟩; (first | replace hA := below_get hb hA | replace hA := below_get hb (ak hA)); (first | replace hQ := below_get hb hQ | replace hQ := below_get hb (ak hQ)); (replace kk := bcl (by first | exact kk | exact kk.drew | exact bal kk _ | exact (bal kk _).drew) hb); (replace fF := IsF.of HF.out hQ); (try clear cA0 cA1 cA2 cA3 cA4 cA5 cA6 cA7 cA8); (obtain ⟨cA0, cA1, cA2, cA3, cA4, cA5, cA6, cA7, cA8⟩ := row9c hA); clear hb)
        try go_wp2_with fail
        refine hK.out _ _ (by (try dsimp only); first | (with_reducible exact ⟨cA0, cA1, cA2, cA3, cA4, cA5, cA6, cA7, cA8⟩) | exact ⟨cA0, cA1, cA2, cA3, cA4, cA5, cA6, cA7, cA8⟩ | go_keep) (fun hHeld => ?_)
        clear hK K
        try simp only [Act.put, List.setIfInBounds_toArray, List.set_cons_zero, List.set_cons_succ]
        refine callH (i := 4) _ rfl (by rfl) (by kernel_rfl) (fun K hK => ?_)
        go_simp
        (go_at_call 50; refine (cmp_any (by first | exact W4.mk' hla.out | exact W4.mk' hlb.out | exact W4.mk' HM.out | exact W4.mk' (Nat.lt_trans (Nat.mod_lt _ hpos) HM.out) | exact W4.small (n := 1) rfl (by decide) | exact W4.small (n := 2) rfl (by decide) | exact W4.small (n := 3) rfl (by decide) | exact W4.small (n := 4) rfl (by decide) | exact W4.small (n := 5) rfl (by decide) | exact W4.small (n := 7) rfl (by decide)) (by first | exact W4.mk' hla.out | exact W4.mk' hlb.out | exact W4.mk' HM.out | exact W4.mk' (Nat.lt_trans (Nat.mod_lt _ hpos) HM.out) | exact W4.small (n := 1) rfl (by decide) | exact W4.small (n := 2) rfl (by decide) | exact W4.small (n := 3) rfl (by decide) | exact W4.small (n := 4) rfl (by decide) | exact W4.small (n := 5) rfl (by decide) | exact W4.small (n := 7) rfl (by decide)) _).mono ?_; rintro e W ⟨rfl, hb⟩; (first | replace hA := below_get hb hA | replace hA := below_get hb (ak hA)); (first | replace hQ := below_get hb hQ | replace hQ := below_get hb (ak hQ)); (replace kk := bcl (by first | exact kk | exact kk.drew | exact bal kk _ | exact (bal kk _).drew) hb); (replace fF := IsF.of HF.out hQ); (try clear cA0 cA1 cA2 cA3 cA4 cA5 cA6 cA7 cA8); (obtain ⟨cA0, cA1, cA2, cA3, cA4, cA5, cA6, cA7, cA8⟩ := row9c hA); clear hb; (first | rw [hcx]))
        try go_wp2_with fail
        refine hK.out _ _ (by (try dsimp only); first | (with_reducible exact ⟨cA0, cA1, cA2, cA3, cA4, cA5, cA6, cA7, cA8⟩) | exact ⟨cA0, cA1, cA2, cA3, cA4, cA5, cA6, cA7, cA8⟩ | go_keep) (fun hHeld => ?_)
        clear hK K
        try simp only [Act.put, List.setIfInBounds_toArray, List.set_cons_zero, List.set_cons_succ]
        refine takeH (i := 5) (d := some 15) (v := ?_) _ rfl rfl (by rfl) (by kernel_rfl) (by kernel_rfl) (by kernel_rfl) (fun _ _ _ h => h) (by assumption) ?_ ?_
        rotate_left
        · (intro w' hSw; (try dsimp only at hSw); go_simp; try (with_reducible rfl))
        try simp only [Act.put, List.setIfInBounds_toArray, List.set_cons_zero, List.set_cons_succ]
        refine takeH (i := 6) (d := some 16) (v := ?_) _ rfl rfl (by rfl) (by kernel_rfl) (by kernel_rfl) (by kernel_rfl) (fun _ _ _ h => h) (by assumption) ?_ ?_
        rotate_left
        · (intro w' hSw; (try dsimp only at hSw); go_simp; try (with_reducible rfl))
        try simp only [Act.put, List.setIfInBounds_toArray, List.set_cons_zero, List.set_cons_succ]
        refine skipH (i := 7) (d := some 17) ⟨_, rfl, rfl, by rfl⟩ (by kernel_rfl) (by kernel_rfl) (by kernel_rfl) (fun _ _ _ h => h) (by assumption) ?_
        try simp only [Act.put, List.setIfInBounds_toArray, List.set_cons_zero, List.set_cons_succ]
        refine skipH (i := 8) (d := some 18) ⟨_, rfl, rfl, by rfl⟩ (by kernel_rfl) (by kernel_rfl) (by kernel_rfl) (fun _ _ _ h => h) (by assumption) ?_
        try simp only [Act.put, List.setIfInBounds_toArray, List.set_cons_zero, List.set_cons_succ]
        refine skipH (i := 9) (d := some 19) ⟨_, rfl, rfl, by rfl⟩ (by kernel_rfl) (by kernel_rfl) (by kernel_rfl) (fun _ _ _ h => h) (by assumption) ?_
        try simp only [Act.put, List.setIfInBounds_toArray, List.set_cons_zero, List.set_cons_succ]
        refine skipH (i := 10) (d := some 20) ⟨_, rfl, rfl, by rfl⟩ (by kernel_rfl) (by kernel_rfl) (by kernel_rfl) (fun _ _ _ h => h) (by assumption) ?_
        try simp only [Act.put, List.setIfInBounds_toArray, List.set_cons_zero, List.set_cons_succ]
        refine skipH (i := 11) (d := some 21) ⟨_, rfl, rfl, by rfl⟩ (by kernel_rfl) (by kernel_rfl) (by kernel_rfl) (fun _ _ _ h => h) (by assumption) ?_
        try simp only [Act.put, List.setIfInBounds_toArray, List.set_cons_zero, List.set_cons_succ]
        refine skipH (i := 12) (d := some 22) ⟨_, rfl, rfl, by rfl⟩ (by kernel_rfl) (by kernel_rfl) (by kernel_rfl) (fun _ _ _ h => h) (by assumption) ?_
        try simp only [Act.put, List.setIfInBounds_toArray, List.set_cons_zero, List.set_cons_succ]
        refine takeH (i := 13) (d := some 23) (v := ?_) _ rfl rfl (by rfl) (by kernel_rfl) (by kernel_rfl) (by kernel_rfl) (fun _ _ _ h => h) (by assumption) ?_ ?_
        rotate_left
        · (intro w' hSw; (try dsimp only at hSw); go_simp; try (with_reducible rfl))
        try simp only [Act.put, List.setIfInBounds_toArray, List.set_cons_zero, List.set_cons_succ]
        refine takeH (i := 14) (d := some 24) (v := ?_) _ rfl rfl (by rfl) (by kernel_rfl) (by kernel_rfl) (by kernel_rfl) (fun _ _ _ h => h) (by assumption) ?_ ?_
        rotate_left
        · (intro w' hSw; (try dsimp only at hSw); go_simp; try (with_reducible rfl))
        try simp only [Act.put, List.setIfInBounds_toArray, List.set_cons_zero, List.set_cons_succ]
        refine skipH (i := 15) (d := some 25) ⟨_, rfl, rfl, by rfl⟩ (by kernel_rfl) (by kernel_rfl) (by kernel_rfl) (fun _ _ _ h => h) (by assumption) ?_
        try simp only [Act.put, List.setIfInBounds_toArray, List.set_cons_zero, List.set_cons_succ]
        refine skipH (i := 16) (d := some 26) ⟨_, rfl, rfl, by rfl⟩ (by kernel_rfl) (by kernel_rfl) (by kernel_rfl) (fun _ _ _ h => h) (by assumption) ?_
        try simp only [Act.put, List.setIfInBounds_toArray, List.set_cons_zero, List.set_cons_succ]
        refine skipH (i := 17) (d := some 27) ⟨_, rfl, rfl, by rfl⟩ (by kernel_rfl) (by kernel_rfl) (by kernel_rfl) (fun _ _ _ h => h) (by assumption) ?_
        try simp only [Act.put, List.setIfInBounds_toArray, List.set_cons_zero, List.set_cons_succ]
        refine skipH (i := 18) (d := some 28) ⟨_, rfl, rfl, by rfl⟩ (by kernel_rfl) (by kernel_rfl) (by kernel_rfl) (fun _ _ _ h => h) (by assumption) ?_
        try simp only [Act.put, List.setIfInBounds_toArray, List.set_cons_zero, List.set_cons_succ]
        refine skipH (i := 19) (d := some 29) ⟨_, rfl, rfl, by rfl⟩ (by kernel_rfl) (by kernel_rfl) (by kernel_rfl) (fun _ _ _ h => h) (by assumption) ?_
        try simp only [Act.put, List.setIfInBounds_toArray, List.set_cons_zero, List.set_cons_succ]
        refine skipH (i := 20) (d := some 30) ⟨_, rfl, rfl, by rfl⟩ (by kernel_rfl) (by kernel_rfl) (by kernel_rfl) (fun _ _ _ h => h) (by assumption) ?_
        try simp only [Act.put, List.setIfInBounds_toArray, List.set_cons_zero, List.set_cons_succ]
        refine skipH (i := 21) (d := some 31) ⟨_, rfl, rfl, by rfl⟩ (by kernel_rfl) (by kernel_rfl) (by kernel_rfl) (fun _ _ _ h => h) (by assumption) ?_
        try simp only [Act.put, List.setIfInBounds_toArray, List.set_cons_zero, List.set_cons_succ]
        refine skipH (i := 22) (d := some 32) ⟨_, rfl, rfl, by rfl⟩ (by kernel_rfl) (by kernel_rfl) (by kernel_rfl) (fun _ _ _ h => h) (by assumption) ?_
        try simp only [Act.put, List.setIfInBounds_toArray, List.set_cons_zero, List.set_cons_succ]
        refine skipH (i := 23) (d := some 33) ⟨_, rfl, rfl, by rfl⟩ (by kernel_rfl) (by kernel_rfl) (by kernel_rfl) (fun _ _ _ h => h) (by assumption) ?_
        try simp only [Act.put, List.setIfInBounds_toArray, List.set_cons_zero, List.set_cons_succ]
        refine skipH (i := 24) (d := some 34) ⟨_, rfl, rfl, by rfl⟩ (by kernel_rfl) (by kernel_rfl) (by kernel_rfl) (fun _ _ _ h => h) (by assumption) ?_
        try simp only [Act.put, List.setIfInBounds_toArray, List.set_cons_zero, List.set_cons_succ]
        refine skipH (i := 25) (d := some 35) ⟨_, rfl, rfl, by rfl⟩ (by kernel_rfl) (by kernel_rfl) (by kernel_rfl) (fun _ _ _ h => h) (by assumption) ?_
        try simp only [Act.put, List.setIfInBounds_toArray, List.set_cons_zero, List.set_cons_succ]
        refine takeH (i := 26) (d := some 36) (v := ?_) _ rfl rfl (by rfl) (by kernel_rfl) (by kernel_rfl) (by kernel_rfl) (fun _ _ _ h => h) (by assumption) ?_ ?_
        rotate_left
        · (intro w' hSw; (try dsimp only at hSw); go_simp; try (with_reducible rfl))
        try simp only [Act.put, List.setIfInBounds_toArray, List.set_cons_zero, List.set_cons_succ]
        refine takeH (i := 27) (d := some 2) (v := ?_) _ rfl rfl (by rfl) (by kernel_rfl) (by kernel_rfl) (by kernel_rfl) (fun _ _ _ h => h) (by assumption) ?_ ?_
        rotate_left
        · (intro w' hSw; (try dsimp only at hSw); go_simp; try (with_reducible rfl))
        try simp only [Act.put, List.setIfInBounds_toArray, List.set_cons_zero, List.set_cons_succ]
        refine wpAnyH_done (by kernel_rfl) ?_ _
        go_simp
        go_wp2_with fail
        refine bodyPost_ret (v := _) (by simp [results, Try.results44, go_sem]; rfl) rfl ?_
        rw [HB.out]
        exact ⟨rfl, kk⟩
  · go_enter Try.func44, Try.ntmps44
    go_upto_region 1 with fail
    obtain ⟨V0, hW⟩ : ∃ V, w.alloc (.cells #[.int .u64 (w0 (x) : Nat), .int .u64 (w1 (x) : Nat), .int .u64 (w2 (x) : Nat), .int .u64 (w3 (x) : Nat), .int .u64 (w0 (y) : Nat), .int .u64 (w1 (y) : Nat), .int .u64 (w2 (y) : Nat), .int .u64 (w3 (y) : Nat), .bool true] 52) = V := ⟨_, rfl⟩
    rw [hW]
    have hA : V0.heap[w.heap.size]? = some (.cells #[.int .u64 (w0 (x) : Nat), .int .u64 (w1 (x) : Nat), .int .u64 (w2 (x) : Nat), .int .u64 (w3 (x) : Nat), .int .u64 (w0 (y) : Nat), .int .u64 (w1 (y) : Nat), .int .u64 (w2 (y) : Nat), .int .u64 (w3 (y) : Nat), .bool true] 52 (0, 0)) := by
      rw [← hW]; simp only [alloc_at, World.size_alloc]; repeat (first | rw [if_pos trivial] | rw [if_pos (by omega)] | rw [if_neg (by omega)])
    have kk : Below w.heap.size w V0 := by
      rw [← hW]
      repeat (first | exact Below.refl _ _ | refine Below.drew ?_ | refine bal ?_ _)
    clear hW
    obtain ⟨cA0, cA1, cA2, cA3, cA4, cA5, cA6, cA7, cA8⟩ := row9c hA
    obtain ⟨zA0, zA1, zA2, zA3, zA4, zA5, zA6, zA7, zA8⟩ := row9z hA
    have q := eql_np true true (onB x y true) (W4.mk' hla.out) (W4.mk' hlb.out) W4.zero W4.zero rfl
    go_wp2_with fail
    refine bodyPost_ret (v := _) (by simp [results, Try.results44, go_sem]; rfl) rfl ?_
    exact ⟨rfl, kk⟩
end Go.Proofs.Ytgghopmlcpcpkaa
