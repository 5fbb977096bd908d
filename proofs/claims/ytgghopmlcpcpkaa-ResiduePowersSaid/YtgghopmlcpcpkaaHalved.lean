/- A step of the proof: what a function of the program computes, or a plain law of numbers. -/
import Derived.Test.YtgghopmlcpcpkaaRoundFin
import Derived.StillTailTactics
import Derived.BigQuiet
import Derived.Deep.QuietTactic
import Derived.Deep.RegionWith
import Derived.Deep.RegionHeld3
import Derived.Laws.CopyOwn
namespace Go.Proofs.Ytgghopmlcpcpkaa
open Go.RowKit PlainK
set_option linter.unusedVariables false
set_option linter.unusedSimpArgs false

def finv1 (m : Nat) : Nat := ninv (w0 m)
def fsq (m : Nat) : Nat := 2 ^ 256 * 2 ^ 256 % m
theorem arrayAt4 (a : Addr) (cap : Nat) (w : World) : (Instr.arrayAt 24 (.slice (some a) 4 cap)).run Try.prog w = .ok (.pointer (some a)) w := by kernel_rfl
structure IsF (w : World) (b m : Nat) : Prop where
  blk : w.heap[b]? = some (.cells #[.int .u64 (w0 (m) : Nat), .int .u64 (w1 (m) : Nat), .int .u64 (w2 (m) : Nat), .int .u64 (w3 (m) : Nat), .int .u64 (finv1 m : Nat), .int .u64 (w0 (fsq m) : Nat), .int .u64 (w1 (fsq m) : Nat), .int .u64 (w2 (fsq m) : Nat), .int .u64 (w3 (fsq m) : Nat)] 90 (0, 0))
  odd : m % 2 = 1
  three : 3 ≤ m
  lt : m < 2 ^ 256
theorem lt_of_heap {w : World} {b : Nat} {o : Obj} (h : w.heap[b]? = some o) : b < w.heap.size := by
  apply Classical.byContradiction; intro hh
  rw [Array.getElem?_eq_none (by omega)] at h; cases h
theorem IsF.lt' {w : World} {b m : Nat} (h : IsF w b m) : b < w.heap.size := lt_of_heap h.blk
theorem IsF.keep {w w' : World} {b m : Nat} (h : IsF w b m) (k : Below w.heap.size w w') : IsF w' b m := ⟨(k.block b h.lt').trans h.blk, h.odd, h.three, h.lt⟩

theorem IsF.keepB {w w' : World} {b m B : Nat} (h : IsF w b m) (hB : b < B) (k : Below B w w') : IsF w' b m := ⟨(k.block b hB).trans h.blk, h.odd, h.three, h.lt⟩
structure IsM (w : World) (b m : Nat) : Prop where
  blk : ∃ v4 v5 v6 v7 v8 : Value, w.heap[b]? = some (.cells #[.int .u64 (w0 (m) : Nat), .int .u64 (w1 (m) : Nat), .int .u64 (w2 (m) : Nat), .int .u64 (w3 (m) : Nat), v4, v5, v6, v7, v8] 90 (0, 0))
  odd : m % 2 = 1
  three : 3 ≤ m
  lt : m < 2 ^ 256
theorem IsF.toM {w : World} {b m : Nat} (h : IsF w b m) : IsM w b m := ⟨⟨_, _, _, _, _, h.blk⟩, h.odd, h.three, h.lt⟩
def mT (m k a b : Nat) : Nat → Nat
  | 0 => 0
  | i + 1 => mround m k a (mT m k a b i) (wAt b i)
theorem mT_lt {m k a b : Nat} (hm : 0 < m) (ha : a < m) : ∀ i, mT m k a b i < 2 * m
  | 0 => by show 0 < 2 * m; omega
  | i + 1 => mround_lt (mT_lt hm ha i) ha (wAt_lt b i)
theorem mT_four (m k a b : Nat) : mT m k a b 4 = mhalf m k a b := rfl
theorem mont_fin {T m : Nat} (hT : T < 2 * m) (hm : m < 2 ^ 256) : (if 0 < T / 2 ^ 256 ∨ m ≤ T % 2 ^ 256 then subm (T % 2 ^ 256) m else T % 2 ^ 256) = T % m := by
  have e1 : m ≤ T → T % m = T - m := fun h => by rw [Nat.mod_eq_sub_mod h, Nat.mod_eq_of_lt (by omega)]
  have e2 : T < m → T % m = T := fun h => Nat.mod_eq_of_lt h
  unfold subm
  split
  · rw [e1 (by omega)]; omega
  · rw [e2 (by omega)]; omega
set_option maxRecDepth 100000 in
set_option maxHeartbeats 20000000 in
theorem halved_any {a0 a1 a2 a3 b0 b1 b2 b3 : Int} {a b m g : Nat} (ha : W4 a0 a1 a2 a3 a) (hb : W4 b0 b1 b2 b3 b) (w : World) (hF : IsF w g m) (ham : a < m) :
   Calls Try.prog 70 #[.pointer (some ⟨g, 0, none⟩), .agg #[.int .u64 a0, .int .u64 a1, .int .u64 a2, .int .u64 a3], .agg #[.int .u64 b0, .int .u64 b1, .int .u64 b2, .int .u64 b3]] w fun e w' =>
    e = .returned (.agg #[.int .u64 (w0 (mmont m (finv1 m) a b) : Nat), .int .u64 (w1 (mmont m (finv1 m) a b) : Nat), .int .u64 (w2 (mmont m (finv1 m) a b) : Nat), .int .u64 (w3 (mmont m (finv1 m) a b) : Nat)]) ∧ Below w.heap.size w w' := by
  obtain ⟨rfl, rfl, rfl, rfl, la⟩ := ha
  obtain ⟨rfl, rfl, rfl, rfl, lb⟩ := hb
  have hla := Lib.hid la
  have hlb := Lib.hid lb
  have HF := Lib.hid hF
  have HA := Lib.hid ham
  clear la lb ham hF
  go_enter Try.func70, Try.ntmps70
  go_wp2_with fail
  obtain ⟨V0, hV0⟩ : ∃ V, (((w.alloc (.cells #[.int .u64 (w0 (a) : Nat), .int .u64 (w1 (a) : Nat), .int .u64 (w2 (a) : Nat), .int .u64 (w3 (a) : Nat)] 24)).alloc (.cells #[.int .u64 (w0 (b) : Nat), .int .u64 (w1 (b) : Nat), .int .u64 (w2 (b) : Nat), .int .u64 (w3 (b) : Nat)] 24)).alloc (.cells #[.int .u64 0, .int .u64 0, .int .u64 0, .int .u64 0] 24)).alloc (.cells #[.int .u64 0, .int .u64 0, .int .u64 0, .int .u64 0, .int .u64 0, .int .u64 0] 121) = V := ⟨_, rfl⟩
  rw [hV0]
  have g0 : V0.heap[w.heap.size]? = some (.cells #[.int .u64 (w0 (a) : Nat), .int .u64 (w1 (a) : Nat), .int .u64 (w2 (a) : Nat), .int .u64 (w3 (a) : Nat)] 24 (0, 0)) := by
    rw [← hV0]; simp only [alloc_at, World.size_alloc]; repeat (first | rw [if_pos trivial] | rw [if_pos (by omega)] | rw [if_neg (by omega)])
  have g1 : V0.heap[w.heap.size + 1]? = some (.cells #[.int .u64 (w0 (b) : Nat), .int .u64 (w1 (b) : Nat), .int .u64 (w2 (b) : Nat), .int .u64 (w3 (b) : Nat)] 24 (0, 0)) := by
    rw [← hV0]; simp only [alloc_at, World.size_alloc]; repeat (first | rw [if_pos trivial] | rw [if_pos (by omega)] | rw [if_neg (by omega)])
  have g2 : V0.heap[w.heap.size + 2]? = some (.cells #[.int .u64 0, .int .u64 0, .int .u64 0, .int .u64 0] 24 (0, 0)) := by
    rw [← hV0]; simp only [alloc_at, World.size_alloc]; repeat (first | rw [if_pos trivial] | rw [if_pos (by omega)] | rw [if_neg (by omega)])
  have g3 : V0.heap[w.heap.size + 3]? = some (.cells #[.int .u64 0, .int .u64 0, .int .u64 0, .int .u64 0, .int .u64 0, .int .u64 0] 121 (0, 0)) := by
    rw [← hV0]; simp only [alloc_at, World.size_alloc]; repeat (first | rw [if_pos trivial] | rw [if_pos (by omega)] | rw [if_neg (by omega)])
  have gs : w.heap.size + 4 ≤ V0.heap.size := by rw [← hV0]; simp only [World.size_alloc]; omega
  have gb : Below w.heap.size w V0 := by
    rw [← hV0]
    repeat (first | exact Below.refl _ _ | refine Below.drew ?_ | refine bal ?_ _)
  clear hV0
  go_loopw [13] (fun i wr => ∃ (k : Nat), k ≤ 4 ∧ i = .int .i64 k ∧
      wr.heap[w.heap.size + 3]? = some (.cells #[.int .u64 (w0 (mT m (finv1 m) a b k % 2 ^ 256) : Nat), .int .u64 (w1 (mT m (finv1 m) a b k % 2 ^ 256) : Nat), .int .u64 (w2 (mT m (finv1 m) a b k % 2 ^ 256) : Nat), .int .u64 (w3 (mT m (finv1 m) a b k % 2 ^ 256) : Nat), .int .u64 (mT m (finv1 m) a b k / 2 ^ 256 : Nat), .int .u64 0] 121 (0, 0)) ∧
      Below (w.heap.size + 3) V0 wr ∧ w.heap.size + 4 ≤ wr.heap.size) (fun i wr => 4 - (intOf i).toNat)
  case atStart =>
    refine ⟨0, by omega, rfl, ?_, Below.refl _ _, gs⟩
    rw [g3]; simp only [mT, w0, w1, w2, w3, Nat.zero_mod, Nat.zero_div]; rfl
  case round =>
    obtain ⟨k, hk, rfl, ht, hbl, hsz⟩ := hrel
    obtain ⟨T, hT⟩ : ∃ T, mT m (finv1 m) a b k = T := ⟨_, rfl⟩
    rw [hT] at ht
    have HT := Lib.hid hT
    clear hT
    have haa := (hbl.block (w.heap.size) (by omega)).trans g0
    have hbb := (hbl.block (w.heap.size + 1) (by omega)).trans g1
    have hgl := HF.out.lt'
    have hff := ((HF.out.keep gb).keepB (show g < w.heap.size + 3 by omega) hbl).blk
    by_cases hk4 : k < 4
    · skip
      have ca0 : wr.cell? ⟨w.heap.size, 0, none⟩ = some (.int .u64 (w0 (a) : Nat)) := by rw [cell_of_row _ _ _ _ _ _ haa]; rfl
      have ca1 : wr.cell? ⟨w.heap.size, 1, none⟩ = some (.int .u64 (w1 (a) : Nat)) := by rw [cell_of_row _ _ _ _ _ _ haa]; rfl
      have ca2 : wr.cell? ⟨w.heap.size, 2, none⟩ = some (.int .u64 (w2 (a) : Nat)) := by rw [cell_of_row _ _ _ _ _ _ haa]; rfl
      have ca3 : wr.cell? ⟨w.heap.size, 3, none⟩ = some (.int .u64 (w3 (a) : Nat)) := by rw [cell_of_row _ _ _ _ _ _ haa]; rfl
      have cb := wAt_cell hbb hk4
      have k1 : (0 : Int) ≤ (k : Int) := by omega
      have k2 : (k : Int) < 4 := by omega
      have k3 : IntKind.i64.wrap (k : Int) = (k : Int) := IntWalk.i64_in _ (by omega)
      go_wp2_with fail
      go_still_tail 4, (by kernel_rfl)
      change wpList _ _ _ _ _ wr.drew
      go_wp2_with fail
      refine (line_any (W4.mk' hla.out) (Nat.mod_lt _ (by decide)) (wAt_lt b k) _ (show wr.drew.heap[w.heap.size + 3]? = _ from ht)).mono ?_
      rintro e V1 ⟨rfl, ht1, ho1⟩
      obtain ⟨L1, hL1⟩ : ∃ n, lrest (T % 2 ^ 256) a (wAt b k) = n := ⟨_, rfl⟩
      obtain ⟨O1, hO1⟩ : ∃ n, lover (T % 2 ^ 256) a (wAt b k) = n := ⟨_, rfl⟩
      obtain ⟨T4, hT4⟩ : ∃ n, T / 2 ^ 256 = n := ⟨_, rfl⟩
      rw [hL1, hT4] at ht1
      rw [hO1]
      have HL1 := Lib.hid hL1
      have HO1 := Lib.hid hO1
      have HT4 := Lib.hid hT4
      clear hL1 hO1 hT4 ca0 ca1 ca2 ca3 cb ht
      have hbl1 := ho1.below (Nat.le_refl _) (show w.heap.size + 3 ≤ wr.heap.size by omega) hbl.drew
      have hsz1 : w.heap.size + 4 ≤ V1.heap.size := Nat.le_trans hsz ho1.size
      have c4 : V1.cell? ⟨w.heap.size + 3, 4, none⟩ = some (.int .u64 (T4 : Nat)) := by rw [cell_of_row _ _ _ _ _ _ ht1]; rfl
      have f4 := frozen_of_row _ _ 4 _ _ ht1
      have c5 : V1.cell? ⟨w.heap.size + 3, 5, none⟩ = some (.int .u64 0) := by rw [cell_of_row _ _ _ _ _ _ ht1]; rfl
      have f5 := frozen_of_row _ _ 5 _ _ ht1
      have r0 := add64_run0
      go_wp2_with fail
      have hp2 := put2 (i := 4) (j := 5) (.int .u64 (s64 T4 O1 0 : Nat)) (.int .u64 (c64 T4 O1 0 : Nat)) ht1 rfl
      obtain ⟨V2, hV2⟩ : ∃ V, (World.setCell (World.setCell V1 ⟨w.heap.size + 3, 4, none⟩ (.int .u64 (s64 T4 O1 0 : Nat))) ⟨w.heap.size + 3, 5, none⟩ (.int .u64 (c64 T4 O1 0 : Nat))) = V := ⟨_, rfl⟩
      rw [hV2] at hp2 ⊢
      have ht2 := hp2.here
      have hbl2 := hp2.below (Nat.le_refl _) hbl1
      have hsz2 : w.heap.size + 4 ≤ V2.heap.size := by rw [hp2.size]; exact hsz1
      obtain ⟨X4, hX4⟩ : ∃ n, s64 T4 O1 0 = n := ⟨_, rfl⟩
      obtain ⟨X5, hX5⟩ : ∃ n, c64 T4 O1 0 = n := ⟨_, rfl⟩
      rw [hX4, hX5] at ht2
      have HX4 := Lib.hid hX4
      have HX5 := Lib.hid hX5
      clear hX4 hX5 hp2 hV2 ht1 c4 c5 f4 f5
      have hff2 := ((HF.out.keep gb).keepB (show g < w.heap.size + 3 by omega) hbl2).blk
      have cm0 : V2.cell? ⟨g, 0, none⟩ = some (.int .u64 (w0 (m) : Nat)) := by rw [cell_of_row _ _ _ _ _ _ hff2]; rfl
      have cm1 : V2.cell? ⟨g, 1, none⟩ = some (.int .u64 (w1 (m) : Nat)) := by rw [cell_of_row _ _ _ _ _ _ hff2]; rfl
      have cm2 : V2.cell? ⟨g, 2, none⟩ = some (.int .u64 (w2 (m) : Nat)) := by rw [cell_of_row _ _ _ _ _ _ hff2]; rfl
      have cm3 : V2.cell? ⟨g, 3, none⟩ = some (.int .u64 (w3 (m) : Nat)) := by rw [cell_of_row _ _ _ _ _ _ hff2]; rfl
      have ci : V2.cell? ⟨g, 4, none⟩ = some (.int .u64 (finv1 m : Nat)) := by rw [cell_of_row _ _ _ _ _ _ hff2]; rfl
      have ct0 : V2.cell? ⟨w.heap.size + 3, 0, none⟩ = some (.int .u64 (w0 (L1) : Nat)) := by rw [cell_of_row _ _ _ _ _ _ ht2]; rfl
      have ct1 : V2.cell? ⟨w.heap.size + 3, 1, none⟩ = some (.int .u64 (w1 (L1) : Nat)) := by rw [cell_of_row _ _ _ _ _ _ ht2]; rfl
      have ct2 : V2.cell? ⟨w.heap.size + 3, 2, none⟩ = some (.int .u64 (w2 (L1) : Nat)) := by rw [cell_of_row _ _ _ _ _ _ ht2]; rfl
      have ct3 : V2.cell? ⟨w.heap.size + 3, 3, none⟩ = some (.int .u64 (w3 (L1) : Nat)) := by rw [cell_of_row _ _ _ _ _ _ ht2]; rfl
      obtain ⟨Q, hQ, hQ2, hQ3⟩ : ∃ Q : Nat, IntKind.u64.wrap ((w0 L1 : Nat) * (finv1 m : Nat) : Int) = (Q : Nat) ∧ Q = w0 L1 * finv1 m % 2 ^ 64 ∧ Q < 18446744073709551616 :=
        ⟨w0 L1 * finv1 m % 2 ^ 64, by rw [IntKind.wrap_u64, ← Int.natCast_mul]; omega, rfl, Nat.mod_lt _ (by decide)⟩
      have HQ2 := Lib.hid hQ2
      have HQ3 := Lib.hid hQ3
      clear hQ2 hQ3
      go_wp2_with fail
      go_still_tail 11, (by kernel_rfl)
      change wpList _ _ _ _ _ V2.drew
      go_wp2_with fail
      refine (line_any (W4.mk' HF.out.lt) (by rw [← HL1.out]; exact Nat.mod_lt _ (by decide)) HQ3.out _ (show V2.drew.heap[w.heap.size + 3]? = _ from ht2)).mono ?_
      rintro e V3 ⟨rfl, ht3, ho3⟩
      obtain ⟨L2, hL2⟩ : ∃ n, lrest L1 m Q = n := ⟨_, rfl⟩
      obtain ⟨O2, hO2⟩ : ∃ n, lover L1 m Q = n := ⟨_, rfl⟩
      rw [hL2] at ht3
      rw [hO2]
      have HL2 := Lib.hid hL2
      have HO2 := Lib.hid hO2
      clear hL2 hO2 cm0 cm1 cm2 cm3 ci ct0 ct1 ct2 ct3 ht2
      have hbl3 := ho3.below (Nat.le_refl _) (show w.heap.size + 3 ≤ V2.heap.size by omega) hbl2.drew
      have hsz3 : w.heap.size + 4 ≤ V3.heap.size := Nat.le_trans hsz2 ho3.size
      have c4 : V3.cell? ⟨w.heap.size + 3, 4, none⟩ = some (.int .u64 (X4 : Nat)) := by rw [cell_of_row _ _ _ _ _ _ ht3]; rfl
      have f4 := frozen_of_row _ _ 4 _ _ ht3
      have c5 : V3.cell? ⟨w.heap.size + 3, 5, none⟩ = some (.int .u64 (X5 : Nat)) := by rw [cell_of_row _ _ _ _ _ _ ht3]; rfl
      have f5 := frozen_of_row _ _ 5 _ _ ht3
      have x5 : X5 ≤ 1 := by
        rw [← HX5.out, ← HT4.out, ← HO1.out, ← HT.out]
        exact x5_le (mT_lt (by have := HF.out.three; omega) HA.out k) HF.out.lt HA.out (wAt_lt b k)
      obtain ⟨Y5, hY5, hY5'⟩ : ∃ n : Nat, IntKind.u64.wrap ((X5 : Nat) + (c64 X4 O2 0 : Nat) : Int) = (n : Nat) ∧ n = X5 + c64 X4 O2 0 := ⟨X5 + c64 X4 O2 0, by
          have h2 : c64 X4 O2 0 ≤ 1 := c64_le1 (by rw [← HX4.out]; exact (s64_eq _ _ _).2) (by rw [← HO2.out]; exact lover_lt (by rw [← HL1.out]; exact Nat.mod_lt _ (by decide)) HF.out.lt HQ3.out)
          rw [IntKind.wrap_u64]; omega, rfl⟩
      have HY5 := Lib.hid hY5'
      clear hY5' x5
      go_wp2_with fail
      obtain ⟨Y4, hY4⟩ : ∃ n, s64 X4 O2 0 = n := ⟨_, rfl⟩
      rw [hY4]
      have HY4 := Lib.hid hY4
      clear hY4
      have hp4 := put2 (i := 4) (j := 5) (.int .u64 (Y4 : Nat)) (.int .u64 (Y5 : Nat)) ht3 rfl
      obtain ⟨V4, hV4⟩ : ∃ V, (World.setCell (World.setCell V3 ⟨w.heap.size + 3, 4, none⟩ (.int .u64 (Y4 : Nat))) ⟨w.heap.size + 3, 5, none⟩ (.int .u64 (Y5 : Nat))) = V := ⟨_, rfl⟩
      rw [hV4] at hp4 ⊢
      have ht4 := hp4.here
      have hbl4 := hp4.below (Nat.le_refl _) hbl3
      clear hp4 hV4 ht3 c4 c5 f4 f5
      go_still_tail 2, (by kernel_rfl)
      change wpList _ _ _ _ _ V4.drew
      refine wpList_copy_splice rfl _ _ _ _ rfl 22 Try.underlying33 (by kernel_rfl) _ _ _ _ _ _ rfl rfl (w.heap.size + 3) 0 [.int .u64 (w0 (L2) : Nat), .int .u64 (w1 (L2) : Nat), .int .u64 (w2 (L2) : Nat), .int .u64 (w3 (L2) : Nat), .int .u64 (Y4 : Nat), .int .u64 (Y5 : Nat)] 121 ht4 [.int .u64 (w1 L2 : Nat), .int .u64 (w2 L2 : Nat), .int .u64 (w3 L2 : Nat), .int .u64 (Y4 : Nat), .int .u64 (Y5 : Nat)] rfl ?hpos (by simp) ?h1 (w.heap.size + 3) V0 hbl4.drew (Nat.le_refl _) ?_
      case hpos =>
        intro _
        refine ⟨rfl, ⟨w.heap.size + 3, 1, none⟩, rfl, ?_⟩
        intro j v hj
        have hj5 : j < 5 := by
          apply Classical.byContradiction; intro hh
          rw [List.getElem?_eq_none (by simpa using hh)] at hj; cases hj
        have : j = 0 ∨ j = 1 ∨ j = 2 ∨ j = 3 ∨ j = 4 := by omega
        rcases this with e | e | e | e | e <;> subst e <;> (rw [← hj]; exact cell_of_row V4 _ _ _ _ _ ht4)
      case h1 =>
        intro v hv
        simp only [List.mem_cons, List.not_mem_nil, or_false] at hv
        rcases hv with e | e | e | e | e <;> subst e <;> rfl
      intro V5 HT5 hbl5
      have ht5 : V5.heap[w.heap.size + 3]? = some (.cells #[.int .u64 (w1 L2 : Nat), .int .u64 (w2 L2 : Nat), .int .u64 (w3 L2 : Nat), .int .u64 (Y4 : Nat), .int .u64 (Y5 : Nat), .int .u64 (Y5 : Nat)] 121 (0, 0)) := HT5.out
      clear HT5 ht4
      have c5 : V5.cell? ⟨w.heap.size + 3, 5, none⟩ = some (.int .u64 (Y5 : Nat)) := by rw [cell_of_row _ _ _ _ _ _ ht5]; rfl
      have f5 := frozen_of_row _ _ 5 _ _ ht5
      go_wp2_with fail
      have hfin := round_fin (k := finv1 m) (mT_lt (k := finv1 m) (b := b) (by have := HF.out.three; omega) HA.out k) HF.out.lt HA.out (wAt_lt b k) (by rw [HT.out]; exact HL1.out) (by rw [HT.out]; exact HO1.out) (by rw [HT.out]; exact HT4.out) HX4.out HX5.out HQ2.out HL2.out HO2.out HY4.out HY5.out
      obtain ⟨e0, e1, e2, e3, e4⟩ := hfin
      have hp6 := put1 (i := 5) (.int .u64 0) ht5
      refine ⟨⟨k + 1, by omega, by go_num, ?_, hp6.below (Nat.le_refl _) hbl5, ?_⟩, ?_⟩
      · rw [show mT m (finv1 m) a b (k + 1) = mround m (finv1 m) a (mT m (finv1 m) a b k) (wAt b k) from rfl, ← e0, ← e1, ← e2, ← e3, ← e4]
        exact hp6.here
      · rw [hp6.size]; exact Nat.le_trans gs hbl5.size
      · (simp [intOf]; try omega)
    · obtain rfl : k = 4 := by omega
      rw [mT_four] at HT
      clear hk hk4 haa hbb
      have h2 := (hbl.block (w.heap.size + 2) (by omega)).trans g2
      have htl : T < 2 * m := by rw [← HT.out]; exact mhalf_lt HA.out
      obtain ⟨T4, hT4⟩ : ∃ n, T / 2 ^ 256 = n := ⟨_, rfl⟩
      obtain ⟨R, hR⟩ : ∃ n, T % 2 ^ 256 = n := ⟨_, rfl⟩
      rw [hT4, hR] at ht
      have HR := Lib.hid hR
      have HT4 := Lib.hid hT4
      have HTL := Lib.hid htl
      clear hR hT4 htl
      have ct0 : wr.cell? ⟨w.heap.size + 3, 0, none⟩ = some (.int .u64 (w0 (R) : Nat)) := by rw [cell_of_row _ _ _ _ _ _ ht]; rfl
      have ct1 : wr.cell? ⟨w.heap.size + 3, 1, none⟩ = some (.int .u64 (w1 (R) : Nat)) := by rw [cell_of_row _ _ _ _ _ _ ht]; rfl
      have ct2 : wr.cell? ⟨w.heap.size + 3, 2, none⟩ = some (.int .u64 (w2 (R) : Nat)) := by rw [cell_of_row _ _ _ _ _ _ ht]; rfl
      have ct3 : wr.cell? ⟨w.heap.size + 3, 3, none⟩ = some (.int .u64 (w3 (R) : Nat)) := by rw [cell_of_row _ _ _ _ _ _ ht]; rfl
      have c4 : wr.cell? ⟨w.heap.size + 3, 4, none⟩ = some (.int .u64 (T4 : Nat)) := by rw [cell_of_row _ _ _ _ _ _ ht]; rfl
      have hq := arrayAt4
      go_wp2_with fail
      have hff := ((HF.out.keep gb).keepB (show g < w.heap.size + 3 by omega) hbl).blk
      obtain ⟨V6, hV6⟩ : ∃ V, wr.alloc (.cells #[.int .u64 (w0 (R) : Nat), .int .u64 (w1 (R) : Nat), .int .u64 (w2 (R) : Nat), .int .u64 (w3 (R) : Nat)] 24) = V := ⟨_, rfl⟩
      rw [hV6]
      obtain ⟨ob, hob⟩ : ∃ n, wr.heap.size = n := ⟨_, rfl⟩
      rw [hob]
      have ho6 : V6.heap[ob]? = some (.cells #[.int .u64 (w0 (R) : Nat), .int .u64 (w1 (R) : Nat), .int .u64 (w2 (R) : Nat), .int .u64 (w3 (R) : Nat)] 24 (0, 0)) := by rw [← hV6, ← hob]; exact heap_alloc_new _ _
      have hbl6 : Below (w.heap.size + 3) V0 V6 := by rw [← hV6]; exact hbl.alloc (by omega) _
      have hff6 : V6.heap[g]? = some (.cells #[.int .u64 (w0 (m) : Nat), .int .u64 (w1 (m) : Nat), .int .u64 (w2 (m) : Nat), .int .u64 (w3 (m) : Nat), .int .u64 (finv1 m : Nat), .int .u64 (w0 (fsq m) : Nat), .int .u64 (w1 (fsq m) : Nat), .int .u64 (w2 (fsq m) : Nat), .int .u64 (w3 (fsq m) : Nat)] 90 (0, 0)) := by rw [← hV6]; exact (Below.heap_alloc _ _ g (by omega)).trans hff
      have ht6 : V6.heap[w.heap.size + 3]? = some (.cells #[.int .u64 (w0 (R) : Nat), .int .u64 (w1 (R) : Nat), .int .u64 (w2 (R) : Nat), .int .u64 (w3 (R) : Nat), .int .u64 (T4 : Nat), .int .u64 0] 121 (0, 0)) := by rw [← hV6]; exact (Below.heap_alloc _ _ _ (by omega)).trans ht
      have h26 : V6.heap[w.heap.size + 2]? = some (.cells #[.int .u64 0, .int .u64 0, .int .u64 0, .int .u64 0] 24 (0, 0)) := by rw [← hV6]; exact (Below.heap_alloc _ _ _ (by omega)).trans h2
      have hs6 : V6.heap.size = ob + 1 := by rw [← hV6, ← hob]; exact World.size_alloc _ _
      have hob4 : w.heap.size + 4 ≤ ob := by rw [← hob]; exact hsz
      clear hV6 hob ct0 ct1 ct2 ct3 c4 hff h2 ht hbl hq
      have co0 : V6.cell? ⟨ob, 0, none⟩ = some (.int .u64 (w0 (R) : Nat)) := by rw [cell_of_row _ _ _ _ _ _ ho6]; rfl
      have co1 : V6.cell? ⟨ob, 1, none⟩ = some (.int .u64 (w1 (R) : Nat)) := by rw [cell_of_row _ _ _ _ _ _ ho6]; rfl
      have co2 : V6.cell? ⟨ob, 2, none⟩ = some (.int .u64 (w2 (R) : Nat)) := by rw [cell_of_row _ _ _ _ _ _ ho6]; rfl
      have co3 : V6.cell? ⟨ob, 3, none⟩ = some (.int .u64 (w3 (R) : Nat)) := by rw [cell_of_row _ _ _ _ _ _ ho6]; rfl
      have c4 : V6.cell? ⟨w.heap.size + 3, 4, none⟩ = some (.int .u64 (T4 : Nat)) := by rw [cell_of_row _ _ _ _ _ _ ht6]; rfl
      have cm0 : V6.cell? ⟨g, 0, none⟩ = some (.int .u64 (w0 (m) : Nat)) := by rw [cell_of_row _ _ _ _ _ _ hff6]; rfl
      have cm1 : V6.cell? ⟨g, 1, none⟩ = some (.int .u64 (w1 (m) : Nat)) := by rw [cell_of_row _ _ _ _ _ _ hff6]; rfl
      have cm2 : V6.cell? ⟨g, 2, none⟩ = some (.int .u64 (w2 (m) : Nat)) := by rw [cell_of_row _ _ _ _ _ _ hff6]; rfl
      have cm3 : V6.cell? ⟨g, 3, none⟩ = some (.int .u64 (w3 (m) : Nat)) := by rw [cell_of_row _ _ _ _ _ _ hff6]; rfl
      by_cases hT0 : T4 = 0
      · have HT0 := Lib.hid hT0
        have hz : (T4 : Int) = 0 := by omega
        go_region_held3 (fun w' => w'.cell? ⟨ob, 0, none⟩ = some (.int .u64 (w0 R : Nat)) ∧ w'.cell? ⟨ob, 1, none⟩ = some (.int .u64 (w1 R : Nat)) ∧ w'.cell? ⟨ob, 2, none⟩ = some (.int .u64 (w2 R : Nat)) ∧ w'.cell? ⟨ob, 3, none⟩ = some (.int .u64 (w3 R : Nat)) ∧ w'.cell? ⟨g, 0, none⟩ = some (.int .u64 (w0 m : Nat)) ∧ w'.cell? ⟨g, 1, none⟩ = some (.int .u64 (w1 m : Nat)) ∧ w'.cell? ⟨g, 2, none⟩ = some (.int .u64 (w2 m : Nat)) ∧ w'.cell? ⟨g, 3, none⟩ = some (.int .u64 (w3 m : Nat)) ∧ w'.cell? ⟨w.heap.size + 3, 4, none⟩ = some (.int .u64 (T4 : Nat))) (first | exact ⟨co0, co1, co2, co3, cm0, cm1, cm2, cm3, c4⟩ | exact ⟨p0, p1, p2, p3, r0, r1, r2, r3, p4⟩) ((go_at_call 50; refine (cmp_any (W4.mk' (show R < 2 ^ 256 by rw [← HR.out]; exact Nat.mod_lt _ (by decide))) (W4.mk' HF.out.lt) _).mono ?_; rintro e V7 ⟨rfl, hb7⟩; (have hoV7 := (hb7.block ob (by show ob < V6.heap.size; omega)).trans ho6); (have hffV7 := (hb7.block g (by show g < V6.heap.size; omega)).trans hff6); (have ht7 := (hb7.block (w.heap.size + 3) (by show w.heap.size + 3 < V6.heap.size; omega)).trans ht6); (have p0 : V7.cell? ⟨ob, 0, none⟩ = some (.int .u64 (w0 R : Nat)) := by rw [cell_of_row _ _ _ _ _ _ hoV7]; rfl); (have p1 : V7.cell? ⟨ob, 1, none⟩ = some (.int .u64 (w1 R : Nat)) := by rw [cell_of_row _ _ _ _ _ _ hoV7]; rfl); (have p2 : V7.cell? ⟨ob, 2, none⟩ = some (.int .u64 (w2 R : Nat)) := by rw [cell_of_row _ _ _ _ _ _ hoV7]; rfl); (have p3 : V7.cell? ⟨ob, 3, none⟩ = some (.int .u64 (w3 R : Nat)) := by rw [cell_of_row _ _ _ _ _ _ hoV7]; rfl); (have r0 : V7.cell? ⟨g, 0, none⟩ = some (.int .u64 (w0 m : Nat)) := by rw [cell_of_row _ _ _ _ _ _ hffV7]; rfl); (have r1 : V7.cell? ⟨g, 1, none⟩ = some (.int .u64 (w1 m : Nat)) := by rw [cell_of_row _ _ _ _ _ _ hffV7]; rfl); (have r2 : V7.cell? ⟨g, 2, none⟩ = some (.int .u64 (w2 m : Nat)) := by rw [cell_of_row _ _ _ _ _ _ hffV7]; rfl); (have r3 : V7.cell? ⟨g, 3, none⟩ = some (.int .u64 (w3 m : Nat)) := by rw [cell_of_row _ _ _ _ _ _ hffV7]; rfl); (have p4 : V7.cell? ⟨w.heap.size + 3, 4, none⟩ = some (.int .u64 (T4 : Nat)) := by rw [cell_of_row _ _ _ _ _ _ ht7]; rfl)))
        go_simp
        · have h2V7 := (hb7.block (w.heap.size + 2) (by show w.heap.size + 2 < V6.heap.size; omega)).trans h26
          have hblV7 := bcm hbl6.drew (by show w.heap.size + 3 ≤ V6.heap.size; omega) hb7
          have hsV7 : ob < V7.heap.size := Nat.lt_of_lt_of_le (show ob < V6.heap.size by omega) hb7.size
          clear co0 co1 co2 co3 c4 cm0 cm1 cm2 cm3 p0 p1 p2 p3 r0 r1 r2 r3 p4
          have co0 : V7.cell? ⟨ob, 0, none⟩ = some (.int .u64 (w0 (R) : Nat)) := by rw [cell_of_row _ _ _ _ _ _ hoV7]; rfl
          have co1 : V7.cell? ⟨ob, 1, none⟩ = some (.int .u64 (w1 (R) : Nat)) := by rw [cell_of_row _ _ _ _ _ _ hoV7]; rfl
          have co2 : V7.cell? ⟨ob, 2, none⟩ = some (.int .u64 (w2 (R) : Nat)) := by rw [cell_of_row _ _ _ _ _ _ hoV7]; rfl
          have co3 : V7.cell? ⟨ob, 3, none⟩ = some (.int .u64 (w3 (R) : Nat)) := by rw [cell_of_row _ _ _ _ _ _ hoV7]; rfl
          have cm0 : V7.cell? ⟨g, 0, none⟩ = some (.int .u64 (w0 (m) : Nat)) := by rw [cell_of_row _ _ _ _ _ _ hffV7]; rfl
          have cm1 : V7.cell? ⟨g, 1, none⟩ = some (.int .u64 (w1 (m) : Nat)) := by rw [cell_of_row _ _ _ _ _ _ hffV7]; rfl
          have cm2 : V7.cell? ⟨g, 2, none⟩ = some (.int .u64 (w2 (m) : Nat)) := by rw [cell_of_row _ _ _ _ _ _ hffV7]; rfl
          have cm3 : V7.cell? ⟨g, 3, none⟩ = some (.int .u64 (w3 (m) : Nat)) := by rw [cell_of_row _ _ _ _ _ _ hffV7]; rfl
          by_cases hc : m ≤ R
          · have hc' : (0 : Int) ≤ cmpI R m := by unfold cmpI; rw [if_neg (by omega)]; split <;> omega
            have FIN : subm R m = mmont m (finv1 m) a b := by
              have := mont_fin HTL.out HF.out.lt
              rw [HT4.out, HR.out, if_pos (Or.inr hc)] at this
              rw [mmont, HT.out]; exact this
            have HFIN := Lib.hid FIN
            clear hc FIN
            go_wp2_with fail
            go_region_with (go_at_call 31; refine (sub_any (W4.mk' (show R < 2 ^ 256 by rw [← HR.out]; exact Nat.mod_lt _ (by decide))) (W4.mk' HF.out.lt) _).mono ?_; rintro e V8 ⟨rfl, hb8⟩; (have hoV8o := (hb8.block ob (by show ob < V7.heap.size; exact hsV7)).trans hoV7); (have h2V8o := (hb8.block (w.heap.size + 2) (by show w.heap.size + 2 < V7.heap.size; exact (Nat.lt_trans (by omega) hsV7))).trans h2V7); (have hff8 := (hb8.block g (by show g < V7.heap.size; exact (Nat.lt_trans (by omega) hsV7))).trans hffV7); (have hblV8o := bcm (by first | exact hblV7 | exact hblV7.drew | exact below_drewN hblV7 _) (by show w.heap.size + 3 ≤ V7.heap.size; exact (Nat.le_of_lt (Nat.lt_of_le_of_lt (by omega) hsV7))) hb8); (have p0 : V8.cell? ⟨ob, 0, none⟩ = some (.int .u64 (w0 R : Nat)) := by rw [cell_of_row _ _ _ _ _ _ hoV8o]; rfl); (have p1 : V8.cell? ⟨ob, 1, none⟩ = some (.int .u64 (w1 R : Nat)) := by rw [cell_of_row _ _ _ _ _ _ hoV8o]; rfl); (have p2 : V8.cell? ⟨ob, 2, none⟩ = some (.int .u64 (w2 R : Nat)) := by rw [cell_of_row _ _ _ _ _ _ hoV8o]; rfl); (have p3 : V8.cell? ⟨ob, 3, none⟩ = some (.int .u64 (w3 R : Nat)) := by rw [cell_of_row _ _ _ _ _ _ hoV8o]; rfl); (have r0 : V8.cell? ⟨g, 0, none⟩ = some (.int .u64 (w0 m : Nat)) := by rw [cell_of_row _ _ _ _ _ _ hff8]; rfl); (have r1 : V8.cell? ⟨g, 1, none⟩ = some (.int .u64 (w1 m : Nat)) := by rw [cell_of_row _ _ _ _ _ _ hff8]; rfl); (have r2 : V8.cell? ⟨g, 2, none⟩ = some (.int .u64 (w2 m : Nat)) := by rw [cell_of_row _ _ _ _ _ _ hff8]; rfl); (have r3 : V8.cell? ⟨g, 3, none⟩ = some (.int .u64 (w3 m : Nat)) := by rw [cell_of_row _ _ _ _ _ _ hff8]; rfl); (have fo0 := frozen_of_row _ _ 0 _ _ hoV8o); (have fo1 := frozen_of_row _ _ 1 _ _ hoV8o); (have fo2 := frozen_of_row _ _ 2 _ _ hoV8o); (have fo3 := frozen_of_row _ _ 3 _ _ hoV8o))
            all_goals go_simp
            all_goals
              have Q := put4 (.int .u64 (w0 (subm R m) : Nat)) (.int .u64 (w1 (subm R m) : Nat)) (.int .u64 (w2 (subm R m) : Nat)) (.int .u64 (w3 (subm R m) : Nat)) hoV8o
              obtain ⟨VA, hVA⟩ : ∃ V, World.setCell (World.setCell (World.setCell (World.setCell V8 ⟨ob, 0, none⟩ (.int .u64 (w0 (subm R m) : Nat))) ⟨ob, 1, none⟩ (.int .u64 (w1 (subm R m) : Nat))) ⟨ob, 2, none⟩ (.int .u64 (w2 (subm R m) : Nat))) ⟨ob, 3, none⟩ (.int .u64 (w3 (subm R m) : Nat)) = V := ⟨_, rfl⟩
              rw [hVA] at Q ⊢
              have hoVA := Q.here
              have h2VA := (Q.there (w.heap.size + 2) (by omega)).trans h2V8o
              have hblVA := Q.below (by omega) hblV8o
              clear co0 co1 co2 co3 fo0 fo1 fo2 fo3 p0 p1 p2 p3 r0 r1 r2 r3
              have u0 : VA.cell? ⟨ob, 0, none⟩ = some (.int .u64 (w0 (subm R m) : Nat)) := by rw [cell_of_row _ _ _ _ _ _ hoVA]; rfl
              have u1 : VA.cell? ⟨ob, 1, none⟩ = some (.int .u64 (w1 (subm R m) : Nat)) := by rw [cell_of_row _ _ _ _ _ _ hoVA]; rfl
              have u2 : VA.cell? ⟨ob, 2, none⟩ = some (.int .u64 (w2 (subm R m) : Nat)) := by rw [cell_of_row _ _ _ _ _ _ hoVA]; rfl
              have u3 : VA.cell? ⟨ob, 3, none⟩ = some (.int .u64 (w3 (subm R m) : Nat)) := by rw [cell_of_row _ _ _ _ _ _ hoVA]; rfl
              have z0 : VA.cell? ⟨w.heap.size + 2, 0, none⟩ = some (.int .u64 0) := by rw [cell_of_row _ _ _ _ _ _ h2VA]; rfl
              have z1 : VA.cell? ⟨w.heap.size + 2, 1, none⟩ = some (.int .u64 0) := by rw [cell_of_row _ _ _ _ _ _ h2VA]; rfl
              have z2 : VA.cell? ⟨w.heap.size + 2, 2, none⟩ = some (.int .u64 0) := by rw [cell_of_row _ _ _ _ _ _ h2VA]; rfl
              have z3 : VA.cell? ⟨w.heap.size + 2, 3, none⟩ = some (.int .u64 0) := by rw [cell_of_row _ _ _ _ _ _ h2VA]; rfl
              have y0 := frozen_of_row _ _ 0 _ _ h2VA
              have y1 := frozen_of_row _ _ 1 _ _ h2VA
              have y2 := frozen_of_row _ _ 2 _ _ h2VA
              have y3 := frozen_of_row _ _ 3 _ _ h2VA
              go_wp2_with fail
              have P := put4 (.int .u64 (w0 (subm R m) : Nat)) (.int .u64 (w1 (subm R m) : Nat)) (.int .u64 (w2 (subm R m) : Nat)) (.int .u64 (w3 (subm R m) : Nat)) h2VA
              obtain ⟨V9, hV9⟩ : ∃ V, World.setCell (World.setCell (World.setCell (World.setCell VA ⟨w.heap.size + 2, 0, none⟩ (.int .u64 (w0 (subm R m) : Nat))) ⟨w.heap.size + 2, 1, none⟩ (.int .u64 (w1 (subm R m) : Nat))) ⟨w.heap.size + 2, 2, none⟩ (.int .u64 (w2 (subm R m) : Nat))) ⟨w.heap.size + 2, 3, none⟩ (.int .u64 (w3 (subm R m) : Nat)) = V := ⟨_, rfl⟩
              rw [hV9] at P ⊢
              have k9 := P.below (by omega) (gb.trans (hblVA.mono (by omega)))
              have P9 := P.here
              have v0 : V9.cell? ⟨w.heap.size + 2, 0, none⟩ = some (.int .u64 (w0 (subm R m) : Nat)) := by rw [cell_of_row _ _ _ _ _ _ P9]; rfl
              have v1 : V9.cell? ⟨w.heap.size + 2, 1, none⟩ = some (.int .u64 (w1 (subm R m) : Nat)) := by rw [cell_of_row _ _ _ _ _ _ P9]; rfl
              have v2 : V9.cell? ⟨w.heap.size + 2, 2, none⟩ = some (.int .u64 (w2 (subm R m) : Nat)) := by rw [cell_of_row _ _ _ _ _ _ P9]; rfl
              have v3 : V9.cell? ⟨w.heap.size + 2, 3, none⟩ = some (.int .u64 (w3 (subm R m) : Nat)) := by rw [cell_of_row _ _ _ _ _ _ P9]; rfl
              refine bodyPost_ret (v := _) (by simp [results, Try.results70, go_sem, v0, v1, v2, v3]; rfl) rfl ?_
              rw [← HFIN.out]
              exact ⟨rfl, k9⟩

          · have hc' : cmpI R m < (0 : Int) := by unfold cmpI; rw [if_pos (by omega)]; omega
            have FIN : R = mmont m (finv1 m) a b := by
              have := mont_fin HTL.out HF.out.lt
              rw [HT4.out, HR.out, if_neg (by rw [HT0.out]; omega)] at this
              rw [mmont, HT.out]; exact this
            have HFIN := Lib.hid FIN
            clear hc FIN
            clear co0 co1 co2 co3
            have u0 : V7.cell? ⟨ob, 0, none⟩ = some (.int .u64 (w0 (R) : Nat)) := by rw [cell_of_row _ _ _ _ _ _ hoV7]; rfl
            have u1 : V7.cell? ⟨ob, 1, none⟩ = some (.int .u64 (w1 (R) : Nat)) := by rw [cell_of_row _ _ _ _ _ _ hoV7]; rfl
            have u2 : V7.cell? ⟨ob, 2, none⟩ = some (.int .u64 (w2 (R) : Nat)) := by rw [cell_of_row _ _ _ _ _ _ hoV7]; rfl
            have u3 : V7.cell? ⟨ob, 3, none⟩ = some (.int .u64 (w3 (R) : Nat)) := by rw [cell_of_row _ _ _ _ _ _ hoV7]; rfl
            have z0 : V7.cell? ⟨w.heap.size + 2, 0, none⟩ = some (.int .u64 0) := by rw [cell_of_row _ _ _ _ _ _ h2V7]; rfl
            have z1 : V7.cell? ⟨w.heap.size + 2, 1, none⟩ = some (.int .u64 0) := by rw [cell_of_row _ _ _ _ _ _ h2V7]; rfl
            have z2 : V7.cell? ⟨w.heap.size + 2, 2, none⟩ = some (.int .u64 0) := by rw [cell_of_row _ _ _ _ _ _ h2V7]; rfl
            have z3 : V7.cell? ⟨w.heap.size + 2, 3, none⟩ = some (.int .u64 0) := by rw [cell_of_row _ _ _ _ _ _ h2V7]; rfl
            have y0 := frozen_of_row _ _ 0 _ _ h2V7
            have y1 := frozen_of_row _ _ 1 _ _ h2V7
            have y2 := frozen_of_row _ _ 2 _ _ h2V7
            have y3 := frozen_of_row _ _ 3 _ _ h2V7
            go_wp2_with fail
            have P := put4 (.int .u64 (w0 (R) : Nat)) (.int .u64 (w1 (R) : Nat)) (.int .u64 (w2 (R) : Nat)) (.int .u64 (w3 (R) : Nat)) h2V7
            obtain ⟨V9, hV9⟩ : ∃ V, World.setCell (World.setCell (World.setCell (World.setCell V7 ⟨w.heap.size + 2, 0, none⟩ (.int .u64 (w0 (R) : Nat))) ⟨w.heap.size + 2, 1, none⟩ (.int .u64 (w1 (R) : Nat))) ⟨w.heap.size + 2, 2, none⟩ (.int .u64 (w2 (R) : Nat))) ⟨w.heap.size + 2, 3, none⟩ (.int .u64 (w3 (R) : Nat)) = V := ⟨_, rfl⟩
            rw [hV9] at P ⊢
            have k9 := P.below (by omega) (gb.trans (hblV7.mono (by omega)))
            have P9 := P.here
            have v0 : V9.cell? ⟨w.heap.size + 2, 0, none⟩ = some (.int .u64 (w0 (R) : Nat)) := by rw [cell_of_row _ _ _ _ _ _ P9]; rfl
            have v1 : V9.cell? ⟨w.heap.size + 2, 1, none⟩ = some (.int .u64 (w1 (R) : Nat)) := by rw [cell_of_row _ _ _ _ _ _ P9]; rfl
            have v2 : V9.cell? ⟨w.heap.size + 2, 2, none⟩ = some (.int .u64 (w2 (R) : Nat)) := by rw [cell_of_row _ _ _ _ _ _ P9]; rfl
            have v3 : V9.cell? ⟨w.heap.size + 2, 3, none⟩ = some (.int .u64 (w3 (R) : Nat)) := by rw [cell_of_row _ _ _ _ _ _ P9]; rfl
            refine bodyPost_ret (v := _) (by simp [results, Try.results70, go_sem, v0, v1, v2, v3]; rfl) rfl ?_
            rw [← HFIN.out]
            exact ⟨rfl, k9⟩

      · have hz : (0 : Int) < (T4 : Int) := by omega
        have FIN : subm R m = mmont m (finv1 m) a b := by
          have := mont_fin HTL.out HF.out.lt
          rw [HT4.out, HR.out, if_pos (Or.inl (by omega))] at this
          rw [mmont, HT.out]; exact this
        have HFIN := Lib.hid FIN
        clear FIN
        go_quiet (fail)
        go_wp2_with fail
        generalize hVQ : World.drewN V6 _ = V7
        have hoV7 : V7.heap[ob]? = some (.cells #[.int .u64 (w0 (R) : Nat), .int .u64 (w1 (R) : Nat), .int .u64 (w2 (R) : Nat), .int .u64 (w3 (R) : Nat)] 24 (0, 0)) := by rw [← hVQ]; exact ho6
        have hffV7 : V7.heap[g]? = some (.cells #[.int .u64 (w0 (m) : Nat), .int .u64 (w1 (m) : Nat), .int .u64 (w2 (m) : Nat), .int .u64 (w3 (m) : Nat), .int .u64 (finv1 m : Nat), .int .u64 (w0 (fsq m) : Nat), .int .u64 (w1 (fsq m) : Nat), .int .u64 (w2 (fsq m) : Nat), .int .u64 (w3 (fsq m) : Nat)] 90 (0, 0)) := by rw [← hVQ]; exact hff6
        have h2V7 : V7.heap[w.heap.size + 2]? = some (.cells #[.int .u64 0, .int .u64 0, .int .u64 0, .int .u64 0] 24 (0, 0)) := by rw [← hVQ]; exact h26
        have hblV7 : Below (w.heap.size + 3) V0 V7 := by rw [← hVQ]; exact hbl6.trans ⟨rfl, rfl, rfl, Nat.le_refl _, fun _ _ => rfl⟩
        have hsV7 : ob < V7.heap.size := by rw [← hVQ]; show ob < V6.heap.size; omega
        clear hVQ co0 co1 co2 co3 c4 cm0 cm1 cm2 cm3
        have co0 : V7.cell? ⟨ob, 0, none⟩ = some (.int .u64 (w0 (R) : Nat)) := by rw [cell_of_row _ _ _ _ _ _ hoV7]; rfl
        have co1 : V7.cell? ⟨ob, 1, none⟩ = some (.int .u64 (w1 (R) : Nat)) := by rw [cell_of_row _ _ _ _ _ _ hoV7]; rfl
        have co2 : V7.cell? ⟨ob, 2, none⟩ = some (.int .u64 (w2 (R) : Nat)) := by rw [cell_of_row _ _ _ _ _ _ hoV7]; rfl
        have co3 : V7.cell? ⟨ob, 3, none⟩ = some (.int .u64 (w3 (R) : Nat)) := by rw [cell_of_row _ _ _ _ _ _ hoV7]; rfl
        have cm0 : V7.cell? ⟨g, 0, none⟩ = some (.int .u64 (w0 (m) : Nat)) := by rw [cell_of_row _ _ _ _ _ _ hffV7]; rfl
        have cm1 : V7.cell? ⟨g, 1, none⟩ = some (.int .u64 (w1 (m) : Nat)) := by rw [cell_of_row _ _ _ _ _ _ hffV7]; rfl
        have cm2 : V7.cell? ⟨g, 2, none⟩ = some (.int .u64 (w2 (m) : Nat)) := by rw [cell_of_row _ _ _ _ _ _ hffV7]; rfl
        have cm3 : V7.cell? ⟨g, 3, none⟩ = some (.int .u64 (w3 (m) : Nat)) := by rw [cell_of_row _ _ _ _ _ _ hffV7]; rfl
        go_region_with (go_at_call 31; refine (sub_any (W4.mk' (show R < 2 ^ 256 by rw [← HR.out]; exact Nat.mod_lt _ (by decide))) (W4.mk' HF.out.lt) _).mono ?_; rintro e V8 ⟨rfl, hb8⟩; (have hoV8o := (hb8.block ob (by show ob < V7.heap.size; exact hsV7)).trans hoV7); (have h2V8o := (hb8.block (w.heap.size + 2) (by show w.heap.size + 2 < V7.heap.size; exact (Nat.lt_trans (by omega) hsV7))).trans h2V7); (have hff8 := (hb8.block g (by show g < V7.heap.size; exact (Nat.lt_trans (by omega) hsV7))).trans hffV7); (have hblV8o := bcm (by first | exact hblV7 | exact hblV7.drew | exact below_drewN hblV7 _) (by show w.heap.size + 3 ≤ V7.heap.size; exact (Nat.le_of_lt (Nat.lt_of_le_of_lt (by omega) hsV7))) hb8); (have p0 : V8.cell? ⟨ob, 0, none⟩ = some (.int .u64 (w0 R : Nat)) := by rw [cell_of_row _ _ _ _ _ _ hoV8o]; rfl); (have p1 : V8.cell? ⟨ob, 1, none⟩ = some (.int .u64 (w1 R : Nat)) := by rw [cell_of_row _ _ _ _ _ _ hoV8o]; rfl); (have p2 : V8.cell? ⟨ob, 2, none⟩ = some (.int .u64 (w2 R : Nat)) := by rw [cell_of_row _ _ _ _ _ _ hoV8o]; rfl); (have p3 : V8.cell? ⟨ob, 3, none⟩ = some (.int .u64 (w3 R : Nat)) := by rw [cell_of_row _ _ _ _ _ _ hoV8o]; rfl); (have r0 : V8.cell? ⟨g, 0, none⟩ = some (.int .u64 (w0 m : Nat)) := by rw [cell_of_row _ _ _ _ _ _ hff8]; rfl); (have r1 : V8.cell? ⟨g, 1, none⟩ = some (.int .u64 (w1 m : Nat)) := by rw [cell_of_row _ _ _ _ _ _ hff8]; rfl); (have r2 : V8.cell? ⟨g, 2, none⟩ = some (.int .u64 (w2 m : Nat)) := by rw [cell_of_row _ _ _ _ _ _ hff8]; rfl); (have r3 : V8.cell? ⟨g, 3, none⟩ = some (.int .u64 (w3 m : Nat)) := by rw [cell_of_row _ _ _ _ _ _ hff8]; rfl); (have fo0 := frozen_of_row _ _ 0 _ _ hoV8o); (have fo1 := frozen_of_row _ _ 1 _ _ hoV8o); (have fo2 := frozen_of_row _ _ 2 _ _ hoV8o); (have fo3 := frozen_of_row _ _ 3 _ _ hoV8o))
        all_goals go_simp
        all_goals
          have Q := put4 (.int .u64 (w0 (subm R m) : Nat)) (.int .u64 (w1 (subm R m) : Nat)) (.int .u64 (w2 (subm R m) : Nat)) (.int .u64 (w3 (subm R m) : Nat)) hoV8o
          obtain ⟨VA, hVA⟩ : ∃ V, World.setCell (World.setCell (World.setCell (World.setCell V8 ⟨ob, 0, none⟩ (.int .u64 (w0 (subm R m) : Nat))) ⟨ob, 1, none⟩ (.int .u64 (w1 (subm R m) : Nat))) ⟨ob, 2, none⟩ (.int .u64 (w2 (subm R m) : Nat))) ⟨ob, 3, none⟩ (.int .u64 (w3 (subm R m) : Nat)) = V := ⟨_, rfl⟩
          rw [hVA] at Q ⊢
          have hoVA := Q.here
          have h2VA := (Q.there (w.heap.size + 2) (by omega)).trans h2V8o
          have hblVA := Q.below (by omega) hblV8o
          clear co0 co1 co2 co3 fo0 fo1 fo2 fo3 p0 p1 p2 p3 r0 r1 r2 r3
          have u0 : VA.cell? ⟨ob, 0, none⟩ = some (.int .u64 (w0 (subm R m) : Nat)) := by rw [cell_of_row _ _ _ _ _ _ hoVA]; rfl
          have u1 : VA.cell? ⟨ob, 1, none⟩ = some (.int .u64 (w1 (subm R m) : Nat)) := by rw [cell_of_row _ _ _ _ _ _ hoVA]; rfl
          have u2 : VA.cell? ⟨ob, 2, none⟩ = some (.int .u64 (w2 (subm R m) : Nat)) := by rw [cell_of_row _ _ _ _ _ _ hoVA]; rfl
          have u3 : VA.cell? ⟨ob, 3, none⟩ = some (.int .u64 (w3 (subm R m) : Nat)) := by rw [cell_of_row _ _ _ _ _ _ hoVA]; rfl
          have z0 : VA.cell? ⟨w.heap.size + 2, 0, none⟩ = some (.int .u64 0) := by rw [cell_of_row _ _ _ _ _ _ h2VA]; rfl
          have z1 : VA.cell? ⟨w.heap.size + 2, 1, none⟩ = some (.int .u64 0) := by rw [cell_of_row _ _ _ _ _ _ h2VA]; rfl
          have z2 : VA.cell? ⟨w.heap.size + 2, 2, none⟩ = some (.int .u64 0) := by rw [cell_of_row _ _ _ _ _ _ h2VA]; rfl
          have z3 : VA.cell? ⟨w.heap.size + 2, 3, none⟩ = some (.int .u64 0) := by rw [cell_of_row _ _ _ _ _ _ h2VA]; rfl
          have y0 := frozen_of_row _ _ 0 _ _ h2VA
          have y1 := frozen_of_row _ _ 1 _ _ h2VA
          have y2 := frozen_of_row _ _ 2 _ _ h2VA
          have y3 := frozen_of_row _ _ 3 _ _ h2VA
          go_wp2_with fail
          have P := put4 (.int .u64 (w0 (subm R m) : Nat)) (.int .u64 (w1 (subm R m) : Nat)) (.int .u64 (w2 (subm R m) : Nat)) (.int .u64 (w3 (subm R m) : Nat)) h2VA
          obtain ⟨V9, hV9⟩ : ∃ V, World.setCell (World.setCell (World.setCell (World.setCell VA ⟨w.heap.size + 2, 0, none⟩ (.int .u64 (w0 (subm R m) : Nat))) ⟨w.heap.size + 2, 1, none⟩ (.int .u64 (w1 (subm R m) : Nat))) ⟨w.heap.size + 2, 2, none⟩ (.int .u64 (w2 (subm R m) : Nat))) ⟨w.heap.size + 2, 3, none⟩ (.int .u64 (w3 (subm R m) : Nat)) = V := ⟨_, rfl⟩
          rw [hV9] at P ⊢
          have k9 := P.below (by omega) (gb.trans (hblVA.mono (by omega)))
          have P9 := P.here
          have v0 : V9.cell? ⟨w.heap.size + 2, 0, none⟩ = some (.int .u64 (w0 (subm R m) : Nat)) := by rw [cell_of_row _ _ _ _ _ _ P9]; rfl
          have v1 : V9.cell? ⟨w.heap.size + 2, 1, none⟩ = some (.int .u64 (w1 (subm R m) : Nat)) := by rw [cell_of_row _ _ _ _ _ _ P9]; rfl
          have v2 : V9.cell? ⟨w.heap.size + 2, 2, none⟩ = some (.int .u64 (w2 (subm R m) : Nat)) := by rw [cell_of_row _ _ _ _ _ _ P9]; rfl
          have v3 : V9.cell? ⟨w.heap.size + 2, 3, none⟩ = some (.int .u64 (w3 (subm R m) : Nat)) := by rw [cell_of_row _ _ _ _ _ _ P9]; rfl
          refine bodyPost_ret (v := _) (by simp [results, Try.results70, go_sem, v0, v1, v2, v3]; rfl) rfl ?_
          rw [← HFIN.out]
          exact ⟨rfl, k9⟩

end Go.Proofs.Ytgghopmlcpcpkaa
