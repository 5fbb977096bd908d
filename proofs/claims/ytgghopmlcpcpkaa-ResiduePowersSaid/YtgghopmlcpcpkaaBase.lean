/- A step of the proof: what a function of the program computes, or a plain law of numbers. -/
import Derived.Test.YtgghopmlcpcpkaaChecked
import Derived.WalkKit
import Derived.ProofKit
import Derived.Test.YtgghopmlcpcpkaaMont
import Derived.Lib.Hide
namespace Go.Proofs.Ytgghopmlcpcpkaa
open Go.RowKit PlainK
set_option linter.unusedVariables false
set_option linter.unusedSimpArgs false

def big (n : Nat) : Prop := n < 18446744073709551616
def s64 (x y c : Nat) : Nat := (x + y + c) % 18446744073709551616
def c64 (x y c : Nat) : Nat := (x + y + c) / 18446744073709551616
def d64 (x y c : Nat) : Nat := if y + c ≤ x then (x - (y + c)) % 18446744073709551616 else (18446744073709551616 - (y + c - x)) % 18446744073709551616
def b64 (x y c : Nat) : Nat := if x < y + c then 1 else 0
theorem c64_le {x y c : Nat} (hx : big x) (hy : big y) (hc : c ≤ 1) : c64 x y c ≤ 1 := by unfold big at *; unfold c64; omega
theorem b64_le (x y c : Nat) : b64 x y c ≤ 1 := by unfold b64; split <;> omega
theorem add64_run (x y c : Nat) (hc : c ≤ 1) (w : World) : (callFunc 67 #[.int .u64 x, .int .u64 y, .int .u64 c]).run Try.prog w = .ok (.value (.tuple #[.int .u64 (s64 x y c : Nat), .int .u64 (c64 x y c : Nat)])) w := by
  rw [run_callFunc_extern Try.func67 (by kernel_rfl) (by kernel_rfl) (by kernel_rfl) (e := add64Entry) (by kernel_rfl), run_add64 x y c (by omega) (by omega) (by omega) (by omega)]
  rfl
theorem add64_run0 (x y : Nat) (w : World) : (callFunc 67 #[.int .u64 x, .int .u64 y, .int .u64 0]).run Try.prog w = .ok (.value (.tuple #[.int .u64 (s64 x y 0 : Nat), .int .u64 (c64 x y 0 : Nat)])) w := add64_run x y 0 (by omega) w
def sub64Entry' : Array Value → Sem Value := fun args => do
  let (x, y, b) ← Extern.MathBitsCarry.three "Sub64" args
  pure (Extern.MathBitsCarry.pair ((x + Extern.MathBitsCarry.m64 - y - b) % Extern.MathBitsCarry.m64) (if x < y + b then 1 else 0))
theorem run_sub64' {P : Program} (x y b : Nat) (hb : b ≤ 1) (w : World) :
    (sub64Entry' #[.int .u64 x, .int .u64 y, .int .u64 b]).run P w =
      .ok (.tuple #[.int .u64 (d64 x y b : Nat), .int .u64 (b64 x y b : Nat)]) w := by
  have e : d64 x y b = (x + 18446744073709551616 - y - b) % 18446744073709551616 := by unfold d64; split <;> omega
  rw [e]
  have : b = 0 ∨ b = 1 := by omega
  rcases this with rfl | rfl <;> rfl
theorem sub64_run (x y c : Nat) (hc : c ≤ 1) (w : World) : (callFunc 71 #[.int .u64 x, .int .u64 y, .int .u64 c]).run Try.prog w = .ok (.value (.tuple #[.int .u64 (d64 x y c : Nat), .int .u64 (b64 x y c : Nat)])) w := by
  rw [run_callFunc_extern Try.func71 (by kernel_rfl) (by kernel_rfl) (by kernel_rfl) (e := sub64Entry') (by kernel_rfl), run_sub64' x y c hc]
  rfl
theorem sub64_run0 (x y : Nat) (w : World) : (callFunc 71 #[.int .u64 x, .int .u64 y, .int .u64 0]).run Try.prog w = .ok (.value (.tuple #[.int .u64 (d64 x y 0 : Nat), .int .u64 (b64 x y 0 : Nat)])) w := sub64_run x y 0 (by omega) w

theorem bal {w w' : World} (h : Below w.heap.size w w') (o : Obj) : Below w.heap.size w (w'.alloc o) := h.alloc h.size o
theorem bcl {w w1 w2 : World} (h : Below w.heap.size w w1) (k : Below w1.heap.size w1 w2) : Below w.heap.size w w2 := h.trans (k.mono h.size)

theorem alloc_at (w : World) (o : Obj) (i : Nat) : (w.alloc o).heap[i]? = if i = w.heap.size then some o else w.heap[i]? := by
  by_cases h : i = w.heap.size
  · rw [if_pos h, h]; exact heap_alloc_new w o
  · rw [if_neg h]
    by_cases h2 : i < w.heap.size
    · exact Below.heap_alloc w o i h2
    · show (w.heap.push o)[i]? = _
      rw [Array.getElem?_push, if_neg h]
/-- what a store into a block of one's own leaves -/
structure Put (W V : World) (g : Nat) (o : Obj) : Prop where
  here : V.heap[g]? = some o
  there : ∀ k, k ≠ g → V.heap[k]? = W.heap[k]?
  size : V.heap.size = W.heap.size
  below : ∀ {B : Nat} {w : World}, B ≤ g → Below B w W → Below B w V
theorem put_hid {W X : World} {g : Nat} {o : Obj} (h : Put W X g o) : ∃ V, X = V ∧ Put W V g o := ⟨X, rfl, h⟩
theorem put1 {W : World} {g i : Nat} {cs : Array Value} {t : TypeId} (v : Value) (hg : W.heap[g]? = some (.cells cs t (0, 0))) : Put W (W.setCell ⟨g, i, none⟩ v) g (.cells (cs.setIfInBounds i v) t (0, 0)) :=
  ⟨heap_setCell_same W g i cs t v hg, fun k hk => heap_setCell_other W ⟨g, i, none⟩ k v hk, by simp [World.setCell], fun hB h => h.setCell hB v⟩
theorem Put.trans {W V X : World} {g : Nat} {o o' : Obj} (h : Put W V g o) (k : Put V X g o') : Put W X g o' :=
  ⟨k.here, fun i hi => (k.there i hi).trans (h.there i hi), k.size.trans h.size, fun hB hb => k.below hB (h.below hB hb)⟩
theorem put4 {W : World} {g : Nat} {x0 x1 x2 x3 : Value} {t : TypeId} (y0 y1 y2 y3 : Value) (hg : W.heap[g]? = some (.cells #[x0, x1, x2, x3] t (0, 0))) :
    Put W ((((W.setCell ⟨g, 0, none⟩ y0).setCell ⟨g, 1, none⟩ y1).setCell ⟨g, 2, none⟩ y2).setCell ⟨g, 3, none⟩ y3) g (.cells #[y0, y1, y2, y3] t (0, 0)) :=
  (((put1 y0 hg).trans (put1 y1 (put1 y0 hg).here)).trans (put1 y2 ((put1 y0 hg).trans (put1 y1 (put1 y0 hg).here)).here)).trans (put1 y3 (((put1 y0 hg).trans (put1 y1 (put1 y0 hg).here)).trans (put1 y2 ((put1 y0 hg).trans (put1 y1 (put1 y0 hg).here)).here)).here)
theorem put2 {W : World} {g i j : Nat} {cs cs' : Array Value} {t : TypeId} (x y : Value) (hg : W.heap[g]? = some (.cells cs t (0, 0))) (h : (cs.setIfInBounds i x).setIfInBounds j y = cs') :
    Put W ((W.setCell ⟨g, i, none⟩ x).setCell ⟨g, j, none⟩ y) g (.cells cs' t (0, 0)) := h ▸ (put1 x hg).trans (put1 y (put1 x hg).here)
theorem put46 {W : World} {g : Nat} {x0 x1 x2 x3 x4 x5 : Value} {t : TypeId} (y0 y1 y2 y3 : Value) (hg : W.heap[g]? = some (.cells #[x0, x1, x2, x3, x4, x5] t (0, 0))) :
    Put W ((((W.setCell ⟨g, 0, none⟩ y0).setCell ⟨g, 1, none⟩ y1).setCell ⟨g, 2, none⟩ y2).setCell ⟨g, 3, none⟩ y3) g (.cells #[y0, y1, y2, y3, x4, x5] t (0, 0)) :=
  (((put1 y0 hg).trans (put1 y1 (put1 y0 hg).here)).trans (put1 y2 ((put1 y0 hg).trans (put1 y1 (put1 y0 hg).here)).here)).trans (put1 y3 (((put1 y0 hg).trans (put1 y1 (put1 y0 hg).here)).trans (put1 y2 ((put1 y0 hg).trans (put1 y1 (put1 y0 hg).here)).here)).here)

theorem bcm {B : Nat} {w w1 w2 : World} (h : Below B w w1) (hB : B ≤ w1.heap.size) (k : Below w1.heap.size w1 w2) : Below B w w2 := h.trans (k.mono hB)
/-- four words are a number's -/
structure W4 (x0 x1 x2 x3 : Int) (n : Nat) : Prop where
  e0 : x0 = (w0 n : Nat)
  e1 : x1 = (w1 n : Nat)
  e2 : x2 = (w2 n : Nat)
  e3 : x3 = (w3 n : Nat)
  lt : n < 2 ^ 256
theorem W4.mk' {n : Nat} (h : n < 2 ^ 256) : W4 (w0 n : Nat) (w1 n : Nat) (w2 n : Nat) (w3 n : Nat) n := ⟨rfl, rfl, rfl, rfl, h⟩
theorem w_big (n : Nat) : big (w0 n) ∧ big (w1 n) ∧ big (w2 n) ∧ big (w3 n) := w_lt n

def addm (a b : Nat) : Nat := (a + b) % 2 ^ 256
def subm (a b : Nat) : Nat := (a + 2 ^ 256 - b) % 2 ^ 256
def W256 : Nat := 2 ^ 256
theorem addm_lt (a b : Nat) : addm a b < 2 ^ 256 := Nat.mod_lt _ (by decide)
theorem subm_lt (a b : Nat) : subm a b < 2 ^ 256 := Nat.mod_lt _ (by decide)
/-! the sums of words -/
theorem s64_eq (x y c : Nat) : s64 x y c + 18446744073709551616 * c64 x y c = x + y + c ∧ s64 x y c < 18446744073709551616 := by unfold s64 c64; omega
theorem d64_eq {x y c : Nat} (hx : x < 18446744073709551616) (hy : y < 18446744073709551616) (hc : c ≤ 1) : d64 x y c + y + c = x + 18446744073709551616 * b64 x y c ∧ d64 x y c < 18446744073709551616 ∧ b64 x y c ≤ 1 := by
  unfold d64 b64
  by_cases h : x < y + c
  · rw [if_neg (by omega), if_pos h]; omega
  · rw [if_pos (by omega), if_neg h]; omega
theorem words_eq {a0 a1 a2 a3 n : Nat} (h0 : a0 < 18446744073709551616) (h1 : a1 < 18446744073709551616) (h2 : a2 < 18446744073709551616) (h3 : a3 < 18446744073709551616)
    (h : ofW a0 a1 a2 a3 = n) : a0 = w0 n ∧ a1 = w1 n ∧ a2 = w2 n ∧ a3 = w3 n := by
  obtain ⟨e0, e1, e2, e3, _⟩ := w_ofW (a := a0) (b := a1) (c := a2) (d := a3) h0 h1 h2 h3
  rw [h] at e0 e1 e2 e3
  exact ⟨e0.symm, e1.symm, e2.symm, e3.symm⟩
theorem add_fin {S a b k : Nat} (hs : a + b = S + 2 ^ 256 * k) (hl : S < 2 ^ 256) : S = (a + b) % 2 ^ 256 ∧ k = (a + b) / 2 ^ 256 := by omega
theorem sub_fin {S a b k : Nat} (hs : S + b = a + 2 ^ 256 * k) (hl : S < 2 ^ 256) (ha : a < 2 ^ 256) (hb : b < 2 ^ 256) (hk : k ≤ 1) : S = (a + 2 ^ 256 - b) % 2 ^ 256 ∧ k = if a < b then 1 else 0 := by
  have : k = 0 ∨ k = 1 := by omega
  rcases this with e | e
  · subst e; rw [if_neg (by omega)]; omega
  · subst e; rw [if_pos (by omega)]; omega
theorem add_words {a b : Nat} (ha : a < 2 ^ 256) (hb : b < 2 ^ 256) :
    let k0 := c64 (w0 a) (w0 b) 0
    let k1 := c64 (w1 a) (w1 b) k0
    let k2 := c64 (w2 a) (w2 b) k1
    s64 (w0 a) (w0 b) 0 = w0 (addm a b) ∧ s64 (w1 a) (w1 b) k0 = w1 (addm a b) ∧ s64 (w2 a) (w2 b) k1 = w2 (addm a b) ∧ s64 (w3 a) (w3 b) k2 = w3 (addm a b) ∧
      c64 (w3 a) (w3 b) k2 = (a + b) / 2 ^ 256 := by
  intro k0 k1 k2
  have ea := ofW_w ha
  have eb := ofW_w hb
  obtain ⟨a0, a1, a2, a3⟩ := w_lt a
  obtain ⟨b0, b1, b2, b3⟩ := w_lt b
  obtain ⟨p0, q0⟩ := s64_eq (w0 a) (w0 b) 0
  obtain ⟨p1, q1⟩ := s64_eq (w1 a) (w1 b) k0
  obtain ⟨p2, q2⟩ := s64_eq (w2 a) (w2 b) k1
  obtain ⟨p3, q3⟩ := s64_eq (w3 a) (w3 b) k2
  change s64 (w0 a) (w0 b) 0 + 18446744073709551616 * k0 = _ at p0
  change s64 (w1 a) (w1 b) k0 + 18446744073709551616 * k1 = _ at p1
  change s64 (w2 a) (w2 b) k1 + 18446744073709551616 * k2 = _ at p2
  clear_value k0 k1 k2
  generalize s64 (w0 a) (w0 b) 0 = s0 at *
  generalize s64 (w1 a) (w1 b) k0 = s1 at *
  generalize s64 (w2 a) (w2 b) k1 = s2 at *
  generalize s64 (w3 a) (w3 b) k2 = s3 at *
  generalize c64 (w3 a) (w3 b) k2 = k3 at *
  unfold ofW at ea eb
  have hs : a + b = ofW s0 s1 s2 s3 + 2 ^ 256 * k3 := by clear q0 q1 q2 q3 a0 a1 a2 a3 b0 b1 b2 b3 ha hb; unfold ofW; omega
  have hl : ofW s0 s1 s2 s3 < 2 ^ 256 := (w_ofW q0 q1 q2 q3).2.2.2.2
  obtain ⟨hm, hk⟩ := add_fin hs hl
  obtain ⟨f0, f1, f2, f3⟩ := words_eq q0 q1 q2 q3 hm
  exact ⟨f0, f1, f2, f3, hk⟩
theorem sub_words {a b : Nat} (ha : a < 2 ^ 256) (hb : b < 2 ^ 256) :
    let k0 := b64 (w0 a) (w0 b) 0
    let k1 := b64 (w1 a) (w1 b) k0
    let k2 := b64 (w2 a) (w2 b) k1
    d64 (w0 a) (w0 b) 0 = w0 (subm a b) ∧ d64 (w1 a) (w1 b) k0 = w1 (subm a b) ∧ d64 (w2 a) (w2 b) k1 = w2 (subm a b) ∧ d64 (w3 a) (w3 b) k2 = w3 (subm a b) ∧
      b64 (w3 a) (w3 b) k2 = if a < b then 1 else 0 := by
  intro k0 k1 k2
  have ea := ofW_w ha
  have eb := ofW_w hb
  obtain ⟨a0, a1, a2, a3⟩ := w_lt a
  obtain ⟨b0, b1, b2, b3⟩ := w_lt b
  obtain ⟨p0, q0, r0⟩ := d64_eq a0 b0 (Nat.zero_le 1)
  change d64 (w0 a) (w0 b) 0 + w0 b + 0 = w0 a + 18446744073709551616 * k0 at p0
  change k0 ≤ 1 at r0
  obtain ⟨p1, q1, r1⟩ := d64_eq a1 b1 r0
  change d64 (w1 a) (w1 b) k0 + w1 b + k0 = w1 a + 18446744073709551616 * k1 at p1
  change k1 ≤ 1 at r1
  obtain ⟨p2, q2, r2⟩ := d64_eq a2 b2 r1
  change d64 (w2 a) (w2 b) k1 + w2 b + k1 = w2 a + 18446744073709551616 * k2 at p2
  change k2 ≤ 1 at r2
  obtain ⟨p3, q3, r3⟩ := d64_eq a3 b3 r2
  clear_value k0 k1 k2
  generalize d64 (w0 a) (w0 b) 0 = s0 at *
  generalize d64 (w1 a) (w1 b) k0 = s1 at *
  generalize d64 (w2 a) (w2 b) k1 = s2 at *
  generalize d64 (w3 a) (w3 b) k2 = s3 at *
  generalize b64 (w3 a) (w3 b) k2 = k3 at *
  unfold ofW at ea eb
  have hs : ofW s0 s1 s2 s3 + b = a + 2 ^ 256 * k3 := by clear q0 q1 q2 q3 a0 a1 a2 a3 b0 b1 b2 b3 ha hb r0 r1 r2 r3; unfold ofW; omega
  have hl : ofW s0 s1 s2 s3 < 2 ^ 256 := (w_ofW q0 q1 q2 q3).2.2.2.2
  obtain ⟨hm, hk⟩ := sub_fin hs hl ha hb r3
  obtain ⟨f0, f1, f2, f3⟩ := words_eq q0 q1 q2 q3 hm
  exact ⟨f0, f1, f2, f3, hk⟩
end Go.Proofs.Ytgghopmlcpcpkaa
