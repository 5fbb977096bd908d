/- A step of the proof: what a function of the program computes, or a plain law of numbers. -/
import Derived.Test.YtgghopmlcpcpkaaGroup
import Derived.Test.YtgghopmlcpcpkaaLucas
set_option linter.unusedVariables false
set_option linter.unusedSimpArgs false
namespace PlainK
section
variable {p : Nat} [NeZero p] {inv : Fin p → Fin p}

def times (inv : Fin p → Fin p) : Nat → Pt p → Pt p
  | 0, _ => .o
  | n + 1, a => padd' inv (times inv n a) a

theorem times_on (h : Good p inv) {a : Pt p} (ha : a.on) : ∀ n, (times inv n a).on
  | 0 => trivial
  | n + 1 => padd_on h (times_on h ha n) ha
theorem times_one (a : Pt p) : times inv 1 a = a := o_padd a
theorem times_add (h : Good p inv) {a : Pt p} (ha : a.on) (m : Nat) : ∀ n, times inv (m + n) a = padd' inv (times inv m a) (times inv n a)
  | 0 => (padd_o _).symm
  | n + 1 => by
    show padd' inv (times inv (m + n) a) a = padd' inv (times inv m a) (padd' inv (times inv n a) a)
    rw [times_add h ha m n, padd_assoc h (times_on h ha m) (times_on h ha n) ha]
theorem times_o : ∀ n, times inv n (.o : Pt p) = .o
  | 0 => rfl
  | n + 1 => by show padd' inv (times inv n .o) .o = .o; rw [times_o n]; rfl
theorem times_mul (h : Good p inv) {a : Pt p} (ha : a.on) (m : Nat) : ∀ n, times inv (m * n) a = times inv n (times inv m a)
  | 0 => rfl
  | n + 1 => by
    rw [Nat.mul_succ, times_add h ha, times_mul h ha m n]; rfl
theorem times_padd (h : Good p inv) {a b : Pt p} (ha : a.on) (hb : b.on) : ∀ n, times inv n (padd' inv a b) = padd' inv (times inv n a) (times inv n b)
  | 0 => rfl
  | n + 1 => by
    show padd' inv (times inv n (padd' inv a b)) (padd' inv a b) = padd' inv (padd' inv (times inv n a) a) (padd' inv (times inv n b) b)
    have na := times_on h ha n
    have nb := times_on h hb n
    rw [times_padd h ha hb n, padd_assoc h na nb (padd_on h ha hb), ← padd_assoc h nb ha hb, padd_comm h nb ha, padd_assoc h ha nb hb, ← padd_assoc h na ha (padd_on h nb hb)]
theorem cancel (h : Good p inv) {a b c : Pt p} (ha : a.on) (hb : b.on) (hc : c.on) (e : padd' inv a b = padd' inv a c) : b = c := by
  have h1 : padd' inv (pneg' a) (padd' inv a b) = b := by rw [← padd_assoc h (pneg_on ha) ha hb, neg_padd h ha, o_padd]
  have h2 : padd' inv (pneg' a) (padd' inv a c) = c := by rw [← padd_assoc h (pneg_on ha) ha hc, neg_padd h ha, o_padd]
  rw [← h1, e, h2]
theorem neg_unique (h : Good p inv) {a b : Pt p} (ha : a.on) (hb : b.on) (e : padd' inv a b = .o) : b = pneg' a :=
  cancel h ha hb (pneg_on ha) (by rw [e, padd_neg h ha])
theorem pneg_padd (h : Good p inv) {a b : Pt p} (ha : a.on) (hb : b.on) : pneg' (padd' inv a b) = padd' inv (pneg' a) (pneg' b) := by
  symm
  apply neg_unique h (padd_on h ha hb) (padd_on h (pneg_on ha) (pneg_on hb))
  rw [padd_comm h (pneg_on ha) (pneg_on hb), padd_assoc h ha hb (padd_on h (pneg_on hb) (pneg_on ha)), ← padd_assoc h hb (pneg_on hb) (pneg_on ha), padd_neg h hb, o_padd, padd_neg h ha]
theorem times_neg (h : Good p inv) {a : Pt p} (ha : a.on) : ∀ n, times inv n (pneg' a) = pneg' (times inv n a)
  | 0 => rfl
  | n + 1 => by
    show padd' inv (times inv n (pneg' a)) (pneg' a) = pneg' (padd' inv (times inv n a) a)
    rw [times_neg h ha n, pneg_padd h (times_on h ha n) ha]

/-- twice is none of them for None alone -/
theorem no_two (h : Good p inv) {b : Pt p} (hb : b.on) (e : padd' inv b b = .o) : b = .o := by
  cases b with
  | o => rfl
  | pt x y =>
    have hy := y_ne h hb
    simp only [padd', if_true] at e
    rw [if_pos ⟨trivial, hy⟩] at e
    simp [third] at e

/-- a number for each point -/
def code : Pt p → Nat
  | .o => 2 * p
  | .pt x y => 2 * x.val + y.val % 2

omit [NeZero p] in
theorem code_lt (a : Pt p) : code a < 2 * p + 1 := by
  cases a with
  | o => simp [code]
  | pt x y => have := x.isLt; simp only [code]; omega

theorem code_inj (h : Good p inv) (hodd : p % 2 = 1) {a b : Pt p} (ha : a.on) (hb : b.on) (e : code a = code b) : a = b := by
  cases a with
  | o =>
    cases b with
    | o => rfl
    | pt x y => have := x.isLt; simp only [code] at e; omega
  | pt x y =>
    cases b with
    | o => have := x.isLt; simp only [code] at e; omega
    | pt x' y' =>
      simp only [code] at e
      have hx : x = x' := Fin.ext (by omega)
      subst hx
      by_cases hy : y = y'
      · rw [hy]
      · exfalso
        have hn := neg_of_ne h ha hb hy
        have h0 := y_ne h ha
        have hv : y'.val = p - y.val := by
          rw [hn, Fin.val_neg]; simp [h0]
        have hy0 : y.val ≠ 0 := by
          intro e0; apply h0; exact Fin.ext (by simpa using e0)
        have := y.isLt
        omega

/-- in the group of G -/
def inG (inv : Fin p → Fin p) (N : Nat) (G a : Pt p) : Prop := ∃ k, k < N ∧ a = times inv k G

structure Gen (inv : Fin p → Fin p) (N : Nat) (G : Pt p) : Prop where
  on : G.on
  ne : G ≠ .o
  prime : IsPrime N
  odd : N % 2 = 1
  zero : times inv N G = .o
  many : 2 * p + 1 < 3 * N

theorem times_mod (h : Good p inv) {N : Nat} {a : Pt p} (ha : a.on) (hz : times inv N a = .o) (k : Nat) : times inv (k % N) a = times inv k a := by
  have e : times inv (N * (k / N) + k % N) a = times inv (k % N) a := by
    rw [times_add h ha, times_mul h ha, hz, times_o, o_padd]
  rw [← e, Nat.div_add_mod]

theorem Gen.inG (h : Good p inv) {N : Nat} {G : Pt p} (g : Gen inv N G) (k : Nat) : PlainK.inG inv N G (times inv k G) :=
  ⟨k % N, Nat.mod_lt _ (by have := g.prime.1; omega), (times_mod h g.on g.zero k).symm⟩

theorem Gen.order (h : Good p inv) {N : Nat} {G : Pt p} (g : Gen inv N G) : ∀ n k, k ≤ n → 0 < k → k < N → times inv k G ≠ .o
  | 0, k, hk, h0, _ => by omega
  | n + 1, k, hk, h0, hN => by
    intro hz
    by_cases hm : N % k = 0
    · rcases g.prime.2 k (Nat.dvd_of_mod_eq_zero hm) with e | e
      · subst e; rw [times_one] at hz; exact g.ne hz
      · omega
    · refine Gen.order h g n (N % k) (by have := Nat.mod_lt N h0; omega) (by omega) (by have := Nat.mod_lt N h0; omega) ?_
      rw [times_mod h g.on hz]; exact g.zero

theorem Gen.inj (h : Good p inv) {N : Nat} {G : Pt p} (g : Gen inv N G) {i j : Nat} (hij : i < j) (hj : j < N) : times inv i G ≠ times inv j G := by
  intro e
  have hs : times inv j G = padd' inv (times inv i G) (times inv (j - i) G) := by rw [← times_add h g.on, show i + (j - i) = j by omega]
  have : times inv (j - i) G = .o := by
    apply cancel h (times_on h g.on i) (times_on h g.on (j - i)) (show (Pt.o : Pt p).on from trivial)
    rw [← hs, ← e, padd_o]
  exact Gen.order h g (j - i) (j - i) (Nat.le_refl _) (by omega) (by omega) this

theorem inG_neg (h : Good p inv) {N : Nat} {G : Pt p} (g : Gen inv N G) {a : Pt p} (ha : PlainK.inG inv N G a) : PlainK.inG inv N G (pneg' a) := by
  obtain ⟨k, hk, rfl⟩ := ha
  have e : pneg' (times inv k G) = times inv (N - k) G := by
    symm
    apply neg_unique h (times_on h g.on k) (times_on h g.on _)
    rw [← times_add h g.on, show k + (N - k) = N by omega]; exact g.zero
  rw [e]; exact g.inG h _

theorem inG_add (h : Good p inv) {N : Nat} {G : Pt p} (g : Gen inv N G) {a b : Pt p} (ha : PlainK.inG inv N G a) (hb : PlainK.inG inv N G b) : PlainK.inG inv N G (padd' inv a b) := by
  obtain ⟨k, hk, rfl⟩ := ha
  obtain ⟨m, hm, rfl⟩ := hb
  rw [← times_add h g.on]; exact g.inG h _

/-- a + b = c with b, c in the group: so is a -/
theorem inG_of_add (h : Good p inv) {N : Nat} {G : Pt p} (g : Gen inv N G) {a b c : Pt p} (ha : a.on) (hb : PlainK.inG inv N G b) (hc : PlainK.inG inv N G c) (e : padd' inv a b = c) : PlainK.inG inv N G a := by
  have hbo : b.on := by obtain ⟨k, _, rfl⟩ := hb; exact times_on h g.on k
  have : a = padd' inv c (pneg' b) := by
    rw [← e, padd_assoc h ha hbo (pneg_on hbo), padd_neg h hbo, padd_o]
  rw [this]; exact inG_add h g hc (inG_neg h g hb)

/-- twice a point is in the group: so is the point -/
theorem inG_of_twice (h : Good p inv) {N : Nat} {G : Pt p} (g : Gen inv N G) {a : Pt p} (ha : a.on) (e : PlainK.inG inv N G (padd' inv a a)) : PlainK.inG inv N G a := by
  obtain ⟨k, hk, hk2⟩ := e
  have hodd := g.odd
  obtain ⟨m, hm⟩ : ∃ m, times inv k G = times inv (m + m) G := by
    by_cases h2 : k % 2 = 0
    · exact ⟨k / 2, by rw [show k / 2 + k / 2 = k by omega]⟩
    · refine ⟨(k + N) / 2, ?_⟩
      rw [show (k + N) / 2 + (k + N) / 2 = k + N by omega, times_add h g.on, g.zero, padd_o]
  rw [hm, times_add h g.on] at hk2
  have mo := times_on h g.on (inv := inv) m
  have hb : padd' inv a (pneg' (times inv m G)) = .o := by
    apply no_two h (padd_on h ha (pneg_on mo))
    have no := pneg_on mo
    rw [padd_assoc h ha no (padd_on h ha no), ← padd_assoc h no ha no, padd_comm h no ha, padd_assoc h ha no no, ← padd_assoc h ha ha (padd_on h no no), hk2, ← pneg_padd h mo mo, padd_neg h (padd_on h mo mo)]
  have := neg_unique h ha (pneg_on mo) hb
  have e2 : a = times inv m G := by
    have e3 := congrArg pneg' this
    rw [pneg_pneg, pneg_pneg] at e3; exact e3.symm
  rw [e2]; exact g.inG h _

theorem Gen.all (h : Good p inv) (hodd : p % 2 = 1) {N : Nat} {G : Pt p} (g : Gen inv N G) {a : Pt p} (ha : a.on) : PlainK.inG inv N G a := by
  apply Classical.byContradiction
  intro hn
  have hN := g.prime.1
  have hna : ¬ PlainK.inG inv N G (pneg' a) := fun hh => hn (by have := inG_neg h g hh; rwa [pneg_pneg] at this)
  let f : Nat → Pt p := fun i => if i < N then times inv i G else if i < 2 * N then padd' inv a (times inv (i - N) G) else padd' inv (pneg' a) (times inv (i - 2 * N) G)
  have hf : ∀ i, (f i).on := by
    intro i
    show (if i < N then times inv i G else if i < 2 * N then padd' inv a (times inv (i - N) G) else padd' inv (pneg' a) (times inv (i - 2 * N) G)).on
    split
    · exact times_on h g.on _
    · split
      · exact padd_on h ha (times_on h g.on _)
      · exact padd_on h (pneg_on ha) (times_on h g.on _)
  obtain ⟨i, j, hij, hj, he⟩ := php (3 * N - 1) (fun i => code (f i)) (by
    intro i _
    have := code_lt (f i)
    have := g.many
    show code (f i) < 3 * N - 1
    omega)
  have e := code_inj h hodd (hf i) (hf j) he
  by_cases i1 : i < N
  · by_cases j1 : j < N
    · simp only [f, i1, j1, if_true] at e; exact g.inj h hij j1 e
    · by_cases j2 : j < 2 * N
      · simp only [f, i1, j1, j2, if_true, if_false] at e
        exact hn (inG_of_add h g ha (g.inG h _) (g.inG h i) e.symm)
      · simp only [f, i1, j1, j2, if_true, if_false] at e
        exact hna (inG_of_add h g (pneg_on ha) (g.inG h _) (g.inG h i) e.symm)
  · have j1 : ¬ j < N := by omega
    by_cases i2 : i < 2 * N
    · by_cases j2 : j < 2 * N
      · simp only [f, i1, j1, i2, j2, if_true, if_false] at e
        exact g.inj h (show i - N < j - N by omega) (by omega) (cancel h ha (times_on h g.on _) (times_on h g.on _) e)
      · simp only [f, i1, j1, i2, j2, if_true, if_false] at e
        apply hn
        apply inG_of_twice h g ha
        have ao := times_on h g.on (inv := inv) (i - N)
        have bo := times_on h g.on (inv := inv) (j - 2 * N)
        have : padd' inv (padd' inv a a) (times inv (i - N) G) = times inv (j - 2 * N) G := by
          rw [padd_assoc h ha ha ao, e, ← padd_assoc h ha (pneg_on ha) bo, padd_neg h ha, o_padd]
        exact inG_of_add h g (padd_on h ha ha) (g.inG h _) (g.inG h _) this
    · have j2 : ¬ j < 2 * N := by omega
      simp only [f, i1, j1, i2, j2, if_false] at e
      exact g.inj h (show i - 2 * N < j - 2 * N by omega) (by omega) (cancel h (pneg_on ha) (times_on h g.on _) (times_on h g.on _) e)

/-- so many times the order nothing is left -/
theorem Gen.kills (h : Good p inv) (hodd : p % 2 = 1) {N : Nat} {G : Pt p} (g : Gen inv N G) {a : Pt p} (ha : a.on) : times inv N a = .o := by
  obtain ⟨k, _, rfl⟩ := g.all h hodd ha
  rw [← times_mul h g.on, Nat.mul_comm, times_mul h g.on, g.zero, times_o]
end
end PlainK
