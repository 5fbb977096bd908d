/- A step of the proof: what a function of the program computes, or a plain law of numbers. -/
set_option linter.unusedVariables false
set_option linter.unusedSimpArgs false
namespace PlainK

/-- circuits over numbered variables -/
inductive Ci where
  | const (n : Int)
  | var (i : Nat)
  | add (a b : Ci)
  | mul (a b : Ci)
  | neg (a : Ci)

namespace Ci

def ev (v : Nat → Int) : Ci → Int
  | const n => n
  | var i => v i
  | add a b => ev v a + ev v b
  | mul a b => ev v a * ev v b
  | neg a => - ev v a

def mj (v : Nat → Nat) : Ci → Nat
  | const n => n.natAbs
  | var i => v i
  | add a b => mj v a + mj v b
  | mul a b => mj v a * mj v b
  | neg a => mj v a

/-- only variables inVars n -/
def inVars (n : Nat) : Ci → Prop
  | const _ => True
  | var i => i < n
  | add a b => inVars n a ∧ inVars n b
  | mul a b => inVars n a ∧ inVars n b
  | neg a => inVars n a

theorem ev_congr {n : Nat} {v u : Nat → Int} (h : ∀ i, i < n → v i = u i) : ∀ c : Ci, c.inVars n → c.ev v = c.ev u
  | const _, _ => rfl
  | var i, hb => h i hb
  | add a b, hb => by simp only [ev]; rw [ev_congr h a hb.1, ev_congr h b hb.2]
  | mul a b, hb => by simp only [ev]; rw [ev_congr h a hb.1, ev_congr h b hb.2]
  | neg a, hb => by simp only [ev]; rw [ev_congr h a hb]

theorem mj_congr {n : Nat} {v u : Nat → Nat} (h : ∀ i, i < n → v i = u i) : ∀ c : Ci, c.inVars n → c.mj v = c.mj u
  | const _, _ => rfl
  | var i, hb => h i hb
  | add a b, hb => by simp only [mj]; rw [mj_congr h a hb.1, mj_congr h b hb.2]
  | mul a b, hb => by simp only [mj]; rw [mj_congr h a hb.1, mj_congr h b hb.2]
  | neg a, hb => by simp only [mj]; rw [mj_congr h a hb]

/-! polynomials in one variable, with circuits for coefficients, the lowest first -/
def padd : List Ci → List Ci → List Ci
  | [], q => q
  | p, [] => p
  | a :: p, b :: q => add a b :: padd p q
def pscale (a : Ci) : List Ci → List Ci
  | [] => []
  | b :: q => mul a b :: pscale a q
def pmul : List Ci → List Ci → List Ci
  | [], _ => []
  | a :: p, q => padd (pscale a q) (const 0 :: pmul p q)
def pneg : List Ci → List Ci
  | [] => []
  | a :: p => neg a :: pneg p

def pev (v : Nat → Int) (x : Int) : List Ci → Int
  | [] => 0
  | a :: p => a.ev v + x * pev v x p
def pmj (v : Nat → Nat) (x : Nat) : List Ci → Nat
  | [] => 0
  | a :: p => a.mj v + x * pmj v x p

theorem pev_padd (v : Nat → Int) (x : Int) : ∀ p q, pev v x (padd p q) = pev v x p + pev v x q
  | [], q => by simp [padd, pev]
  | a :: p, [] => by simp [padd, pev]
  | a :: p, b :: q => by simp only [padd, pev, ev, pev_padd v x p q]; grind
theorem pev_pscale (v : Nat → Int) (x : Int) (a : Ci) : ∀ q, pev v x (pscale a q) = a.ev v * pev v x q
  | [] => by simp [pscale, pev]
  | b :: q => by simp only [pscale, pev, ev, pev_pscale v x a q]; grind
theorem pev_pmul (v : Nat → Int) (x : Int) : ∀ p q, pev v x (pmul p q) = pev v x p * pev v x q
  | [], q => by simp [pmul, pev]
  | a :: p, q => by simp only [pmul, pev, pev_padd, pev_pscale, ev, pev_pmul v x p q]; grind
theorem pev_pneg (v : Nat → Int) (x : Int) : ∀ p, pev v x (pneg p) = - pev v x p
  | [] => by simp [pneg, pev]
  | a :: p => by simp only [pneg, pev, ev, pev_pneg v x p]; grind

theorem pmj_padd (v : Nat → Nat) (x : Nat) : ∀ p q, pmj v x (padd p q) = pmj v x p + pmj v x q
  | [], q => by simp [padd, pmj]
  | a :: p, [] => by simp [padd, pmj]
  | a :: p, b :: q => by simp only [padd, pmj, mj, pmj_padd v x p q]; grind
theorem pmj_pscale (v : Nat → Nat) (x : Nat) (a : Ci) : ∀ q, pmj v x (pscale a q) = a.mj v * pmj v x q
  | [] => by simp [pscale, pmj]
  | b :: q => by simp only [pscale, pmj, mj, pmj_pscale v x a q]; grind
theorem pmj_pmul (v : Nat → Nat) (x : Nat) : ∀ p q, pmj v x (pmul p q) = pmj v x p * pmj v x q
  | [], q => by simp [pmul, pmj]
  | a :: p, q => by simp only [pmul, pmj, pmj_padd, pmj_pscale, mj, pmj_pmul v x p q, Int.natAbs_zero]; grind
theorem pmj_pneg (v : Nat → Nat) (x : Nat) : ∀ p, pmj v x (pneg p) = pmj v x p
  | [] => by simp [pneg, pmj]
  | a :: p => by simp only [pneg, pmj, mj, pmj_pneg v x p]

/-- a circuit, as a polynomial in variable n -/
def poly (n : Nat) : Ci → List Ci
  | const k => [const k]
  | var i => if i = n then [const 0, const 1] else [var i]
  | add a b => padd (poly n a) (poly n b)
  | mul a b => pmul (poly n a) (poly n b)
  | neg a => pneg (poly n a)

theorem pev_poly (n : Nat) (v : Nat → Int) : ∀ c : Ci, pev v (v n) (poly n c) = c.ev v
  | const k => by simp [poly, pev, ev]
  | var i => by
    by_cases h : i = n
    · subst h; simp [poly, pev, ev]
    · simp [poly, pev, ev, h]
  | add a b => by simp only [poly, pev_padd, ev, pev_poly n v a, pev_poly n v b]
  | mul a b => by simp only [poly, pev_pmul, ev, pev_poly n v a, pev_poly n v b]
  | neg a => by simp only [poly, pev_pneg, ev, pev_poly n v a]

theorem pmj_poly (n : Nat) (v : Nat → Nat) : ∀ c : Ci, pmj v (v n) (poly n c) = c.mj v
  | const k => by simp [poly, pmj, mj]
  | var i => by
    by_cases h : i = n
    · subst h; simp [poly, pmj, mj]
    · simp [poly, pmj, mj, h]
  | add a b => by simp only [poly, pmj_padd, mj, pmj_poly n v a, pmj_poly n v b]
  | mul a b => by simp only [poly, pmj_pmul, mj, pmj_poly n v a, pmj_poly n v b]
  | neg a => by simp only [poly, pmj_pneg, mj, pmj_poly n v a]

def allIn (n : Nat) : List Ci → Prop
  | [] => True
  | a :: p => a.inVars n ∧ allIn n p
theorem allIn_padd {n : Nat} : ∀ {p q : List Ci}, allIn n p → allIn n q → allIn n (padd p q)
  | [], q, _, h => by simpa [padd] using h
  | a :: p, [], h, _ => by simpa [padd] using h
  | a :: p, b :: q, h, k => ⟨⟨h.1, k.1⟩, allIn_padd h.2 k.2⟩
theorem allIn_pscale {n : Nat} {a : Ci} (ha : a.inVars n) : ∀ {q : List Ci}, allIn n q → allIn n (pscale a q)
  | [], _ => trivial
  | b :: q, k => ⟨⟨ha, k.1⟩, allIn_pscale ha k.2⟩
theorem allIn_pmul {n : Nat} : ∀ {p q : List Ci}, allIn n p → allIn n q → allIn n (pmul p q)
  | [], q, _, _ => trivial
  | a :: p, q, h, k => allIn_padd (allIn_pscale h.1 k) ⟨trivial, allIn_pmul h.2 k⟩
theorem allIn_pneg {n : Nat} : ∀ {p : List Ci}, allIn n p → allIn n (pneg p)
  | [], _ => trivial
  | a :: p, h => ⟨h.1, allIn_pneg h.2⟩
theorem allIn_poly {n : Nat} : ∀ {c : Ci}, c.inVars (n + 1) → allIn n (poly n c)
  | const k, _ => ⟨trivial, trivial⟩
  | var i, h => by
    by_cases e : i = n
    · simp [poly, e, allIn, inVars]
    · simp only [poly, e, if_false, allIn, inVars, and_true]; simp only [inVars] at h; omega
  | add a b, h => allIn_padd (allIn_poly h.1) (allIn_poly h.2)
  | mul a b, h => allIn_pmul (allIn_poly h.1) (allIn_poly h.2)
  | neg a, h => allIn_pneg (allIn_poly (c := a) h)

theorem natAbs_ev (v : Nat → Int) : ∀ c : Ci, (c.ev v).natAbs ≤ c.mj (fun i => (v i).natAbs)
  | const k => Nat.le_refl _
  | var i => Nat.le_refl _
  | add a b => Nat.le_trans (Int.natAbs_add_le _ _) (Nat.add_le_add (natAbs_ev v a) (natAbs_ev v b))
  | mul a b => by simp only [ev, mj, Int.natAbs_mul]; exact Nat.mul_le_mul (natAbs_ev v a) (natAbs_ev v b)
  | neg a => by simp only [ev, mj, Int.natAbs_neg]; exact natAbs_ev v a

/-- a polynomial with coefficients that are small beside x, and that is 0 at x, has no coefficient but 0 -/
theorem all_zero (v : Nat → Int) (x : Int) : ∀ p : List Ci, pmj (fun i => (v i).natAbs) 1 p < x.natAbs → pev v x p = 0 → ∀ a ∈ p, a.ev v = 0
  | [], _, _ => by simp
  | a :: p, hm, h0 => by
    simp only [pmj, Nat.one_mul] at hm
    simp only [pev] at h0
    have h1 := natAbs_ev v a
    have hx : (a.ev v).natAbs < x.natAbs := by omega
    have hd : x ∣ a.ev v := ⟨- pev v x p, by grind⟩
    have ha : a.ev v = 0 := by
      have := Int.eq_zero_of_dvd_of_natAbs_lt_natAbs hd hx
      exact this
    have hp : pev v x p = 0 := by
      rw [ha, Int.zero_add] at h0
      rcases Int.mul_eq_zero.1 h0 with h | h
      · rw [h] at hx; simp at hx
      · exact h
    intro b hb
    rcases List.mem_cons.1 hb with e | e
    · rw [e]; exact ha
    · exact all_zero v x p (by omega) hp b e

theorem mj_le_pmj (v : Nat → Nat) {a : Ci} : ∀ {p : List Ci}, a ∈ p → a.mj v ≤ pmj v 1 p
  | [], h => by cases h
  | b :: p, h => by
    simp only [pmj, Nat.one_mul]
    rcases List.mem_cons.1 h with e | e
    · rw [e]; omega
    · have := mj_le_pmj v e; omega

theorem pev_zero (v : Nat → Int) (x : Int) : ∀ p : List Ci, (∀ a ∈ p, a.ev v = 0) → pev v x p = 0
  | [], _ => rfl
  | a :: p, h => by
    simp only [pev]; rw [h a (List.mem_cons_self ..), pev_zero v x p (fun b hb => h b (List.mem_cons_of_mem _ hb))]; simp

theorem in_of_mem {n : Nat} {a : Ci} : ∀ {p : List Ci}, allIn n p → a ∈ p → a.inVars n
  | [], _, h => by cases h
  | b :: p, hp, h => by
    rcases List.mem_cons.1 h with e | e
    · rw [e]; exact hp.1
    · exact in_of_mem hp.2 e

/-- the point's front part, then ones -/
def front (B : Nat → Nat) (k : Nat) : Nat → Nat := fun i => if i < k then B i else 1

/-- A circuit that is 0 at one point whose coordinates grow fast enough is 0 at all points. -/
theorem zero_everywhere (B : Nat → Nat) : ∀ (n : Nat) (c : Ci), c.inVars n → (∀ k, k < n → c.mj (front B k) < B k) →
    c.ev (fun i => (B i : Int)) = 0 → ∀ u : Nat → Int, c.ev u = 0
  | 0, c, hb, _, h0, u => by
    rw [← h0]; exact ev_congr (n := 0) (fun i h => absurd h (Nat.not_lt_zero _)) c hb
  | n + 1, c, hb, hd, h0, u => by
    have hp := allIn_poly hb
    have hz : ∀ a ∈ poly n c, a.ev (fun i => (B i : Int)) = 0 := by
      refine all_zero (fun i => (B i : Int)) (B n) (poly n c) ?_ ?_
      · have e := hd n (Nat.lt_succ_self n)
        have e2 : pmj (front B n) ((front B n) n) (poly n c) = c.mj (front B n) := pmj_poly n (front B n) c
        have e3 : (front B n) n = 1 := by simp [front]
        rw [e3] at e2
        have e4 : ∀ p : List Ci, allIn n p → pmj (fun i => ((B i : Int)).natAbs) 1 p = pmj (front B n) 1 p := by
          intro p
          induction p with
          | nil => intro _; rfl
          | cons a p ih =>
            intro hh
            simp only [pmj]
            rw [ih hh.2, mj_congr (n := n) (u := front B n) (fun i hi => by simp [front, hi]) a hh.1]
        rw [e4 _ hp, e2, Int.natAbs_natCast]; exact e
      · have := pev_poly n (fun i => (B i : Int)) c
        rw [h0] at this; exact this
    have hall : ∀ a ∈ poly n c, a.ev u = 0 := by
      intro a ha
      refine zero_everywhere B n a (in_of_mem hp ha) ?_ (hz a ha) u
      intro k hk
      refine Nat.lt_of_le_of_lt ?_ (hd k (by omega))
      have e2 : pmj (front B k) ((front B k) n) (poly n c) = c.mj (front B k) := pmj_poly n (front B k) c
      have e3 : (front B k) n = 1 := by simp [front]; omega
      rw [e3] at e2
      rw [← e2]; exact mj_le_pmj _ ha
    rw [← pev_poly n u c]
    exact pev_zero u (u n) _ hall

end Ci
end PlainK
