/- Decimal numbers: the quotient that is rounded once, and the reference's division by bits. -/
import Derived.Test.YtjkjdcejojpikaaB12
import Derived.Test.YtjkjdcejojpikaaRx2
namespace Go.Proofs.Ytjkjdcejojpikaa
open Go.RowKit Go.Proofs.YtjkjdcejojpikaaW.PrintWords Go.Proofs.YtjkjdcejojpikaaW.PrintMore Fl R

/-- A quotient of whole numbers, rounded to the even one. -/
def rnd (N y : Nat) : Nat := N / y + (decide (y < 2 * (N % y)) || (y == 2 * (N % y) && N / y % 2 == 1)).toNat
theorem rnd_scale (N y c : Nat) (hc : 0 < c) : rnd (N * c) (y * c) = rnd N y := by
  unfold rnd
  rw [Nat.mul_div_mul_right _ _ hc, Nat.mul_mod_mul_right]
  have c1 : decide (y * c < 2 * (N % y * c)) = decide (y < 2 * (N % y)) := by
    rw [← Nat.mul_assoc]; exact decide_eq_decide.2 (Nat.mul_lt_mul_right hc)
  have c2 : (y * c == 2 * (N % y * c)) = (y == 2 * (N % y)) := by
    rw [← Nat.mul_assoc, Bool.eq_iff_iff, beq_iff_eq, beq_iff_eq]; exact Nat.mul_right_cancel_iff hc ..
  rw [c1, c2]

/-- With two digits more and a last one that tells of a rest, nothing is lost. -/
theorem sticky (s : Bool) (N y k : Nat) (hy : 0 < y) (hk : k = 1 ∨ k = 2) (hbig : 2 ^ k ≤ 2 * (2 ^ k * N / y)) :
    Ieee.Toward.even.cut s (2 * (2 ^ k * N / y) + (2 ^ k * N % y != 0).toNat) (k + 1) = rnd N y := by
  rw [cut_def]
  have hlog : k + 1 ≤ (2 * (2 ^ k * N / y) + (2 ^ k * N % y != 0).toNat).log2 + 2 := by
    have h0 : 2 * (2 ^ k * N / y) + (2 ^ k * N % y != 0).toNat ≠ 0 := by
      have := Nat.two_pow_pos k; omega
    have := log2_ge (k := k) h0 (by omega)
    omega
  rw [Nat.min_eq_left hlog]
  have hdm := Nat.div_add_mod N y
  have hml := Nat.mod_lt N hy
  generalize hq : N / y = q at *
  generalize hr : N % y = r at *
  -- 2^k * N = y * (2^k q + t) + v with 2^k r = y t + v
  have hdm2 := Nat.div_add_mod (2 ^ k * r) y
  have hml2 := Nat.mod_lt (2 ^ k * r) hy
  generalize ht : 2 ^ k * r / y = t at *
  generalize hv : 2 ^ k * r % y = v at *
  have hN : 2 ^ k * N = y * (2 ^ k * q + t) + v := by
    rw [← hdm, Nat.mul_add, Nat.mul_add, ← hdm2]
    rw [Nat.mul_left_comm, Nat.add_assoc]
  have hQ : 2 ^ k * N / y = 2 ^ k * q + t := by
    rw [hN, Nat.mul_add_div hy, Nat.div_eq_of_lt hml2, Nat.add_zero]
  have hM : 2 ^ k * N % y = v := by
    rw [hN, Nat.mul_add_mod, Nat.mod_eq_of_lt hml2]
  have htk : t < 2 ^ k := by
    rw [← ht, Nat.div_lt_iff_lt_mul hy]
    exact Nat.mul_lt_mul_of_pos_left hml (Nat.two_pow_pos k)
  rw [hQ, hM]
  unfold rnd
  rw [hq, hr]
  have hst : ((v != 0).toNat = 0 ∧ v = 0) ∨ ((v != 0).toNat = 1 ∧ 0 < v) := by
    by_cases h : v = 0
    · left; rw [h]; exact ⟨rfl, rfl⟩
    · right; exact ⟨by rw [bne_iff_ne.2 h]; rfl, by omega⟩
  generalize (v != 0).toNat = st at *
  rcases hk with rfl | rfl
  · -- one digit more
    simp only [show (2 : Nat) ^ 1 = 2 from rfl, show (2 : Nat) ^ (1 + 1) = 4 from rfl] at *
    have e1 : (2 * (2 * q + t) + st) / 4 = q := by omega
    have e2 : (2 * (2 * q + t) + st) % 4 = 2 * t + st := by omega
    rw [e1, e2]
    congr 2
    have ht2 : t = 0 ∨ t = 1 := by omega
    rcases ht2 with rfl | rfl
    · have a1 : decide (4 < 2 * (2 * 0 + st)) = false := by simp; omega
      have a2 : (4 == 2 * (2 * 0 + st)) = false := by simp; omega
      have a3 : decide (y < 2 * r) = false := by simp; omega
      have a4 : (y == 2 * r) = false := by simp; omega
      rw [a1, a2, a3, a4]
    · rcases hst with ⟨h1, h2⟩ | ⟨h1, h2⟩
      · have a1 : decide (4 < 2 * (2 * 1 + st)) = false := by simp; omega
        have a2 : (4 == 2 * (2 * 1 + st)) = true := by simp; omega
        have a3 : decide (y < 2 * r) = false := by simp; omega
        have a4 : (y == 2 * r) = true := by simp; omega
        rw [a1, a2, a3, a4]
      · have a1 : decide (4 < 2 * (2 * 1 + st)) = true := by simp; omega
        have a3 : decide (y < 2 * r) = true := by simp; omega
        rw [a1, a3]; rfl
  · simp only [show (2 : Nat) ^ 2 = 4 from rfl, show (2 : Nat) ^ (2 + 1) = 8 from rfl] at *
    have e1 : (2 * (4 * q + t) + st) / 8 = q := by omega
    have e2 : (2 * (4 * q + t) + st) % 8 = 2 * t + st := by omega
    rw [e1, e2]
    congr 2
    have ht2 : t = 0 ∨ t = 1 ∨ t = 2 ∨ t = 3 := by omega
    rcases ht2 with rfl | rfl | rfl | rfl
    · have a1 : decide (8 < 2 * (2 * 0 + st)) = false := by simp; omega
      have a2 : (8 == 2 * (2 * 0 + st)) = false := by simp; omega
      have a3 : decide (y < 2 * r) = false := by simp; omega
      have a4 : (y == 2 * r) = false := by simp; omega
      rw [a1, a2, a3, a4]
    · have a1 : decide (8 < 2 * (2 * 1 + st)) = false := by simp; omega
      have a2 : (8 == 2 * (2 * 1 + st)) = false := by simp; omega
      have a3 : decide (y < 2 * r) = false := by simp; omega
      have a4 : (y == 2 * r) = false := by simp; omega
      rw [a1, a2, a3, a4]
    · rcases hst with ⟨h1, h2⟩ | ⟨h1, h2⟩
      · have a1 : decide (8 < 2 * (2 * 2 + st)) = false := by simp; omega
        have a2 : (8 == 2 * (2 * 2 + st)) = true := by simp; omega
        have a3 : decide (y < 2 * r) = false := by simp; omega
        have a4 : (y == 2 * r) = true := by simp; omega
        rw [a1, a2, a3, a4]
      · have a1 : decide (8 < 2 * (2 * 2 + st)) = true := by simp; omega
        have a3 : decide (y < 2 * r) = true := by simp; omega
        rw [a1, a3]; rfl
    · have a1 : decide (8 < 2 * (2 * 3 + st)) = true := by simp; omega
      have a3 : decide (y < 2 * r) = true := by simp; omega
      rw [a1, a3]; rfl

/-- A small whole number as a word. -/
theorem read_small (n : Nat) (h0 : n ≠ 0) (h : n < 9007199254740992) : Ieee.double.read (Ieee.double.nearest false n 0) = .number false (n * 2 ^ (52 - n.log2)) ((n.log2 : Int) - 52) ∧ 4503599627370496 ≤ n * 2 ^ (52 - n.log2) ∧ n * 2 ^ (52 - n.log2) < 9007199254740992 ∧ n.log2 ≤ 52 := by
  have hl : n.log2 ≤ 52 := by
    have := log2_lt (k := 53) h0 (by omega); omega
  rw [nearest_whole _ _ h0 (by omega)]
  have hself := @Nat.lt_log2_self n
  have hself2 := Nat.log2_self_le h0
  have hr := rnd_lt n h0 (by omega)
  have eB : Bn = 4503599627370496 := rfl
  have eI : Ir = 9218868437227405312 := rfl
  have hrr : rndRung n n.log2 = (n.log2 + 1022) * 4503599627370496 + n * 2 ^ (52 - n.log2) := by
    unfold rndRung; rw [if_neg (by omega)]
  have hq1 : n * 2 ^ (52 - n.log2) < 9007199254740992 := by
    have : n * 2 ^ (52 - n.log2) < 2 ^ (n.log2 + 1) * 2 ^ (52 - n.log2) := Nat.mul_lt_mul_of_pos_right hself (Nat.two_pow_pos _)
    rw [← Nat.pow_add, show n.log2 + 1 + (52 - n.log2) = 53 by omega] at this
    omega
  have hq2 : 4503599627370496 ≤ n * 2 ^ (52 - n.log2) := by
    have : 2 ^ n.log2 * 2 ^ (52 - n.log2) ≤ n * 2 ^ (52 - n.log2) := Nat.mul_le_mul_right _ hself2
    rw [← Nat.pow_add, show n.log2 + (52 - n.log2) = 52 by omega] at this
    omega
  refine ⟨?_, hq2, hq1, hl⟩
  rw [read_number false _ (by rw [hrr, eB]; omega) (by omega)]
  have hdiv : rndRung n n.log2 / Bn = n.log2 + 1023 := by rw [hrr, eB]; omega
  have hmod : Bn + rndRung n n.log2 % Bn = n * 2 ^ (52 - n.log2) := by rw [hrr, eB]; omega
  have he : ((n.log2 + 1023 : Nat) : Int) - 1075 = (n.log2 : Int) - 52 := by omega
  rw [hdiv, hmod, he]

theorem same_exp (m d a b i j : Nat) (h1 : d * 2 ^ b ≤ m * 2 ^ a) (h2 : m * 2 ^ a < 2 * (d * 2 ^ b)) (h3 : d * 2 ^ i ≤ m * 2 ^ j) (h4 : m * 2 ^ j < 2 * (d * 2 ^ i)) : a + i = b + j := by
  have pi := Nat.two_pow_pos i
  have pb := Nat.two_pow_pos b
  have q1 : d * 2 ^ (b + i) ≤ m * 2 ^ (a + i) := by
    rw [Nat.pow_add, Nat.pow_add, ← Nat.mul_assoc, ← Nat.mul_assoc]; exact Nat.mul_le_mul_right _ h1
  have q2 : m * 2 ^ (a + i) < 2 * (d * 2 ^ (b + i)) := by
    rw [Nat.pow_add, Nat.pow_add, ← Nat.mul_assoc, ← Nat.mul_assoc, ← Nat.mul_assoc]
    have := Nat.mul_lt_mul_of_pos_right h2 pi
    rw [← Nat.mul_assoc] at this; exact this
  have q3 : d * 2 ^ (b + i) ≤ m * 2 ^ (b + j) := by
    rw [Nat.add_comm b i, Nat.add_comm b j, Nat.pow_add, Nat.pow_add, ← Nat.mul_assoc, ← Nat.mul_assoc]; exact Nat.mul_le_mul_right _ h3
  have q4 : m * 2 ^ (b + j) < 2 * (d * 2 ^ (b + i)) := by
    rw [Nat.add_comm b i, Nat.add_comm b j, Nat.pow_add, Nat.pow_add, ← Nat.mul_assoc, ← Nat.mul_assoc, ← Nat.mul_assoc]
    have := Nat.mul_lt_mul_of_pos_right h4 pb
    rw [← Nat.mul_assoc] at this; exact this
  rcases Nat.lt_trichotomy (a + i) (b + j) with h | h | h
  · exfalso
    have a1 : m * 2 ^ (a + i) * 2 ≤ m * 2 ^ (b + j) := by
      rw [Nat.mul_assoc, ← Nat.pow_succ]
      exact Nat.mul_le_mul_left _ (Nat.pow_le_pow_right (by decide) h)
    omega
  · exact h
  · exfalso
    have a1 : m * 2 ^ (b + j) * 2 ≤ m * 2 ^ (a + i) := by
      rw [Nat.mul_assoc, ← Nat.pow_succ]
      exact Nat.mul_le_mul_left _ (Nat.pow_le_pow_right (by decide) h)
    omega
theorem rnd_same (m d a b i j : Nat) (he : a + i = b + j) : rnd (m * 2 ^ a * 4503599627370496) (d * 2 ^ b) = rnd (m * 2 ^ j * 4503599627370496) (d * 2 ^ i) := by
  rw [← rnd_scale (m * 2 ^ a * 4503599627370496) (d * 2 ^ b) (2 ^ i) (Nat.two_pow_pos i), ← rnd_scale (m * 2 ^ j * 4503599627370496) (d * 2 ^ i) (2 ^ b) (Nat.two_pow_pos b)]
  have e1 : m * 2 ^ a * 4503599627370496 * 2 ^ i = m * 2 ^ j * 4503599627370496 * 2 ^ b := by
    rw [Nat.mul_right_comm, Nat.mul_assoc m (2 ^ a), ← Nat.pow_add, he, Nat.mul_right_comm (m * 2 ^ j), Nat.mul_assoc m (2 ^ j), ← Nat.pow_add, Nat.add_comm b j]
  have e2 : d * 2 ^ b * 2 ^ i = d * 2 ^ i * 2 ^ b := Nat.mul_right_comm ..
  rw [e1, e2]

/-- What the quotient's digits come to, as a word. -/
theorem near_sticky (X : Nat) (P : Int) (L : Nat) (q : Nat) (h1 : 2 ^ L ≤ X) (h2 : X < 2 ^ (L + 1)) (hL : 52 ≤ L) (hP : -1074 ≤ P + L - 52) (hc : Ieee.Toward.even.cut false X (L - 52) = q) (hb : (P + L - 52 + 1074).toNat * 4503599627370496 + q ≤ 9218868437227405312) :
    Ieee.double.nearest false X P = (P + L - 52 + 1074).toNat * 4503599627370496 + q := by
  have hX0 : X ≠ 0 := by have := Nat.two_pow_pos L; omega
  have hl : X.log2 = L := by
    have a := log2_lt hX0 h2
    have b := log2_ge hX0 h1
    omega
  rw [nearest_def false X P hX0]
  have e : lastP X P = P + L - 52 := by unfold lastP; rw [hl]; omega
  rw [e, show (P - (P + L - 52)).toNat = 0 by omega, Nat.pow_zero, Nat.mul_one, show (P + L - 52 - P).toNat = L - 52 by omega, hc]
  have eB : Bn = 4503599627370496 := rfl
  have eI : Ir = 9218868437227405312 := rfl
  rw [eB, Nat.min_eq_left (by rw [eI]; exact hb)]
  rfl

/-- The quotient of two small whole numbers, as a word: by an exponent and the rounded quotient. -/
theorem quo_small (m d : Nat) (hm0 : m ≠ 0) (hm : m < 9007199254740992) (hd0 : d ≠ 0) (hd : d < 9007199254740992) (i j : Nat) (h1 : d * 2 ^ i ≤ m * 2 ^ j) (h2 : m * 2 ^ j < 2 * (d * 2 ^ i)) :
    floatBits .quo .f64 (Ieee.double.nearest false m 0) (Ieee.double.nearest false d 0) = some (((i : Int) - j + 1022).toNat * 4503599627370496 + rnd (m * 2 ^ j * 4503599627370496) (d * 2 ^ i)) ∧ rnd (m * 2 ^ j * 4503599627370496) (d * 2 ^ i) ≤ 9007199254740992 ∧ -53 ≤ (i : Int) - j ∧ (i : Int) - j ≤ 53 := by
  obtain ⟨rm, m1, m2, ml⟩ := read_small m hm0 hm
  obtain ⟨rd, d1, d2, dl⟩ := read_small d hd0 hd
  have hdpos : 0 < d * 2 ^ i := Nat.mul_pos (by omega) (Nat.two_pow_pos i)
  have hrnd : rnd (m * 2 ^ j * 4503599627370496) (d * 2 ^ i) ≤ 9007199254740992 := by
    unfold rnd
    have hlt : m * 2 ^ j * 4503599627370496 / (d * 2 ^ i) < 9007199254740992 := by
      rw [Nat.div_lt_iff_lt_mul hdpos]; omega
    have hb : ∀ b : Bool, b.toNat ≤ 1 := by intro b; cases b <;> decide
    have := hb (decide (d * 2 ^ i < 2 * (m * 2 ^ j * 4503599627370496 % (d * 2 ^ i))) || (d * 2 ^ i == 2 * (m * 2 ^ j * 4503599627370496 % (d * 2 ^ i)) && m * 2 ^ j * 4503599627370496 / (d * 2 ^ i) % 2 == 1))
    omega
  have hlm : (m * 2 ^ (52 - m.log2)).log2 = 52 := by
    rw [log2_mul_pow _ _ hm0]; omega
  have hld : (d * 2 ^ (52 - d.log2)).log2 = 52 := by
    rw [log2_mul_pow _ _ hd0]; omega
  have hq : ∀ x y : Nat, x = m * 2 ^ (52 - m.log2) → y = d * 2 ^ (52 - d.log2) → floatBits .quo .f64 (Ieee.double.nearest false m 0) (Ieee.double.nearest false d 0) = some (Ieee.double.nearest false (2 * (x * 18014398509481984 / y) + (x * 18014398509481984 % y != 0).toNat) ((m.log2 : Int) - d.log2 - 55)) := by
    intro x y hx hy
    show ((Ieee.double.read (Ieee.double.nearest false m 0)).quotient (Ieee.double.fractionBits + 2) (Ieee.double.read (Ieee.double.nearest false d 0))).map Ieee.double.write = _
    rw [rm, rd]
    simp only [Ieee.Datum.quotient]
    rw [if_neg (by omega)]
    simp only [Option.map_some, Bool.xor_false]
    rw [hlm, hld, show Ieee.double.fractionBits + 2 + 52 - 52 = 54 from rfl, Nat.shiftLeft_eq, show (2 : Nat) ^ 54 = 18014398509481984 from by decide, ← hx, ← hy]
    have hP : ((m.log2 : Int) - 52) - ((d.log2 : Int) - 52) - (54 : Nat) - 1 = (m.log2 : Int) - d.log2 - 55 := by omega
    rw [hP]
    simp only [Ieee.Format.write]
  have hstb : ∀ b : Bool, b.toNat ≤ 1 := by intro b; cases b <;> decide
  rw [hq _ _ rfl rfl]
  have hxe : ∀ a, m * 2 ^ a = m * 2 ^ a := fun _ => rfl
  by_cases c : d * 2 ^ (52 - d.log2) ≤ m * 2 ^ (52 - m.log2)
  · have he := same_exp m d (52 - m.log2) (52 - d.log2) i j c (by omega) h1 h2
    have hs := rnd_same m d (52 - m.log2) (52 - d.log2) i j he
    generalize hx : m * 2 ^ (52 - m.log2) = x at *
    generalize hy : d * 2 ^ (52 - d.log2) = y at *
    have hst := hstb (x * 18014398509481984 % y != 0)
    have hlo : 18014398509481984 ≤ x * 18014398509481984 / y := by
      rw [Nat.le_div_iff_mul_le (by omega)]; rw [Nat.mul_comm]; exact Nat.mul_le_mul_right _ c
    have hhi : x * 18014398509481984 / y < 36028797018963968 := by
      rw [Nat.div_lt_iff_lt_mul (by omega)]; omega
    have hcut := sticky false (x * 4503599627370496) y 2 (by omega) (.inr rfl) (by
      rw [show 2 ^ 2 * (x * 4503599627370496) = x * 18014398509481984 by omega]; omega)
    rw [show 2 ^ 2 * (x * 4503599627370496) = x * 18014398509481984 by omega, hs] at hcut
    refine ⟨?_, hrnd, by omega, by omega⟩
    congr 1
    have hb : (((m.log2 : Int) - d.log2 - 55) + (55 : Nat) - 52 + 1074).toNat = ((i : Int) - j + 1022).toNat := by omega
    rw [near_sticky _ _ 55 _ (by rw [show (2 : Nat) ^ 55 = 36028797018963968 from by decide]; omega) (by rw [show (2 : Nat) ^ (55 + 1) = 72057594037927936 from by decide]; omega) (by decide) (by omega) hcut (by omega), hb]
  · have hc2 : m * 2 ^ (52 - m.log2 + 1) = 2 * (m * 2 ^ (52 - m.log2)) := by rw [Nat.pow_succ, ← Nat.mul_assoc, Nat.mul_comm]
    have he := same_exp m d (52 - m.log2 + 1) (52 - d.log2) i j (by omega) (by omega) h1 h2
    have hs := rnd_same m d (52 - m.log2 + 1) (52 - d.log2) i j he
    rw [hc2] at hs
    generalize hx : m * 2 ^ (52 - m.log2) = x at *
    generalize hy : d * 2 ^ (52 - d.log2) = y at *
    have hst := hstb (x * 18014398509481984 % y != 0)
    have hlo : 9007199254740992 ≤ x * 18014398509481984 / y := by
      rw [Nat.le_div_iff_mul_le (by omega)]; omega
    have hhi : x * 18014398509481984 / y < 18014398509481984 := by
      rw [Nat.div_lt_iff_lt_mul (by omega)]; omega
    have hcut := sticky false (2 * x * 4503599627370496) y 1 (by omega) (.inl rfl) (by
      rw [show 2 ^ 1 * (2 * x * 4503599627370496) = x * 18014398509481984 by omega]; omega)
    rw [show 2 ^ 1 * (2 * x * 4503599627370496) = x * 18014398509481984 by omega, hs] at hcut
    refine ⟨?_, hrnd, by omega, by omega⟩
    congr 1
    have hb : (((m.log2 : Int) - d.log2 - 55) + (54 : Nat) - 52 + 1074).toNat = ((i : Int) - j + 1022).toNat := by omega
    rw [near_sticky _ _ 54 _ (by rw [show (2 : Nat) ^ 54 = 18014398509481984 from by decide]; omega) (by rw [show (2 : Nat) ^ (54 + 1) = 36028797018963968 from by decide]; omega) (by decide) (by omega) hcut (by omega), hb]
end Go.Proofs.Ytjkjdcejojpikaa
