/- Whole complex numbers, matrices of lines. No condition. -/
import Derived.Test.YtadmimjaelodkaaWeGa
import Derived.Test.YtadmimjaelodkaaWeGe
import Derived.Test.YtadmimjaelodkaaProg
import Derived.KernelRfl
import Derived.Test.YtadmimjaelodkaaWiGf
import Derived.Test.YtadmimjaelodkaaWiGg
/- Whole numbers as floats: what is written is read again, sums, differences, products and conversions are exact. No condition. -/
set_option linter.unusedSimpArgs false
namespace Go.Fl
open Ieee

def sg (s : Bool) (m : Int) : Int := if s then -m else m
def Val (s : Bool) (m : Nat) (e : Int) (n : Int) : Prop := ∃ K : Nat, 0 ≤ e + K ∧ sg s m * 2 ^ (e + K).toNat = n * 2 ^ K

theorem pow_pos (k : Nat) : (0 : Int) < 2 ^ k := Int.pow_pos (by decide)
theorem pow_ne (k : Nat) : (2 : Int) ^ k ≠ 0 := Int.ne_of_gt (pow_pos k)

theorem Val.all {s : Bool} {m : Nat} {e n : Int} (h : Val s m e n) (J : Nat) (hJ : 0 ≤ e + J) : sg s m * 2 ^ (e + J).toNat = n * 2 ^ J := by
  obtain ⟨K, hK, h⟩ := h
  have e1 : (e + J).toNat + K = (e + K).toNat + J := by omega
  refine Int.eq_of_mul_eq_mul_right (pow_ne K) ?_
  calc sg s m * 2 ^ (e + J).toNat * 2 ^ K = sg s m * 2 ^ ((e + J).toNat + K) := by rw [Int.pow_add, Int.mul_assoc]
    _ = sg s m * 2 ^ (e + K).toNat * 2 ^ J := by rw [e1, Int.pow_add, Int.mul_assoc]
    _ = n * 2 ^ J * 2 ^ K := by rw [h, Int.mul_assoc, Int.mul_assoc, Int.mul_comm (2 ^ K)]

theorem sg_mul {s : Bool} {m k : Int} : sg s m * k = sg s (m * k) := by cases s <;> simp [sg, Int.neg_mul]
theorem sg_natAbs {s : Bool} {m : Nat} : (sg s m).natAbs = m := by cases s <;> simp [sg]

theorem Val.size {s : Bool} {m : Nat} {e n : Int} (h : Val s m e n) : m * 2 ^ e.toNat = n.natAbs * 2 ^ (-e).toNat := by
  have h1 := h.all (-e).toNat (by omega)
  have h2 : (e + ((-e).toNat : Int)).toNat = e.toNat := by omega
  rw [h2] at h1
  have h3 := congrArg Int.natAbs h1
  rw [Int.natAbs_mul, Int.natAbs_mul, sg_natAbs, Int.natAbs_pow, Int.natAbs_pow] at h3
  exact h3
theorem Val.sign {s : Bool} {m : Nat} {e n : Int} (h : Val s m e n) : n = sg s n.natAbs := by
  have h1 := h.all (-e).toNat (by omega)
  rw [sg_mul] at h1
  have hp := pow_pos (-e).toNat
  have hq := pow_pos (e + ((-e).toNat : Int)).toNat
  have h0 : 0 ≤ (m : Int) * 2 ^ (e + ((-e).toNat : Int)).toNat := Int.mul_nonneg (by omega) (Int.le_of_lt hq)
  cases s
  · simp only [sg, Bool.false_eq_true, if_false] at h1 ⊢
    have : 0 ≤ n := by
      rcases Int.lt_or_le n 0 with k | k
      · have := Int.mul_neg_of_neg_of_pos k hp; omega
      · exact k
    omega
  · simp only [sg, if_true] at h1 ⊢
    have : n ≤ 0 := by
      rcases Int.lt_or_le 0 n with k | k
      · have := Int.mul_pos k hp; omega
      · exact k
    omega
theorem Val.of {s : Bool} {m : Nat} {e n : Int} (h : m * 2 ^ e.toNat = n.natAbs * 2 ^ (-e).toNat) (hs : n = sg s n.natAbs) : Val s m e n := by
  refine ⟨(-e).toNat, by omega, ?_⟩
  have h2 : (e + ((-e).toNat : Int)).toNat = e.toNat := by omega
  rw [h2, sg_mul]
  have h3 : (m : Int) * 2 ^ e.toNat = (n.natAbs : Int) * 2 ^ (-e).toNat := by exact_mod_cast h
  rw [h3, ← sg_mul, ← hs]

def F (b : Nat) (n : Int) : Prop := ∃ s m e, double.read b = .number s m e ∧ Val s m e n
def Sm (n : Int) : Prop := n.natAbs < 9007199254740992

theorem cut_exact {way : Toward} {s : Bool} {k d : Nat} (h0 : k ≠ 0 ∨ d = 0) : way.cut s (k * 2 ^ d) d = k := by
  unfold Toward.cut
  have hl : min d ((k * 2 ^ d).log2 + 2) = d := by
    rcases h0 with h0 | h0
    · have : d ≤ (k * 2 ^ d).log2 := (Nat.le_log2 (Nat.mul_ne_zero h0 (Nat.ne_of_gt (Nat.two_pow_pos d)))).2 (Nat.le_mul_of_pos_left _ (by omega))
      omega
    · omega
  have hg : 1 <<< min d ((k * 2 ^ d).log2 + 2) = 2 ^ d := by rw [hl, Nat.one_shiftLeft]
  simp only [hg]
  have h1 : k * 2 ^ d / 2 ^ d = k := Nat.mul_div_cancel _ (Nat.two_pow_pos d)
  have h2 : k * 2 ^ d % 2 ^ d = 0 := Nat.mul_mod_left _ _
  have hp := Nat.two_pow_pos d
  rw [h1, h2]
  have h3 : ¬ (2 ^ d < 2 * 0) := by omega
  have h4 : (2 ^ d == 2 * 0) = false := by simp
  cases way <;> simp [h4]

theorem read_word {s : Bool} {r : Nat} (h : r < 9223372036854775808) : double.word s r / double.signWeight % 2 = (if s then 1 else 0) ∧ double.word s r % double.signWeight = r := by
  have hw : double.signWeight = 9223372036854775808 := by decide
  unfold Format.word
  rw [hw]
  cases s
  · simp only [Bool.false_eq_true, if_false]; omega
  · simp only [if_true]; omega

theorem F_nearest {s : Bool} {m : Nat} {e n : Int} (h : Val s m e n) (hn : Sm n) : F (double.nearest s m e) n := by
  have hlp : double.leastPlace = -1074 := by decide
  have hfb : double.fractionBits = 52 := rfl
  have hbi : double.binade = 4503599627370496 := by decide
  have hin : double.infRung = 9218868437227405312 := by decide
  have hsz := h.size
  have hsg := h.sign
  unfold Format.nearest
  by_cases hm : m = 0
  · rw [if_pos hm]
    subst hm
    have hz : n = 0 := by
      have hp := Nat.two_pow_pos (-e).toNat
      rw [Nat.zero_mul] at hsz
      have := Nat.mul_eq_zero.1 hsz.symm
      omega
    have hr := read_word (s := s) (r := 0) (by decide)
    refine ⟨s, 0, -1074, ?_, ?_⟩
    · unfold Format.read
      dsimp only
      rw [hr.1, hr.2, hbi, hlp]
      cases s <;> rfl
    · subst hz
      exact ⟨1074, by decide, by rw [show sg s ((0 : Nat) : Int) = 0 by cases s <;> rfl, Int.zero_mul, Int.zero_mul]⟩
  rw [if_neg hm]
  have hn0 : n.natAbs ≠ 0 := by
    intro h0
    rw [h0, Nat.zero_mul] at hsz
    have := Nat.two_pow_pos e.toNat
    have := Nat.mul_ne_zero hm (Nat.ne_of_gt this)
    omega

  have hL1 := Nat.log2_self_le hm
  have hL2 := Nat.lt_log2_self (n := m)
  generalize hL : m.log2 = L at *

  have he0 : 0 ≤ e + L := by
    rcases Int.lt_or_le (e + L) 0 with k | k
    · have he : e.toNat = 0 := by omega
      rw [he, Nat.pow_zero, Nat.mul_one] at hsz
      have : 2 ^ (L + 1) ≤ 2 ^ (-e).toNat := Nat.pow_le_pow_right (by decide) (by omega)
      have : 2 ^ (-e).toNat ≤ n.natAbs * 2 ^ (-e).toNat := Nat.le_mul_of_pos_left _ (by omega)
      omega
    · exact k
  have he1 : e + L ≤ 52 := by
    rcases Int.lt_or_le 52 (e + L) with k | k
    · have h1 : 2 ^ L * 2 ^ e.toNat ≤ m * 2 ^ e.toNat := Nat.mul_le_mul_right _ hL1
      rw [hsz, ← Nat.pow_add] at h1
      have h2 : 2 ^ (53 + (-e).toNat) ≤ 2 ^ (L + e.toNat) := Nat.pow_le_pow_right (by decide) (by omega)
      rw [Nat.pow_add] at h2
      have h3 : n.natAbs * 2 ^ (-e).toNat < 2 ^ 53 * 2 ^ (-e).toNat := Nat.mul_lt_mul_of_pos_right hn (Nat.two_pow_pos _)
      omega
    · exact k
  have hlast : max (e + (L : Int) - (52 : Nat)) (-1074) = e + L - 52 := by omega
  rw [hfb, hlp, hlast]

  have hkept : ∃ q : Nat, Toward.even.cut s (m <<< (e - (e + (L : Int) - 52)).toNat) ((e + (L : Int) - 52) - e).toNat = q ∧ 2 ^ 52 ≤ q ∧ q < 2 ^ 53 ∧ Val s q (e + L - 52) n := by
    by_cases hL52 : L ≤ 52
    · refine ⟨m * 2 ^ (52 - L), ?_, ?_, ?_, ?_⟩
      · rw [show (e - (e + (L : Int) - 52)).toNat = 52 - L by omega, show ((e + (L : Int) - 52) - e).toNat = 0 by omega, Nat.shiftLeft_eq]
        have := cut_exact (way := .even) (s := s) (k := m * 2 ^ (52 - L)) (d := 0) (.inr rfl)
        rwa [Nat.pow_zero, Nat.mul_one] at this
      · have : 2 ^ L * 2 ^ (52 - L) ≤ m * 2 ^ (52 - L) := Nat.mul_le_mul_right _ hL1
        rw [← Nat.pow_add, show L + (52 - L) = 52 by omega] at this
        exact this
      · have : m * 2 ^ (52 - L) < 2 ^ (L + 1) * 2 ^ (52 - L) := Nat.mul_lt_mul_of_pos_right hL2 (Nat.two_pow_pos _)
        rw [← Nat.pow_add, show L + 1 + (52 - L) = 53 by omega] at this
        exact this
      · obtain ⟨K, hK, hv⟩ := h
        refine ⟨K + 52, by omega, ?_⟩
        rw [show (e + (L : Int) - 52 + ((K + 52 : Nat) : Int)).toNat = (e + K).toNat + L by omega]
        have : ((m * 2 ^ (52 - L) : Nat) : Int) = (m : Int) * 2 ^ (52 - L) := by push_cast; rfl
        rw [this, ← sg_mul, Int.pow_add, Int.pow_add]
        have h52 : (2 : Int) ^ (52 - L) * 2 ^ L = 2 ^ 52 := by rw [← Int.pow_add]; congr 1; omega
        calc sg s ↑m * 2 ^ (52 - L) * (2 ^ (e + ↑K).toNat * 2 ^ L) = (sg s ↑m * 2 ^ (e + ↑K).toNat) * (2 ^ (52 - L) * 2 ^ L) := by
              simp only [Int.mul_assoc, Int.mul_left_comm, Int.mul_comm]
          _ = n * (2 ^ K * 2 ^ 52) := by rw [hv, h52, Int.mul_assoc]
    ·
      have hd : (L - 52) ≤ (-e).toNat := by omega
      have he' : e.toNat = 0 := by omega
      rw [he', Nat.pow_zero, Nat.mul_one] at hsz
      have hm2 : m = (n.natAbs * 2 ^ ((-e).toNat - (L - 52))) * 2 ^ (L - 52) := by
        rw [hsz, Nat.mul_assoc, ← Nat.pow_add]; congr 2; omega
      refine ⟨n.natAbs * 2 ^ ((-e).toNat - (L - 52)), ?_, ?_, ?_, ?_⟩
      · rw [show (e - (e + (L : Int) - 52)).toNat = 0 by omega, show ((e + (L : Int) - 52) - e).toNat = L - 52 by omega, Nat.shiftLeft_zero]
        conv => lhs; rw [hm2]
        exact cut_exact (.inl (Nat.mul_ne_zero hn0 (Nat.ne_of_gt (Nat.two_pow_pos _))))
      · have : 2 ^ 52 * 2 ^ (L - 52) ≤ m := by rw [← Nat.pow_add, show 52 + (L - 52) = L by omega]; exact hL1
        rw [hm2] at this
        exact Nat.le_of_mul_le_mul_right this (Nat.two_pow_pos _)
      · have : m < 2 ^ 53 * 2 ^ (L - 52) := by rw [← Nat.pow_add, show 53 + (L - 52) = L + 1 by omega]; exact hL2
        rw [hm2] at this
        exact Nat.lt_of_mul_lt_mul_right this
      · refine Val.of ?_ hsg
        rw [show (e + (L : Int) - 52).toNat = 0 by omega, Nat.pow_zero, Nat.mul_one]
        congr 2; omega
  obtain ⟨q, hq, hq1, hq2, hv⟩ := hkept
  dsimp only
  rw [hq, hbi, hin]
  have hp52 : (2 : Nat) ^ 52 = 4503599627370496 := by decide
  have hp53 : (2 : Nat) ^ 53 = 9007199254740992 := by decide
  rw [hp52] at hq1; rw [hp53] at hq2
  generalize hp : (e + (L : Int) - 52 - -1074).toNat = p
  have hp1 : p ≤ 1074 := by omega
  rw [Nat.min_eq_left (by omega)]
  have hr := read_word (s := s) (r := p * 4503599627370496 + q) (by omega)
  refine ⟨s, q, e + L - 52, ?_, hv⟩
  unfold Format.read
  dsimp only
  rw [hr.1, hr.2, hbi, hin, hlp, if_neg (by omega), if_pos (by omega)]
  have a1 : (p * 4503599627370496 + q) % 4503599627370496 = q - 4503599627370496 := by omega
  have a2 : (p * 4503599627370496 + q) / 4503599627370496 = p + 1 := by omega
  rw [a1, a2, show 4503599627370496 + (q - 4503599627370496) = q by omega]
  have a3 : (-1074 : Int) + ((p + 1 - 1 : Nat) : Int) = e + L - 52 := by omega
  rw [a3]
  cases s <;> rfl

theorem signed_eq {s : Bool} {m u : Nat} : signed s m u = sg s m * 2 ^ u := by
  unfold signed sg
  rw [Nat.shiftLeft_eq]
  cases s <;> simp [Int.neg_mul]

theorem Val.at_base {s : Bool} {m : Nat} {e n b : Int} (h : Val s m e n) (hb : b ≤ e) (K : Nat) (hK : 0 ≤ b + K) : signed s m (e - b).toNat * 2 ^ (b + K).toNat = n * 2 ^ K := by
  rw [signed_eq, Int.mul_assoc, ← Int.pow_add, ← h.all K (by omega)]
  congr 2; omega

theorem Val.opp {s : Bool} {m : Nat} {e n : Int} (h : Val s m e n) : Val (!s) m e (-n) := by
  obtain ⟨K, hK, h⟩ := h
  refine ⟨K, hK, ?_⟩
  rw [Int.neg_mul, ← h]
  cases s <;> simp [sg, Int.neg_mul]

theorem val_sum {s t : Bool} {m k : Nat} {i j a b : Int} (h : Val s m i a) (g : Val t k j b) : ∃ u q, (Datum.number s m i).sum (.number t k j) = some (.number u q (min i j)) ∧ Val u q (min i j) (a + b) := by
  refine ⟨_, _, rfl, ?_⟩
  generalize htot : signed s m (i - min i j).toNat + signed t k (j - min i j).toNat = tot
  refine ⟨(-(min i j)).toNat, by omega, ?_⟩
  have h1 := h.at_base (b := min i j) (by omega) (-(min i j)).toNat (by omega)
  have h2 := g.at_base (b := min i j) (by omega) (-(min i j)).toNat (by omega)
  have h3 : sg (if tot = 0 then s && t else decide (tot < 0)) (tot.natAbs : Int) = tot := by
    by_cases h0 : tot = 0
    · subst h0; unfold sg; split <;> simp
    · rw [if_neg h0]
      by_cases hlt : tot < 0
      · simp only [hlt, decide_true, sg, if_true]; omega
      · simp only [hlt, decide_false, sg, Bool.false_eq_true, if_false]; omega
  rw [h3, ← htot, Int.add_mul, h1, h2, Int.add_mul]

theorem F_add {x y : Nat} {a b : Int} (h : F x a) (g : F y b) (hn : Sm (a + b)) : ∃ z, FloatKind.f64.format.add x y = some z ∧ F z (a + b) := by
  obtain ⟨s, m, e, h1, h2⟩ := h
  obtain ⟨t, k, j, g1, g2⟩ := g
  obtain ⟨u, q, h3, h4⟩ := val_sum h2 g2
  refine ⟨double.nearest u q (min e j), ?_, F_nearest h4 hn⟩
  show Option.map double.write ((double.read x).sum (double.read y)) = _
  rw [h1, g1, h3]
  rfl

theorem F_sub {x y : Nat} {a b : Int} (h : F x a) (g : F y b) (hn : Sm (a - b)) : ∃ z, FloatKind.f64.format.sub x y = some z ∧ F z (a - b) := by
  obtain ⟨s, m, e, h1, h2⟩ := h
  obtain ⟨t, k, j, g1, g2⟩ := g
  obtain ⟨u, q, h3, h4⟩ := val_sum h2 g2.opp
  rw [← Int.sub_eq_add_neg] at h4
  refine ⟨double.nearest u q (min e j), ?_, F_nearest h4 hn⟩
  show Option.map double.write ((double.read x).sum (double.read y).opposite) = _
  rw [h1, g1]
  show Option.map double.write ((Datum.number s m e).sum (.number (!t) k j)) = _
  rw [h3]
  rfl

theorem F_mul {x y : Nat} {a b : Int} (h : F x a) (g : F y b) (hn : Sm (a * b)) : ∃ z, FloatKind.f64.format.mul x y = some z ∧ F z (a * b) := by
  obtain ⟨s, m, e, h1, h2⟩ := h
  obtain ⟨t, k, j, g1, g2⟩ := g
  refine ⟨double.nearest (s ^^ t) (m * k) (e + j), ?_, F_nearest ?_ hn⟩
  · show Option.map double.write ((double.read x).product (double.read y)) = _
    rw [h1, g1]
    rfl
  · refine ⟨(-e).toNat + (-j).toNat, by omega, ?_⟩
    have q1 := h2.all (-e).toNat (by omega)
    have q2 := g2.all (-j).toNat (by omega)
    have hs : sg (s ^^ t) ((m * k : Nat) : Int) = sg s m * sg t k := by cases s <;> cases t <;> simp [sg, Int.neg_mul, Int.mul_neg]
    rw [hs, show (e + j + (((-e).toNat + (-j).toNat : Nat) : Int)).toNat = (e + ((-e).toNat : Int)).toNat + (j + ((-j).toNat : Int)).toNat by omega, Int.pow_add, Int.pow_add]
    calc sg s ↑m * sg t ↑k * (2 ^ (e + ((-e).toNat : Int)).toNat * 2 ^ (j + ((-j).toNat : Int)).toNat) = (sg s ↑m * 2 ^ (e + ((-e).toNat : Int)).toNat) * (sg t ↑k * 2 ^ (j + ((-j).toNat : Int)).toNat) := by
            simp only [Int.mul_assoc, Int.mul_left_comm, Int.mul_comm]
      _ = a * b * (2 ^ (-e).toNat * 2 ^ (-j).toNat) := by rw [q1, q2]; simp only [Int.mul_assoc, Int.mul_left_comm]

theorem F_int {n : Int} (hn : Sm n) : F (FloatKind.f64.nearest n) n := by
  refine F_nearest (s := decide (n < 0)) ?_ hn
  refine ⟨0, by decide, ?_⟩
  have : sg (decide (n < 0)) (n.natAbs : Int) = n := by
    unfold sg
    by_cases h : n < 0
    · simp only [h, decide_true, if_true]; omega
    · simp only [h, decide_false, Bool.false_eq_true, if_false]; omega
  rw [this]
  rfl

theorem toInt_of {x : Nat} {n : Int} (h : F x n) : (FloatKind.f64.decode x).toInt .zero = some n := by
  obtain ⟨s, m, e, h1, h2⟩ := h
  have hz := h2.size
  have hs := h2.sign
  show (double.read x).toInt .zero = _
  rw [h1]
  show some (signed s (Toward.zero.cut s (m <<< e.toNat) (-e).toNat) 0) = _
  have : Toward.zero.cut s (m <<< e.toNat) (-e).toNat = n.natAbs := by
    rw [Nat.shiftLeft_eq, hz]
    by_cases h0 : n.natAbs = 0
    · rw [h0, Nat.zero_mul]
      unfold Toward.cut
      simp
    · exact cut_exact (.inl h0)
  rw [this, signed_eq, Int.pow_zero, Int.mul_one, ← hs]

theorem F_neg {x : Nat} {n : Int} (h : F x n) : F (Op.negFloat .f64 x) (-n) := by
  obtain ⟨s, m, e, h1, h2⟩ := h
  refine ⟨!s, m, e, ?_, h2.opp⟩
  have hw : double.signWeight = 2 ^ 63 := by decide
  have a1 : (x ^^^ 2 ^ 63) % 2 ^ 63 = x % 2 ^ 63 := by
    rw [Nat.xor_mod_two_pow, Nat.mod_self, Nat.xor_zero]
  have a2 : (x ^^^ 2 ^ 63) / 2 ^ 63 % 2 = (x / 2 ^ 63 % 2) ^^^ 1 := by
    rw [Nat.xor_div_two_pow, show 2 ^ 63 / 2 ^ 63 = 1 from by decide]
    have := Nat.xor_mod_two_pow (a := x / 2 ^ 63) (b := 1) (n := 1)
    simpa using this
  show double.read (x ^^^ 2 ^ 63) = _
  have hx : x / 2 ^ 63 % 2 = 0 ∨ x / 2 ^ 63 % 2 = 1 := by omega
  unfold Format.read at h1 ⊢
  dsimp only at h1 ⊢
  rw [hw] at h1 ⊢
  rw [a1, a2]
  split at h1
  · rename_i k
    rw [if_pos k]
    cases h1
    rcases hx with hx | hx <;> rw [hx] <;> rfl
  · rename_i k
    rw [if_neg k]
    split at h1
    · rename_i k'
      rw [if_pos k']
      cases h1
      rcases hx with hx | hx <;> rw [hx] <;> rfl
    · split at h1 <;> cases h1
end Go.Fl

/- Whole complex numbers as complex ones: sums, differences and products are exact. No condition. -/
set_option linter.unusedSimpArgs false
namespace Go.DI
open Fl

abbrev Ga := Int × Int
def gadd (g h : Ga) : Ga := (g.1 + h.1, g.2 + h.2)
def gsub (g h : Ga) : Ga := (g.1 - h.1, g.2 - h.2)
def gmul (g h : Ga) : Ga := (g.1 * h.1 - g.2 * h.2, g.1 * h.2 + g.2 * h.1)
def gneg (g : Ga) : Ga := (-g.1, -g.2)
def nrm (g : Ga) : Nat := g.1.natAbs + g.2.natAbs
theorem nrm_add (g h : Ga) : nrm (gadd g h) ≤ nrm g + nrm h := by
  unfold nrm gadd; dsimp only
  have h1 := Int.natAbs_add_le g.1 h.1
  have h2 := Int.natAbs_add_le g.2 h.2
  omega
theorem nrm_sub (g h : Ga) : nrm (gsub g h) ≤ nrm g + nrm h := by
  unfold nrm gsub; dsimp only
  omega
theorem nrm_neg (g : Ga) : nrm (gneg g) = nrm g := by unfold nrm gneg; simp
theorem nrm_mul (g h : Ga) : nrm (gmul g h) ≤ nrm g * nrm h := by
  unfold nrm gmul; dsimp only
  rw [Nat.add_mul, Nat.mul_add, Nat.mul_add]
  have h1 := Int.natAbs_mul g.1 h.1
  have h2 := Int.natAbs_mul g.2 h.2
  have h3 := Int.natAbs_mul g.1 h.2
  have h4 := Int.natAbs_mul g.2 h.1
  rw [← h1, ← h2, ← h3, ← h4]
  generalize g.1 * h.1 = a; generalize g.2 * h.2 = b; generalize g.1 * h.2 = c; generalize g.2 * h.1 = d
  omega
theorem nrm_mul_le {g h : Ga} {a b : Nat} (h1 : nrm g ≤ a) (h2 : nrm h ≤ b) : nrm (gmul g h) ≤ a * b := Nat.le_trans (nrm_mul g h) (Nat.mul_le_mul h1 h2)

def CC (a b : Nat) (g : Ga) : Prop := F a g.1 ∧ F b g.2
def Bd (n : Nat) : Prop := n < 9007199254740992

theorem part_le {g : Ga} {n : Nat} (h : nrm g ≤ n) (hn : Bd n) : Sm g.1 ∧ Sm g.2 := by
  unfold nrm at h; unfold Bd at hn; unfold Sm
  omega

theorem addC {a b c d : Nat} {g h : Ga} (x : CC a b g) (y : CC c d h) (hn : Bd (nrm g + nrm h)) : ∃ p q, pxI (.cpx .add) [.cpx .f64 a b, .cpx .f64 c d] = some (.cpx .f64 p q) ∧ CC p q (gadd g h) := by
  obtain ⟨s1, s2⟩ := part_le (nrm_add g h) hn
  obtain ⟨p, e1, h1⟩ := F_add x.1 y.1 s1
  obtain ⟨q, e2, h2⟩ := F_add x.2 y.2 s2
  refine ⟨p, q, ?_, h1, h2⟩
  simp only [pxI, cpxI, fltA, e1, e2, both]
theorem subC {a b c d : Nat} {g h : Ga} (x : CC a b g) (y : CC c d h) (hn : Bd (nrm g + nrm h)) : ∃ p q, pxI (.cpx .sub) [.cpx .f64 a b, .cpx .f64 c d] = some (.cpx .f64 p q) ∧ CC p q (gsub g h) := by
  obtain ⟨s1, s2⟩ := part_le (nrm_sub g h) hn
  obtain ⟨p, e1, h1⟩ := F_sub x.1 y.1 s1
  obtain ⟨q, e2, h2⟩ := F_sub x.2 y.2 s2
  refine ⟨p, q, ?_, h1, h2⟩
  simp only [pxI, cpxI, fltA, e1, e2, both]
theorem mulC {a b c d : Nat} {g h : Ga} (x : CC a b g) (y : CC c d h) (hn : Bd (nrm g * nrm h)) : ∃ p q, pxI (.cpx .mul) [.cpx .f64 a b, .cpx .f64 c d] = some (.cpx .f64 p q) ∧ CC p q (gmul g h) := by
  obtain ⟨s1, s2⟩ := part_le (nrm_mul g h) hn
  have hs : Sm (g.1 * h.1) ∧ Sm (g.2 * h.2) ∧ Sm (g.1 * h.2) ∧ Sm (g.2 * h.1) := by
    unfold Bd nrm at hn
    rw [Nat.add_mul, Nat.mul_add, Nat.mul_add] at hn
    unfold Sm
    rw [Int.natAbs_mul, Int.natAbs_mul, Int.natAbs_mul, Int.natAbs_mul]
    omega
  obtain ⟨ac, e1, h1⟩ := F_mul x.1 y.1 hs.1
  obtain ⟨bd, e2, h2⟩ := F_mul x.2 y.2 hs.2.1
  obtain ⟨ad, e3, h3⟩ := F_mul x.1 y.2 hs.2.2.1
  obtain ⟨bc, e4, h4⟩ := F_mul x.2 y.1 hs.2.2.2
  obtain ⟨p, e5, h5⟩ := F_sub h1 h2 s1
  obtain ⟨q, e6, h6⟩ := F_add h3 h4 s2
  refine ⟨p, q, ?_, h5, h6⟩
  simp only [pxI, cpxI, cpxM, fltA, e1, e2, e3, e4, e5, e6, both]
theorem negC {a b : Nat} {g : Ga} (x : CC a b g) : ∃ p q, pxI .neg [.cpx .f64 a b] = some (.cpx .f64 p q) ∧ CC p q (gneg g) := ⟨_, _, rfl, F_neg x.1, F_neg x.2⟩
theorem f2i_F {a : Nat} {n : Int} (x : F a n) (h : -9223372036854775808 ≤ n ∧ n ≤ 9223372036854775807) : pxI (.f2i .i64) [.flt .f64 a] = some (.int .i64 n) := by
  simp only [pxI, toInt_of x]
  rw [if_pos]
  exact h
theorem i2f_F {n : Int} (h : Sm n) : F (FloatKind.f64.nearest n) n := F_int h

theorem F_zero : F 0 0 := ⟨false, 0, -1074, by decide, ⟨1074, by decide, by rw [show sg false ((0 : Nat) : Int) = 0 from rfl, Int.zero_mul, Int.zero_mul]⟩⟩
theorem F_one : F 4607182418800017408 1 := ⟨false, 4503599627370496, -52, by decide, ⟨52, by decide, by decide⟩⟩
theorem F_mone : F 13830554455654793216 (-1) := ⟨true, 4503599627370496, -52, by decide, ⟨52, by decide, by decide⟩⟩
theorem CC_zero : CC 0 0 (0, 0) := ⟨F_zero, F_zero⟩
theorem CC_one : CC 4607182418800017408 0 (1, 0) := ⟨F_one, F_zero⟩
theorem CC_mone : CC 13830554455654793216 0 (-1, 0) := ⟨F_mone, F_zero⟩
theorem CC_i : CC 0 4607182418800017408 (0, 1) := ⟨F_zero, F_one⟩
theorem CC_mi : CC 0 13830554455654793216 (0, -1) := ⟨F_zero, F_mone⟩

def turnG (p : Int) : Ga := if p % 4 = 0 then (1, 0) else if p % 4 = 1 then (0, 1) else if p % 4 = 2 then (-1, 0) else (0, -1)
def cosG (p : Int) : Ga := ((turnG p).1, 0)
def sinG (p : Int) : Ga := ((turnG p).2, 0)
def turnA (p : Int) : Nat := if p % 4 = 0 then 4607182418800017408 else if p % 4 = 2 then 13830554455654793216 else 0
def turnB (p : Int) : Nat := if p % 4 = 1 then 4607182418800017408 else if p % 4 = 3 then 13830554455654793216 else 0
theorem mod4 (p : Int) : p % 4 = 0 ∨ p % 4 = 1 ∨ p % 4 = 2 ∨ p % 4 = 3 := by omega
theorem CC_turn (p : Int) : CC (turnA p) (turnB p) (turnG p) := by
  unfold turnA turnB turnG
  rcases mod4 p with h | h | h | h <;> rw [h]
  · exact CC_one
  · exact CC_i
  · exact CC_mone
  · exact CC_mi
theorem CC_cos (p : Int) : CC (turnA p) 0 (cosG p) := ⟨(CC_turn p).1, F_zero⟩
theorem CC_sin (p : Int) : CC (turnB p) 0 (sinG p) := ⟨(CC_turn p).2, F_zero⟩
theorem nrm_turn (p : Int) : nrm (turnG p) = 1 := by
  unfold turnG
  rcases mod4 p with h | h | h | h <;> rw [h] <;> rfl
theorem nrm_cos (p : Int) : nrm (cosG p) ≤ 1 := by
  unfold cosG turnG
  rcases mod4 p with h | h | h | h <;> rw [h] <;> decide
theorem nrm_sin (p : Int) : nrm (sinG p) ≤ 1 := by
  unfold sinG turnG
  rcases mod4 p with h | h | h | h <;> rw [h] <;> decide
theorem rem4 (p : Int) : ((p.tmod 4 + 4).tmod 4) = p % 4 := by
  have h1 := Int.tmod_eq_emod (a := p) (b := 4)
  have h2 := Int.tmod_eq_emod (a := p.tmod 4 + 4) (b := 4)
  split at h1 <;> split at h2 <;> omega
end Go.DI

/- The functions of matrices and oscillations of waves, as data. No condition. -/
namespace Go.DI
open Go.Proofs Go.RowKit
def b129 : DCode :=
 (.seq
  (.region [⟨(some 2), .mov, [.c (.cpx .f64 0 0)], none, []⟩] false)
  (.seq
   (.region [⟨(some 3), (.build [(.imm (.cpx .f64 0 0)), (.imm (.cpx .f64 0 0)), (.imm (.cpx .f64 0 0)), (.imm (.cpx .f64 0 0))] [(0, 1), (1, 1), (2, 1), (3, 1)]), [.c (.cpx .f64 4607182418800017408 0), .c (.cpx .f64 0 4607182418800017408), .c (.cpx .f64 13830554455654793216 0), .c (.cpx .f64 0 13830554455654793216)], none, []⟩,
     ⟨(some 4), .mov, [.t 0], none, []⟩,
     ⟨(some 5), (.bin .rem), [.t 4, .c (.int .i64 4)], none, [1]⟩,
     ⟨(some 6), (.bin .add), [.t 5, .c (.int .i64 4)], none, [2]⟩,
     ⟨(some 7), (.bin .rem), [.t 6, .c (.int .i64 4)], none, [3]⟩,
     ⟨(some 8), (.index 4 1 false), [.t 3, .t 7], none, [0, 4]⟩,
     ⟨(some 2), .mov, [.t 8], none, [5, 0, 1, 2, 3, 4, 5]⟩] false)
   .ret))
def d129 : DFn := ⟨1, 9, [.tmp 2], b129⟩
theorem body129 : d129.body = b129 := rfl
theorem res129 : d129.res = [.tmp 2] := rfl
theorem k129 : chkFn Try.prog Try.f129 d129 = true := by kernel_rfl

def b100 : DCode :=
 (.seq
  (.region [⟨(some 2), (.alloc [(.imm (.int .i64 0)), (.imm (.int .i64 0))]), [], none, []⟩] false)
  (.seq
   (.region [⟨(some 3), .mov, [.t 0], none, []⟩,
     ⟨(some 4), (.px .re), [.t 3], none, [0]⟩,
     ⟨(some 5), (.px (.f2i .i64)), [.t 4], none, [1]⟩,
     ⟨(some 6), .mov, [.t 0], none, []⟩,
     ⟨(some 7), (.px .im), [.t 6], none, [3]⟩,
     ⟨(some 8), (.px (.f2i .i64)), [.t 7], none, [4]⟩,
     ⟨(some 9), (.build [(.imm (.int .i64 0)), (.imm (.int .i64 0))] [(0, 1), (1, 1)]), [.t 5, .t 8], none, [2, 5]⟩,
     ⟨none, (.store 2), [.t 2, .t 9], none, [6, 0, 1, 2, 3, 4, 5, 6]⟩] false)
   .ret))
def d100 : DFn := ⟨1, 10, [.cell 2 true 2], b100⟩
theorem body100 : d100.body = b100 := rfl
theorem res100 : d100.res = [.cell 2 true 2] := rfl
theorem k100 : chkFn Try.prog Try.f100 d100 = true := by kernel_rfl

def b101k0 : DCode :=
 (.block 3
  (.region [⟨(some 14), .mov, [.t 5], none, []⟩,
    ⟨(some 15), .mov, [.t 3], none, []⟩,
    ⟨(some 16), .mov, [.t 5], none, []⟩,
    ⟨(some 17), (.bin .rem), [.t 15, .t 16], none, [1, 2]⟩,
    ⟨(some 3), .mov, [.t 14], none, [0, 0, 1]⟩,
    ⟨(some 5), .mov, [.t 17], none, [3, 4, 0, 1, 2, 3, 4]⟩] true))
def b101l0 : DCode := .keep [3, 5, 6, 7, 8] []
  (.seq
   (.seq
    (.region [⟨(some 12), .mov, [.t 5], none, []⟩,
      ⟨(some 13), (.bin .neq), [.t 12, .c (.int .i64 0)], none, [0]⟩] false)
    (.cond (.t 13)
     .skip
     (.exit 2)))
   (.keep [3, 5, 6, 7, 8] [] b101k0))
def b101k1 : DCode :=
 (.region [⟨(some 18), (.bin .add), [.t 8, .c (.int .i64 1)], none, []⟩,
   ⟨(some 8), .mov, [.t 18], none, [0]⟩] false)
def b101k2 : DCode :=
 (.seq
  (.block 1
   (.seq
    (.region [⟨(some 10), (.iaddr 1), [.t 6, .t 8], none, []⟩,
      ⟨(some 11), (.load false 1), [.t 10], none, [0]⟩,
      ⟨(some 5), .mov, [.t 11], none, [1, 0, 1]⟩] false)
    (.block 2
     (.loop b101l0))))
  (.keep [3, 6, 7, 8] [] b101k1))
def b101l1 : DCode := .keep [3, 6, 7, 8] []
  (.seq
   (.region [⟨(some 9), (.bin .lss), [.t 8, .t 7], none, []⟩] false)
   (.seq
    (.cond (.t 9)
     .skip
     (.exit 0))
    (.keep [3, 6, 7, 8] [] b101k2)))
def b101k3 : DCode :=
 (.seq
  (.region [⟨(some 19), .mov, [.t 3], none, []⟩,
    ⟨(some 20), .mov, [.t 3], none, []⟩,
    ⟨(some 21), (.un .neg), [.t 20], none, [1]⟩,
    ⟨(some 22), (.mm true), [.t 19, .t 21], none, [0, 2]⟩,
    ⟨(some 2), .mov, [.t 22], none, [3, 0, 1, 2, 3]⟩] false)
  .ret)
def b101 : DCode :=
 (.seq
  (.region [⟨(some 2), .mov, [.c (.int .i64 0)], none, []⟩] false)
  (.seq
   (.region [⟨(some 3), .mov, [.c (.int .i64 0)], none, []⟩] false)
   (.seq
    (.seq
     (.region [⟨(some 6), .movv, [.t 0], none, []⟩,
       ⟨(some 7), .len, [.t 6], none, [0]⟩,
       ⟨(some 8), .mov, [.c (.int .i64 0)], none, []⟩] false)
     (.block 0
      (.loop b101l1)))
    (.keep [3] [] b101k3))))
def d101 : DFn := ⟨1, 23, [.tmp 2], b101⟩
theorem body101 : d101.body = b101 := rfl
theorem res101 : d101.res = [.tmp 2] := rfl
theorem k101 : chkFn Try.prog Try.f101 d101 = true := by kernel_rfl

def b134 : DCode :=
 (.seq
  (.region [⟨(some 2), .mov, [.c (.int .i64 0)], none, []⟩] false)
  (.seq
   (.region [⟨(some 3), .mov, [.t 0], none, []⟩,
     ⟨(some 4), .call, [.f 115, .t 3, .c (.int .i64 0), .c (.int .i64 3)], none, [0]⟩,
     ⟨(some 5), .call, [.f 90, .t 4, .c (.int .i64 2)], none, [1, 1]⟩,
     ⟨(some 2), .mov, [.t 5], none, [2, 2, 0, 1, 2]⟩] false)
   .ret))
def d134 : DFn := ⟨1, 6, [.tmp 2], b134⟩
theorem body134 : d134.body = b134 := rfl
theorem res134 : d134.res = [.tmp 2] := rfl
theorem k134 : chkFn Try.prog Try.f134 d134 = true := by kernel_rfl

def b98 : DCode :=
 (.seq
  (.region [⟨(some 2), .box, [.t 0], none, []⟩,
    ⟨(some 4), (.alloc [(.imm (.slc 2 [])), (.imm (.slc 1 [])), (.imm (.slc 1 [])), (.imm (.int .i64 0))]), [], none, []⟩,
    ⟨(some 5), .mov, [.c (.int .i64 0)], none, []⟩] false)
  (.seq
   (.region [⟨(some 9), (.load true 2), [.t 2], none, []⟩,
     ⟨(some 10), .call, [.f 103, .t 9], none, [0]⟩,
     ⟨(some 8), .mov, [.t 10], none, [1]⟩,
     ⟨(some 11), (.ext 0), [.t 8], none, [2]⟩,
     ⟨(some 12), (.ext 1), [.t 8], none, [2]⟩,
     ⟨(some 6), (.alloc [(.imm (.slc 2 [])), (.imm (.slc 1 [])), (.imm (.slc 1 [])), (.imm (.int .i64 0))]), [], none, []⟩,
     ⟨none, (.store 4), [.t 6, .t 11], none, [5, 3, 1, 0, 1, 2, 3, 5]⟩,
     ⟨(some 7), .mov, [.t 12], none, [4, 6, 0, 1, 2, 3, 4, 5, 6]⟩] false)
   (.seq
    (.region [⟨(some 13), (.load true 4), [.t 6], none, []⟩,
      ⟨(some 14), .mov, [.t 7], none, []⟩,
      ⟨(some 15), .mov, [.t 1], none, []⟩,
      ⟨(some 16), .call, [.f 134, .t 15], none, [2]⟩,
      ⟨(some 17), (.bsl 1), [.t 14, .t 16], none, [1, 3]⟩,
      ⟨(some 18), .call, [.f 89, .t 17], none, [4, 3]⟩,
      ⟨none, (.store 4), [.t 4, .t 13], none, [0, 5, 0]⟩,
      ⟨(some 5), .mov, [.t 18], none, [5, 6, 0, 1, 2, 3, 4, 5, 6]⟩] true)
    .ret)))
def d98 : DFn := ⟨2, 19, [.cell 4 true 4, .tmp 5], b98⟩
theorem body98 : d98.body = b98 := rfl
theorem res98 : d98.res = [.cell 4 true 4, .tmp 5] := rfl
theorem k98 : chkFn Try.prog Try.f98 d98 = true := by kernel_rfl

def b151k0 : DCode :=
 (.seq
  (.block 5
   (.seq
    (.region [⟨(some 23), .mov, [.t 21], none, []⟩,
      ⟨(some 8), .mov, [.t 23], none, [0, 0]⟩] false)
    (.region [⟨(some 24), .mov, [.t 6], none, []⟩,
      ⟨(some 25), .mov, [.t 7], none, []⟩,
      ⟨(some 26), (.faddr 0 true 4), [.t 5], none, []⟩,
      ⟨(some 27), (.iarr 2 2 true), [.t 26, .t 24], none, [2, 0]⟩,
      ⟨(some 28), (.iarr 2 1 false), [.t 27, .t 25], none, [3, 1]⟩,
      ⟨(some 29), (.load false 1), [.t 28], none, [4]⟩,
      ⟨(some 30), .mov, [.t 6], none, []⟩,
      ⟨(some 31), .mov, [.t 8], none, []⟩,
      ⟨(some 32), (.faddr 0 true 4), [.t 2], none, []⟩,
      ⟨(some 33), (.iarr 2 2 true), [.t 32, .t 30], none, [8, 6]⟩,
      ⟨(some 34), (.iarr 2 1 false), [.t 33, .t 31], none, [9, 7]⟩,
      ⟨(some 35), (.load false 1), [.t 34], none, [10]⟩,
      ⟨(some 36), .mov, [.t 8], none, []⟩,
      ⟨(some 37), .mov, [.t 7], none, []⟩,
      ⟨(some 38), (.faddr 0 true 4), [.t 3], none, []⟩,
      ⟨(some 39), (.iarr 2 2 true), [.t 38, .t 36], none, [14, 12]⟩,
      ⟨(some 40), (.iarr 2 1 false), [.t 39, .t 37], none, [15, 13]⟩,
      ⟨(some 41), (.load false 1), [.t 40], none, [16]⟩,
      ⟨(some 42), (.px (.cpx .mul)), [.t 35, .t 41], none, [11, 17]⟩,
      ⟨(some 43), (.px (.cpx .add)), [.t 29, .t 42], none, [5, 18]⟩,
      ⟨(some 44), (.faddr 0 true 4), [.t 5], none, []⟩,
      ⟨(some 45), (.iarr 2 2 true), [.t 44, .t 24], none, [20, 0]⟩,
      ⟨(some 46), (.iarr 2 1 false), [.t 45, .t 25], none, [21, 1, 0, 1, 2, 3, 4, 5, 6, 7, 8, 9, 10, 11, 12, 13, 14, 15, 16, 17, 18, 19]⟩,
      ⟨none, (.store 1), [.t 46, .t 43], none, [22, 19, 0, 1, 2, 3, 4, 5, 6, 7, 8, 9, 10, 11, 12, 13, 14, 15, 16, 17, 18, 19]⟩] true)))
  (.region [⟨(some 47), (.bin .add), [.t 21, .c (.int .i64 1)], none, []⟩,
    ⟨(some 21), .mov, [.t 47], none, [0]⟩] false))
def b151l0 : DCode := .keep [2, 3, 4, 5, 6, 7, 15, 18, 21] [2, 3, 4, 5]
  (.seq
   (.region [⟨(some 22), (.bin .lss), [.t 21, .c (.int .i64 2)], none, []⟩] false)
   (.seq
    (.cond (.t 22)
     .skip
     (.exit 4))
    (.keep [2, 3, 4, 5, 6, 7, 15, 18, 21] [2, 3, 4, 5] b151k0)))
def b151k1 : DCode :=
 (.region [⟨(some 48), (.bin .add), [.t 18, .c (.int .i64 1)], none, []⟩,
   ⟨(some 18), .mov, [.t 48], none, [0]⟩] false)
def b151k2 : DCode :=
 (.seq
  (.block 3
   (.seq
    (.region [⟨(some 20), .mov, [.t 18], none, []⟩,
      ⟨(some 7), .mov, [.t 20], none, [0, 0]⟩] false)
    (.seq
     (.region [⟨(some 21), .mov, [.c (.int .i64 0)], none, []⟩] false)
     (.block 4
      (.loop b151l0)))))
  (.keep [2, 3, 4, 5, 6, 15, 18] [2, 3, 4, 5] b151k1))
def b151l1 : DCode := .keep [2, 3, 4, 5, 6, 15, 18] [2, 3, 4, 5]
  (.seq
   (.region [⟨(some 19), (.bin .lss), [.t 18, .c (.int .i64 2)], none, []⟩] false)
   (.seq
    (.cond (.t 19)
     .skip
     (.exit 2))
    (.keep [2, 3, 4, 5, 6, 15, 18] [2, 3, 4, 5] b151k2)))
def b151k3 : DCode :=
 (.region [⟨(some 49), (.bin .add), [.t 15, .c (.int .i64 1)], none, []⟩,
   ⟨(some 15), .mov, [.t 49], none, [0]⟩] false)
def b151k4 : DCode :=
 (.seq
  (.block 1
   (.seq
    (.region [⟨(some 17), .mov, [.t 15], none, []⟩,
      ⟨(some 6), .mov, [.t 17], none, [0, 0]⟩] false)
    (.seq
     (.region [⟨(some 18), .mov, [.c (.int .i64 0)], none, []⟩] false)
     (.block 2
      (.loop b151l1)))))
  (.keep [2, 3, 4, 5, 15] [2, 3, 4, 5] b151k3))
def b151l2 : DCode := .keep [2, 3, 4, 5, 15] [2, 3, 4, 5]
  (.seq
   (.region [⟨(some 16), (.bin .lss), [.t 15, .c (.int .i64 2)], none, []⟩] false)
   (.seq
    (.cond (.t 16)
     .skip
     (.exit 0))
    (.keep [2, 3, 4, 5, 15] [2, 3, 4, 5] b151k4)))
def b151k5 : DCode :=
 (.seq
  (.region [⟨(some 50), (.load true 5), [.t 5], none, []⟩,
    ⟨none, (.store 5), [.t 4, .t 50], none, [0, 0]⟩] false)
  .ret)
def b151 : DCode :=
 (.seq
  (.region [⟨(some 2), .box, [.t 0], none, []⟩,
    ⟨(some 3), .box, [.t 1], none, []⟩,
    ⟨(some 4), (.alloc [(.imm (.cpx .f64 0 0)), (.imm (.cpx .f64 0 0)), (.imm (.cpx .f64 0 0)), (.imm (.cpx .f64 0 0)), (.imm (.int .i64 0))]), [], none, []⟩] false)
  (.seq
   (.region [⟨(some 9), (.faddr 4 false 1), [.t 2], none, []⟩,
     ⟨(some 10), (.load false 1), [.t 9], none, [0]⟩,
     ⟨(some 11), (.faddr 4 false 1), [.t 3], none, []⟩,
     ⟨(some 12), (.load false 1), [.t 11], none, [2]⟩,
     ⟨(some 13), (.bin .mul), [.t 10, .t 12], none, [1, 3]⟩,
     ⟨(some 14), (.build [(.imm (.cpx .f64 0 0)), (.imm (.cpx .f64 0 0)), (.imm (.cpx .f64 0 0)), (.imm (.cpx .f64 0 0)), (.imm (.int .i64 0))] [(4, 1)]), [.t 13], none, [4]⟩,
     ⟨(some 5), (.alloc [(.imm (.cpx .f64 0 0)), (.imm (.cpx .f64 0 0)), (.imm (.cpx .f64 0 0)), (.imm (.cpx .f64 0 0)), (.imm (.int .i64 0))]), [], none, []⟩,
     ⟨none, (.store 5), [.t 5, .t 14], none, [6, 5, 0, 1, 2, 3, 4, 5, 6]⟩] false)
   (.seq
    (.seq
     (.region [⟨(some 15), .mov, [.c (.int .i64 0)], none, []⟩] false)
     (.block 0
      (.loop b151l2)))
    (.keep [4, 5] [4, 5] b151k5))))
def d151 : DFn := ⟨2, 51, [.cell 4 true 5], b151⟩
theorem body151 : d151.body = b151 := rfl
theorem res151 : d151.res = [.cell 4 true 5] := rfl
theorem k151 : chkFn Try.prog Try.f151 d151 = true := by kernel_rfl

def b131 : DCode :=
 (.seq
  (.region [⟨(some 2), .mov, [.c (.cpx .f64 0 0)], none, []⟩] false)
  (.seq
   (.region [⟨(some 3), .mov, [.t 0], none, []⟩,
     ⟨(some 4), .call, [.f 129, .t 3], none, [0]⟩,
     ⟨(some 5), (.px .re), [.t 4], none, [1]⟩,
     ⟨(some 6), (.px .cplx), [.t 5, .c (.flt .f64 0)], none, [2]⟩,
     ⟨(some 2), .mov, [.t 6], none, [3, 1, 0, 1, 2, 3]⟩] false)
   .ret))
def d131 : DFn := ⟨1, 7, [.tmp 2], b131⟩
theorem body131 : d131.body = b131 := rfl
theorem res131 : d131.res = [.tmp 2] := rfl
theorem k131 : chkFn Try.prog Try.f131 d131 = true := by kernel_rfl

def b132 : DCode :=
 (.seq
  (.region [⟨(some 2), .mov, [.c (.cpx .f64 0 0)], none, []⟩] false)
  (.seq
   (.region [⟨(some 3), .mov, [.t 0], none, []⟩,
     ⟨(some 4), .call, [.f 129, .t 3], none, [0]⟩,
     ⟨(some 5), (.px .im), [.t 4], none, [1]⟩,
     ⟨(some 6), (.px .cplx), [.t 5, .c (.flt .f64 0)], none, [2]⟩,
     ⟨(some 2), .mov, [.t 6], none, [3, 1, 0, 1, 2, 3]⟩] false)
   .ret))
def d132 : DFn := ⟨1, 7, [.tmp 2], b132⟩
theorem body132 : d132.body = b132 := rfl
theorem res132 : d132.res = [.tmp 2] := rfl
theorem k132 : chkFn Try.prog Try.f132 d132 = true := by kernel_rfl

def b150 : DCode :=
 (.seq
  (.region [⟨(some 2), .box, [.t 0], none, []⟩,
    ⟨(some 4), (.alloc [(.imm (.cpx .f64 0 0)), (.imm (.cpx .f64 0 0)), (.imm (.cpx .f64 0 0)), (.imm (.cpx .f64 0 0)), (.imm (.int .i64 0))]), [], none, []⟩] false)
  (.seq
   (.region [⟨(some 8), (.faddr 1 false 1), [.t 2], none, []⟩,
     ⟨(some 9), (.load false 1), [.t 8], none, [0]⟩,
     ⟨(some 10), (.px (.i2f .f64)), [.t 9], none, [1]⟩,
     ⟨(some 11), (.px .cplx), [.t 10, .c (.flt .f64 0)], none, [2]⟩,
     ⟨(some 5), .mov, [.t 11], none, [3, 0, 1, 2, 3]⟩] false)
   (.seq
    (.region [⟨(some 12), .mov, [.t 1], none, []⟩,
      ⟨(some 13), (.faddr 0 false 1), [.t 2], none, []⟩,
      ⟨(some 14), (.load false 1), [.t 13], none, [1]⟩,
      ⟨(some 15), (.bin .mul), [.t 12, .t 14], none, [0, 2]⟩,
      ⟨(some 16), .call, [.f 131, .t 15], none, [3]⟩,
      ⟨(some 17), .mov, [.t 1], none, []⟩,
      ⟨(some 18), (.faddr 0 false 1), [.t 2], none, []⟩,
      ⟨(some 19), (.load false 1), [.t 18], none, [6]⟩,
      ⟨(some 20), (.bin .mul), [.t 17, .t 19], none, [5, 7]⟩,
      ⟨(some 21), .call, [.f 132, .t 20], none, [8, 4]⟩,
      ⟨(some 6), .mov, [.t 16], none, [4, 9, 0, 1, 2, 3, 4]⟩,
      ⟨(some 7), .mov, [.t 21], none, [9, 10, 0, 1, 2, 3, 4, 5, 6, 7, 8, 9, 10]⟩] true)
    (.seq
     (.region [⟨(some 22), .mov, [.t 6], none, []⟩,
       ⟨(some 23), .mov, [.t 5], none, []⟩,
       ⟨(some 24), (.px (.cpx .mul)), [.t 22, .t 23], none, [0, 1]⟩,
       ⟨(some 25), .mov, [.t 7], none, []⟩,
       ⟨(some 26), (.px (.cpx .mul)), [.c (.cpx .f64 0 13830554455654793216), .t 25], none, [3]⟩,
       ⟨(some 27), (.build [(.imm (.cpx .f64 0 0)), (.imm (.cpx .f64 0 0))] [(0, 1), (1, 1)]), [.t 24, .t 26], none, [2, 4]⟩,
       ⟨(some 28), .mov, [.t 7], none, []⟩,
       ⟨(some 29), (.px (.cpx .mul)), [.c (.cpx .f64 0 13830554455654793216), .t 28], none, [6]⟩,
       ⟨(some 30), .mov, [.t 5], none, []⟩,
       ⟨(some 31), (.px (.cpx .mul)), [.t 29, .t 30], none, [7, 8]⟩,
       ⟨(some 32), .mov, [.t 5], none, []⟩,
       ⟨(some 33), (.px (.cpx .mul)), [.t 31, .t 32], none, [9, 10]⟩,
       ⟨(some 34), .mov, [.t 6], none, []⟩,
       ⟨(some 35), .mov, [.t 5], none, []⟩,
       ⟨(some 36), (.px (.cpx .mul)), [.t 34, .t 35], none, [12, 13]⟩,
       ⟨(some 37), (.build [(.imm (.cpx .f64 0 0)), (.imm (.cpx .f64 0 0))] [(0, 1), (1, 1)]), [.t 33, .t 36], none, [11, 14]⟩,
       ⟨(some 38), (.build [(.imm (.cpx .f64 0 0)), (.imm (.cpx .f64 0 0)), (.imm (.cpx .f64 0 0)), (.imm (.cpx .f64 0 0))] [(0, 2), (2, 2)]), [.t 27, .t 37], none, [5, 15]⟩,
       ⟨(some 39), (.faddr 1 false 1), [.t 2], none, []⟩,
       ⟨(some 40), (.load false 1), [.t 39], none, [17]⟩,
       ⟨(some 41), (.build [(.imm (.cpx .f64 0 0)), (.imm (.cpx .f64 0 0)), (.imm (.cpx .f64 0 0)), (.imm (.cpx .f64 0 0)), (.imm (.int .i64 0))] [(0, 4), (4, 1)]), [.t 38, .t 40], none, [16, 18]⟩,
       ⟨none, (.store 5), [.t 4, .t 41], none, [19, 0, 1, 2, 3, 4, 5, 6, 7, 8, 9, 10, 11, 12, 13, 14, 15, 16, 17, 18, 19]⟩] false)
     .ret))))
def d150 : DFn := ⟨2, 42, [.cell 4 true 5], b150⟩
theorem body150 : d150.body = b150 := rfl
theorem res150 : d150.res = [.cell 4 true 5] := rfl
theorem k150 : chkFn Try.prog Try.f150 d150 = true := by kernel_rfl

def b152 : DCode :=
 (.seq
  (.region [⟨(some 4), (.alloc [(.imm (.cpx .f64 0 0)), (.imm (.cpx .f64 0 0)), (.imm (.cpx .f64 0 0)), (.imm (.cpx .f64 0 0)), (.imm (.int .i64 0))]), [], none, []⟩] false)
  (.seq
   (.region [⟨(some 5), (.build [(.imm (.cpx .f64 0 0)), (.imm (.cpx .f64 0 0))] [(0, 1), (1, 1)]), [.c (.cpx .f64 4607182418800017408 0), .c (.cpx .f64 0 0)], none, []⟩,
     ⟨(some 6), .mov, [.t 0], none, []⟩,
     ⟨(some 7), (.px (.i2f .f64)), [.t 6], none, [1]⟩,
     ⟨(some 8), (.px .cplx), [.t 7, .c (.flt .f64 0)], none, [2]⟩,
     ⟨(some 9), (.px .neg), [.t 8], none, [3]⟩,
     ⟨(some 10), .mov, [.t 1], none, []⟩,
     ⟨(some 11), (.un .neg), [.t 10], none, [5]⟩,
     ⟨(some 12), .call, [.f 129, .t 11], none, [6]⟩,
     ⟨(some 13), (.px (.cpx .sub)), [.c (.cpx .f64 4607182418800017408 0), .t 12], none, [7]⟩,
     ⟨(some 14), (.px (.cpx .mul)), [.t 9, .t 13], none, [4, 8]⟩,
     ⟨(some 15), (.build [(.imm (.cpx .f64 0 0)), (.imm (.cpx .f64 0 0))] [(0, 1), (1, 1)]), [.t 14, .c (.cpx .f64 4607182418800017408 0)], none, [9]⟩,
     ⟨(some 16), (.build [(.imm (.cpx .f64 0 0)), (.imm (.cpx .f64 0 0)), (.imm (.cpx .f64 0 0)), (.imm (.cpx .f64 0 0))] [(0, 2), (2, 2)]), [.t 5, .t 15], none, [0, 10]⟩,
     ⟨(some 17), (.build [(.imm (.cpx .f64 0 0)), (.imm (.cpx .f64 0 0)), (.imm (.cpx .f64 0 0)), (.imm (.cpx .f64 0 0)), (.imm (.int .i64 0))] [(0, 4), (4, 1)]), [.t 16, .c (.int .i64 1)], none, [11]⟩,
     ⟨none, (.store 5), [.t 4, .t 17], none, [12, 7, 0, 1, 2, 3, 4, 5, 6, 7, 8, 9, 10, 11, 12]⟩] false)
   .ret))
def d152 : DFn := ⟨2, 18, [.cell 4 true 5], b152⟩
theorem body152 : d152.body = b152 := rfl
theorem res152 : d152.res = [.cell 4 true 5] := rfl
theorem k152 : chkFn Try.prog Try.f152 d152 = true := by kernel_rfl

def b99k0 : DCode :=
 (.seq
  (.block 1
   (.seq
    (.region [⟨(some 21), .mov, [.t 19], none, []⟩,
      ⟨(some 22), (.iaddr 1), [.t 17, .t 19], none, []⟩,
      ⟨(some 23), (.load false 1), [.t 22], none, [1]⟩,
      ⟨(some 6), .mov, [.t 21], none, [0, 0, 1, 2]⟩,
      ⟨(some 7), .mov, [.t 23], none, [2, 3, 0, 1, 2, 3]⟩] false)
    (.region [⟨(some 24), (.faddr 0 true 2), [.t 2], none, []⟩,
      ⟨(some 25), (.faddr 0 false 1), [.t 24], none, [0]⟩,
      ⟨(some 26), (.load false 1), [.t 25], none, [1]⟩,
      ⟨(some 27), .mov, [.t 6], none, []⟩,
      ⟨(some 28), (.bin .add), [.t 27, .c (.int .i64 1)], none, [3]⟩,
      ⟨(some 29), (.iaddr 2), [.t 26, .t 28], none, [2, 4]⟩,
      ⟨(some 30), (.load true 2), [.t 29], none, [5]⟩,
      ⟨(some 31), .mov, [.t 1], none, []⟩,
      ⟨(some 32), .call, [.f 150, .t 30, .t 31], none, [6, 7]⟩,
      ⟨(some 33), .mov, [.t 7], none, []⟩,
      ⟨(some 34), .mov, [.t 1], none, []⟩,
      ⟨(some 35), .call, [.f 152, .t 33, .t 34], none, [9, 10, 8]⟩,
      ⟨(some 36), (.load true 5), [.t 5], none, []⟩,
      ⟨(some 37), .call, [.f 151, .t 35, .t 36], none, [11, 12, 11]⟩,
      ⟨(some 38), .call, [.f 151, .t 32, .t 37], none, [8, 13, 13]⟩,
      ⟨none, (.store 5), [.t 5, .t 38], none, [14, 14, 0, 1, 2, 3, 4, 5, 6, 7, 8, 9, 10, 11, 12, 13, 14]⟩] true)))
  (.region [⟨(some 39), (.bin .add), [.t 19, .c (.int .i64 1)], none, []⟩,
    ⟨(some 19), .mov, [.t 39], none, [0]⟩] false))
def b99l0 : DCode := .keep [1, 2, 4, 5, 17, 18, 19] [2, 4, 5]
  (.seq
   (.region [⟨(some 20), (.bin .lss), [.t 19, .t 18], none, []⟩] false)
   (.seq
    (.cond (.t 20)
     .skip
     (.exit 0))
    (.keep [1, 2, 4, 5, 17, 18, 19] [2, 4, 5] b99k0)))
def b99k1 : DCode :=
 (.seq
  (.region [⟨(some 40), (.load true 5), [.t 5], none, []⟩,
    ⟨none, (.store 5), [.t 4, .t 40], none, [0, 0]⟩] false)
  .ret)
def b99 : DCode :=
 (.seq
  (.region [⟨(some 2), .box, [.t 0], none, []⟩,
    ⟨(some 4), (.alloc [(.imm (.cpx .f64 0 0)), (.imm (.cpx .f64 0 0)), (.imm (.cpx .f64 0 0)), (.imm (.cpx .f64 0 0)), (.imm (.int .i64 0))]), [], none, []⟩] false)
  (.seq
   (.region [⟨(some 8), (.faddr 0 true 2), [.t 2], none, []⟩,
     ⟨(some 9), (.faddr 0 false 1), [.t 8], none, [0]⟩,
     ⟨(some 10), (.load false 1), [.t 9], none, [1]⟩,
     ⟨(some 11), (.iaddr 2), [.t 10, .c (.int .i64 0)], none, [2]⟩,
     ⟨(some 12), (.load true 2), [.t 11], none, [3]⟩,
     ⟨(some 13), .mov, [.t 1], none, []⟩,
     ⟨(some 14), .call, [.f 150, .t 12, .t 13], none, [4, 5]⟩,
     ⟨(some 5), (.alloc [(.imm (.cpx .f64 0 0)), (.imm (.cpx .f64 0 0)), (.imm (.cpx .f64 0 0)), (.imm (.cpx .f64 0 0)), (.imm (.int .i64 0))]), [], none, []⟩,
     ⟨none, (.store 5), [.t 5, .t 14], none, [7, 6, 6, 0, 1, 2, 3, 4, 5, 6, 7]⟩] false)
   (.seq
    (.seq
     (.region [⟨(some 15), (.faddr 0 true 2), [.t 2], none, []⟩,
       ⟨(some 16), (.faddr 1 false 1), [.t 15], none, [0]⟩,
       ⟨(some 17), (.load false 1), [.t 16], none, [1]⟩,
       ⟨(some 18), .len, [.t 17], none, [2]⟩,
       ⟨(some 19), .mov, [.c (.int .i64 0)], none, []⟩] false)
     (.block 0
      (.loop b99l0)))
    (.keep [4, 5] [4, 5] b99k1))))
def d99 : DFn := ⟨2, 41, [.cell 4 true 5], b99⟩
theorem body99 : d99.body = b99 := rfl
theorem res99 : d99.res = [.cell 4 true 5] := rfl
theorem k99 : chkFn Try.prog Try.f99 d99 = true := by kernel_rfl

def b102 : DCode :=
 (.seq
  (.region [⟨(some 2), .box, [.t 0], none, []⟩,
    ⟨(some 4), (.alloc [(.imm (.int .i64 0)), (.imm (.int .i64 0))]), [], none, []⟩] false)
  (.seq
   (.region [⟨(some 5), (.faddr 0 false 1), [.t 2], none, []⟩,
     ⟨(some 6), (.load false 1), [.t 5], none, [0]⟩,
     ⟨(some 7), .mov, [.t 1], none, []⟩,
     ⟨(some 8), (.bin .quo), [.t 6, .t 7], none, [1, 2]⟩,
     ⟨(some 9), (.faddr 1 false 1), [.t 2], none, []⟩,
     ⟨(some 10), (.load false 1), [.t 9], none, [4]⟩,
     ⟨(some 11), .mov, [.t 1], none, []⟩,
     ⟨(some 12), (.bin .quo), [.t 10, .t 11], none, [5, 6]⟩,
     ⟨(some 13), (.build [(.imm (.int .i64 0)), (.imm (.int .i64 0))] [(0, 1), (1, 1)]), [.t 8, .t 12], none, [3, 7]⟩,
     ⟨none, (.store 2), [.t 4, .t 13], none, [8, 0, 1, 2, 3, 4, 5, 6, 7, 8]⟩] true)
   .ret))
def d102 : DFn := ⟨2, 14, [.cell 4 true 2], b102⟩
theorem body102 : d102.body = b102 := rfl
theorem res102 : d102.res = [.cell 4 true 2] := rfl
theorem k102 : chkFn Try.prog Try.f102 d102 = true := by kernel_rfl

def b42k0 : DCode :=
 (.seq
  (.block 1
   (.seq
    (.region [⟨(some 60), (.index 4 1 false), [.t 57, .t 58], none, []⟩,
      ⟨(some 12), .mov, [.t 60], none, [0, 0]⟩] false)
    (.region [⟨(some 61), .mov, [.t 10], none, []⟩,
      ⟨(some 62), .mov, [.t 12], none, []⟩,
      ⟨(some 63), .nilck, [.t 62], none, [1]⟩,
      ⟨(some 64), (.faddr 0 false 1), [.t 63], none, [2]⟩,
      ⟨(some 65), (.load false 1), [.t 64], none, [3]⟩,
      ⟨(some 66), .mov, [.t 12], none, []⟩,
      ⟨(some 67), .nilck, [.t 66], none, [5]⟩,
      ⟨(some 68), (.faddr 1 false 1), [.t 67], none, [6]⟩,
      ⟨(some 69), (.load false 1), [.t 68], none, [7]⟩,
      ⟨(some 70), (.bsl 1), [.t 61, .t 65, .t 69], none, [0, 4, 8]⟩,
      ⟨(some 71), .call, [.f 101, .t 70], none, [9]⟩,
      ⟨(some 10), .mov, [.t 71], none, [10, 10, 0, 1, 2, 3, 4, 5, 6, 7, 8, 9, 10]⟩] true)))
  (.region [⟨(some 72), (.bin .add), [.t 58, .c (.int .i64 1)], none, []⟩,
    ⟨(some 58), .mov, [.t 72], none, [0]⟩] false))
def b42l0 : DCode := .keep [4, 9, 10, 57, 58] [4, 9]
  (.seq
   (.region [⟨(some 59), (.bin .lss), [.t 58, .c (.int .i64 4)], none, []⟩] false)
   (.seq
    (.cond (.t 59)
     .skip
     (.exit 0))
    (.keep [4, 9, 10, 57, 58] [4, 9] b42k0)))
def b42k1 : DCode :=
 (.seq
  (.block 3
   (.seq
    (.region [⟨(some 80), (.index 4 1 false), [.t 77, .t 78], none, []⟩,
      ⟨(some 14), .mov, [.t 80], none, [0, 0]⟩] false)
    (.region [⟨(some 81), .mov, [.t 14], none, []⟩,
      ⟨(some 82), .mov, [.t 14], none, []⟩,
      ⟨(some 83), .nilck, [.t 82], none, [1]⟩,
      ⟨(some 84), (.load true 2), [.t 83], none, [2]⟩,
      ⟨(some 85), .mov, [.t 10], none, []⟩,
      ⟨(some 86), .call, [.f 102, .t 84, .t 85], none, [3, 4]⟩,
      ⟨(some 87), .nilck, [.t 81], none, [0, 0, 1, 2, 3, 4, 5]⟩,
      ⟨none, (.store 2), [.t 87, .t 86], none, [6, 5, 5, 0, 1, 2, 3, 4, 5]⟩] false)))
  (.region [⟨(some 88), (.bin .add), [.t 78, .c (.int .i64 1)], none, []⟩,
    ⟨(some 78), .mov, [.t 88], none, [0]⟩] false))
def b42l1 : DCode := .keep [4, 9, 10, 77, 78] [4, 9]
  (.seq
   (.region [⟨(some 79), (.bin .lss), [.t 78, .c (.int .i64 4)], none, []⟩] false)
   (.seq
    (.cond (.t 79)
     .skip
     (.exit 2))
    (.keep [4, 9, 10, 77, 78] [4, 9] b42k1)))
def b42k2 : DCode :=
 (.seq
  (.region [⟨(some 89), (.faddr 8 false 1), [.t 9], none, []⟩,
    ⟨(some 90), (.load false 1), [.t 89], none, [0]⟩,
    ⟨(some 91), .mov, [.t 10], none, []⟩,
    ⟨(some 92), (.bin .quo), [.t 90, .t 91], none, [1, 2]⟩,
    ⟨(some 93), (.faddr 8 false 1), [.t 9], none, [0, 1, 2, 3]⟩,
    ⟨none, (.store 1), [.t 93, .t 92], none, [4, 3, 0, 1, 2, 3]⟩] false)
  (.seq
   (.region [⟨(some 94), (.load true 9), [.t 9], none, []⟩,
     ⟨none, (.store 9), [.t 4, .t 94], none, [0, 0]⟩,
     ⟨(some 5), .mov, [.c (.int .i64 0)], none, [1, 0, 1]⟩] false)
   .ret))
def b42k3 : DCode :=
 (.seq
  (.seq
   (.region [⟨(some 73), (.faddr 0 true 2), [.t 9], none, []⟩,
     ⟨(some 74), (.faddr 2 true 2), [.t 9], none, []⟩,
     ⟨(some 75), (.faddr 4 true 2), [.t 9], none, []⟩,
     ⟨(some 76), (.faddr 6 true 2), [.t 9], none, []⟩,
     ⟨(some 77), (.build [(.imm .nilp), (.imm .nilp), (.imm .nilp), (.imm .nilp)] [(0, 1), (1, 1), (2, 1), (3, 1)]), [.t 73, .t 74, .t 75, .t 76], none, [0, 1, 2, 3]⟩,
     ⟨(some 78), .mov, [.c (.int .i64 0)], none, []⟩] false)
   (.block 2
    (.loop b42l1)))
  (.keep [4, 9, 10] [4, 9] b42k2))
def b42k4 : DCode :=
 (.seq
  (.region [⟨(some 25), (.load true 4), [.t 6], none, []⟩,
    ⟨(some 26), .mov, [.t 1], none, []⟩,
    ⟨(some 27), .call, [.f 99, .t 25, .t 26], none, [0, 1]⟩,
    ⟨(some 8), (.alloc [(.imm (.cpx .f64 0 0)), (.imm (.cpx .f64 0 0)), (.imm (.cpx .f64 0 0)), (.imm (.cpx .f64 0 0)), (.imm (.int .i64 0))]), [], none, []⟩,
    ⟨none, (.store 5), [.t 8, .t 27], none, [3, 2, 2, 0, 1, 2, 3]⟩] false)
  (.seq
   (.region [⟨(some 28), (.faddr 0 true 4), [.t 8], none, []⟩,
     ⟨(some 29), (.iarr 2 2 true), [.t 28, .c (.int .i64 0)], none, [0]⟩,
     ⟨(some 30), (.iarr 2 1 false), [.t 29, .c (.int .i64 0)], none, [1]⟩,
     ⟨(some 31), (.load false 1), [.t 30], none, [2]⟩,
     ⟨(some 32), .call, [.f 100, .t 31], none, [3]⟩,
     ⟨(some 33), (.faddr 0 true 4), [.t 8], none, []⟩,
     ⟨(some 34), (.iarr 2 2 true), [.t 33, .c (.int .i64 0)], none, [5]⟩,
     ⟨(some 35), (.iarr 2 1 false), [.t 34, .c (.int .i64 1)], none, [6]⟩,
     ⟨(some 36), (.load false 1), [.t 35], none, [7]⟩,
     ⟨(some 37), .call, [.f 100, .t 36], none, [8, 4]⟩,
     ⟨(some 38), (.faddr 0 true 4), [.t 8], none, []⟩,
     ⟨(some 39), (.iarr 2 2 true), [.t 38, .c (.int .i64 1)], none, [10]⟩,
     ⟨(some 40), (.iarr 2 1 false), [.t 39, .c (.int .i64 0)], none, [11]⟩,
     ⟨(some 41), (.load false 1), [.t 40], none, [12]⟩,
     ⟨(some 42), .call, [.f 100, .t 41], none, [13, 9]⟩,
     ⟨(some 43), (.faddr 0 true 4), [.t 8], none, []⟩,
     ⟨(some 44), (.iarr 2 2 true), [.t 43, .c (.int .i64 1)], none, [15]⟩,
     ⟨(some 45), (.iarr 2 1 false), [.t 44, .c (.int .i64 1)], none, [16]⟩,
     ⟨(some 46), (.load false 1), [.t 45], none, [17]⟩,
     ⟨(some 47), .call, [.f 100, .t 46], none, [18, 14]⟩,
     ⟨(some 48), (.faddr 4 false 1), [.t 8], none, []⟩,
     ⟨(some 49), (.load false 1), [.t 48], none, [20]⟩,
     ⟨(some 50), (.build [(.imm (.int .i64 0)), (.imm (.int .i64 0)), (.imm (.int .i64 0)), (.imm (.int .i64 0)), (.imm (.int .i64 0)), (.imm (.int .i64 0)), (.imm (.int .i64 0)), (.imm (.int .i64 0)), (.imm (.int .i64 0))] [(0, 2), (2, 2), (4, 2), (6, 2), (8, 1)]), [.t 32, .t 37, .t 42, .t 47, .t 49], none, [4, 9, 14, 19, 21]⟩,
     ⟨(some 9), (.alloc [(.imm (.int .i64 0)), (.imm (.int .i64 0)), (.imm (.int .i64 0)), (.imm (.int .i64 0)), (.imm (.int .i64 0)), (.imm (.int .i64 0)), (.imm (.int .i64 0)), (.imm (.int .i64 0)), (.imm (.int .i64 0))]), [], none, []⟩,
     ⟨none, (.store 9), [.t 9, .t 50], none, [23, 22, 19, 0, 1, 2, 3, 4, 5, 6, 7, 8, 9, 10, 11, 12, 13, 14, 15, 16, 17, 18, 19, 20, 21, 22, 23]⟩] true)
   (.seq
    (.region [⟨(some 51), (.faddr 8 false 1), [.t 9], none, []⟩,
      ⟨(some 52), (.load false 1), [.t 51], none, [0]⟩,
      ⟨(some 10), .mov, [.t 52], none, [1, 0, 1]⟩] false)
    (.seq
     (.seq
      (.region [⟨(some 53), (.faddr 0 true 2), [.t 9], none, []⟩,
        ⟨(some 54), (.faddr 2 true 2), [.t 9], none, []⟩,
        ⟨(some 55), (.faddr 4 true 2), [.t 9], none, []⟩,
        ⟨(some 56), (.faddr 6 true 2), [.t 9], none, []⟩,
        ⟨(some 57), (.build [(.imm .nilp), (.imm .nilp), (.imm .nilp), (.imm .nilp)] [(0, 1), (1, 1), (2, 1), (3, 1)]), [.t 53, .t 54, .t 55, .t 56], none, [0, 1, 2, 3]⟩,
        ⟨(some 58), .mov, [.c (.int .i64 0)], none, []⟩] false)
      (.block 0
       (.loop b42l0)))
     (.keep [4, 9, 10] [4, 9] b42k3)))))
def b42 : DCode :=
 (.seq
  (.region [⟨(some 2), .box, [.t 0], none, []⟩,
    ⟨(some 4), (.alloc [(.imm (.int .i64 0)), (.imm (.int .i64 0)), (.imm (.int .i64 0)), (.imm (.int .i64 0)), (.imm (.int .i64 0)), (.imm (.int .i64 0)), (.imm (.int .i64 0)), (.imm (.int .i64 0)), (.imm (.int .i64 0))]), [], none, []⟩,
    ⟨(some 5), .mov, [.c (.int .i64 0)], none, []⟩] false)
  (.seq
   (.region [⟨(some 16), (.load true 2), [.t 2], none, []⟩,
     ⟨(some 17), .mov, [.t 1], none, []⟩,
     ⟨(some 18), .call, [.f 98, .t 16, .t 17], none, [0, 1]⟩,
     ⟨(some 15), .mov, [.t 18], none, [2]⟩,
     ⟨(some 19), (.ext 0), [.t 15], none, [3]⟩,
     ⟨(some 20), (.ext 1), [.t 15], none, [3]⟩,
     ⟨(some 6), (.alloc [(.imm (.slc 2 [])), (.imm (.slc 1 [])), (.imm (.slc 1 [])), (.imm (.int .i64 0))]), [], none, []⟩,
     ⟨none, (.store 4), [.t 6, .t 19], none, [6, 4, 2, 0, 1, 2, 3, 4, 6]⟩,
     ⟨(some 7), .mov, [.t 20], none, [5, 7, 0, 1, 2, 3, 4, 5, 6, 7]⟩] false)
   (.seq
    (.seq
     (.region [⟨(some 21), .mov, [.t 7], none, []⟩,
       ⟨(some 22), (.bin .neq), [.t 21, .c (.int .i64 0)], none, [0]⟩] false)
     (.cond (.t 22)
      (.seq
       (.region [⟨(some 23), (.build [(.imm (.int .i64 0)), (.imm (.int .i64 0)), (.imm (.int .i64 0)), (.imm (.int .i64 0)), (.imm (.int .i64 0)), (.imm (.int .i64 0)), (.imm (.int .i64 0)), (.imm (.int .i64 0)), (.imm (.int .i64 0))] []), [], none, []⟩,
         ⟨(some 24), .mov, [.t 7], none, []⟩,
         ⟨none, (.store 9), [.t 4, .t 23], none, [0, 0]⟩,
         ⟨(some 5), .mov, [.t 24], none, [1, 2, 0, 1, 2]⟩] false)
       .ret)
      .skip))
    (.keep [1, 4, 6] [4, 6] b42k4))))
def d42 : DFn := ⟨2, 95, [.cell 4 true 9, .tmp 5], b42⟩
theorem body42 : d42.body = b42 := rfl
theorem res42 : d42.res = [.cell 4 true 9, .tmp 5] := rfl
theorem k42 : chkFn Try.prog Try.f42 d42 = true := by kernel_rfl

def b43k0 : DCode :=
 (.seq
  (.region [⟨(some 65), (.faddr 2 true 2), [.t 6], none, []⟩,
    ⟨(some 66), (.load true 2), [.t 65], none, [0]⟩,
    ⟨(some 67), .mov, [.t 8], none, []⟩,
    ⟨(some 68), .call, [.f 102, .t 66, .t 67], none, [1, 2]⟩,
    ⟨(some 69), (.faddr 6 true 2), [.t 6], none, []⟩,
    ⟨(some 70), (.load true 2), [.t 69], none, [4]⟩,
    ⟨(some 71), .mov, [.t 8], none, []⟩,
    ⟨(some 72), .call, [.f 102, .t 70, .t 71], none, [5, 6, 3]⟩,
    ⟨(some 73), (.build [(.imm (.int .i64 0)), (.imm (.int .i64 0)), (.imm (.int .i64 0)), (.imm (.int .i64 0))] [(0, 2), (2, 2)]), [.t 68, .t 72], none, [3, 7]⟩,
    ⟨none, (.store 4), [.t 4, .t 73], none, [8, 7, 0, 1, 2, 3, 4, 5, 6, 7, 8]⟩,
    ⟨(some 5), .mov, [.c (.int .i64 0)], none, [9, 0, 1, 2, 3, 4, 5, 6, 7, 8, 9]⟩] true)
  .ret)
def b43k1 : DCode :=
 (.seq
  (.region [⟨(some 33), (.faddr 2 true 2), [.t 6], none, []⟩,
    ⟨(some 34), (.faddr 0 false 1), [.t 33], none, [0]⟩,
    ⟨(some 35), (.load false 1), [.t 34], none, [1]⟩,
    ⟨(some 36), (.faddr 2 true 2), [.t 6], none, []⟩,
    ⟨(some 37), (.faddr 1 false 1), [.t 36], none, [3]⟩,
    ⟨(some 38), (.load false 1), [.t 37], none, [4]⟩,
    ⟨(some 39), (.faddr 6 true 2), [.t 6], none, []⟩,
    ⟨(some 40), (.faddr 0 false 1), [.t 39], none, [6]⟩,
    ⟨(some 41), (.load false 1), [.t 40], none, [7]⟩,
    ⟨(some 42), (.faddr 6 true 2), [.t 6], none, []⟩,
    ⟨(some 43), (.faddr 1 false 1), [.t 42], none, [9]⟩,
    ⟨(some 44), (.load false 1), [.t 43], none, [10]⟩,
    ⟨(some 45), (.bsl 1), [.t 35, .t 38, .t 41, .t 44], none, [2, 5, 8, 11]⟩,
    ⟨(some 46), .call, [.f 101, .t 45], none, [12]⟩,
    ⟨(some 8), .mov, [.t 46], none, [13, 13, 0, 1, 2, 3, 4, 5, 6, 7, 8, 9, 10, 11, 12, 13]⟩] false)
  (.seq
   (.seq
    (.region [⟨(some 47), (.faddr 6 true 2), [.t 6], none, []⟩,
      ⟨(some 48), (.faddr 0 false 1), [.t 47], none, [0]⟩,
      ⟨(some 49), (.load false 1), [.t 48], none, [1]⟩,
      ⟨(some 50), (.bin .lss), [.t 49, .c (.int .i64 0)], none, [2]⟩,
      ⟨(some 51), .mov, [.t 50], none, [3]⟩,
      ⟨(some 52), (.faddr 6 true 2), [.t 6], (some (51, false)), [4]⟩,
      ⟨(some 53), (.faddr 0 false 1), [.t 52], (some (51, false)), [5, 4]⟩,
      ⟨(some 54), (.load false 1), [.t 53], (some (51, false)), [6, 4]⟩,
      ⟨(some 55), (.bin .eql), [.t 54, .c (.int .i64 0)], (some (51, false)), [7, 4]⟩,
      ⟨(some 56), .mov, [.t 55], (some (51, false)), [8, 4, 4]⟩,
      ⟨(some 57), (.faddr 6 true 2), [.t 6], (some (56, true)), [9]⟩,
      ⟨(some 58), (.faddr 1 false 1), [.t 57], (some (56, true)), [10, 9]⟩,
      ⟨(some 59), (.load false 1), [.t 58], (some (56, true)), [11, 9]⟩,
      ⟨(some 60), (.bin .lss), [.t 59, .c (.int .i64 0)], (some (56, true)), [12, 9]⟩,
      ⟨(some 61), .pick, [.t 56, .t 60, .c (.bool false)], (some (51, false)), [9, 13, 4]⟩,
      ⟨(some 62), .pick, [.t 51, .c (.bool true), .t 61], none, [4, 14]⟩] false)
    (.cond (.t 62)
     (.region [⟨(some 63), .mov, [.t 8], none, []⟩,
       ⟨(some 64), (.un .neg), [.t 63], none, [0]⟩,
       ⟨(some 8), .mov, [.t 64], none, [1, 0, 1]⟩] false)
     .skip))
   (.keep [4, 6, 8] [4, 6] b43k0)))
def b43k2 : DCode :=
 (.seq
  (.seq
   (.region [⟨(some 27), (.faddr 2 true 2), [.t 6], none, []⟩,
     ⟨(some 28), (.load true 2), [.t 27], none, [0]⟩,
     ⟨(some 29), (.build [(.imm (.int .i64 0)), (.imm (.int .i64 0))] []), [], none, []⟩,
     ⟨(some 30), (.eqs [false, false] false), [.t 28, .t 29], none, [1, 2]⟩] false)
   (.cond (.t 30)
    (.seq
     (.region [⟨(some 31), (.build [(.imm (.int .i64 0)), (.imm (.int .i64 0))] [(0, 1)]), [.c (.int .i64 1)], none, []⟩,
       ⟨(some 32), (.build [(.imm (.int .i64 0)), (.imm (.int .i64 0)), (.imm (.int .i64 0)), (.imm (.int .i64 0))] [(2, 2)]), [.t 31], none, [0]⟩,
       ⟨none, (.store 4), [.t 4, .t 32], none, [1, 0, 1]⟩,
       ⟨(some 5), .mov, [.c (.int .i64 0)], none, [2, 0, 1, 2]⟩] false)
     .ret)
    .skip))
  (.keep [4, 6] [4, 6] b43k1))
def b43 : DCode :=
 (.seq
  (.region [⟨(some 2), .box, [.t 0], none, []⟩,
    ⟨(some 4), (.alloc [(.imm (.int .i64 0)), (.imm (.int .i64 0)), (.imm (.int .i64 0)), (.imm (.int .i64 0))]), [], none, []⟩,
    ⟨(some 5), .mov, [.c (.int .i64 0)], none, []⟩] false)
  (.seq
   (.region [⟨(some 10), (.load true 2), [.t 2], none, []⟩,
     ⟨(some 11), .mov, [.t 1], none, []⟩,
     ⟨(some 12), .call, [.f 42, .t 10, .t 11], none, [0, 1]⟩,
     ⟨(some 9), .mov, [.t 12], none, [2]⟩,
     ⟨(some 13), (.ext 0), [.t 9], none, [3]⟩,
     ⟨(some 14), (.ext 1), [.t 9], none, [3]⟩,
     ⟨(some 6), (.alloc [(.imm (.int .i64 0)), (.imm (.int .i64 0)), (.imm (.int .i64 0)), (.imm (.int .i64 0)), (.imm (.int .i64 0)), (.imm (.int .i64 0)), (.imm (.int .i64 0)), (.imm (.int .i64 0)), (.imm (.int .i64 0))]), [], none, []⟩,
     ⟨none, (.store 9), [.t 6, .t 13], none, [6, 4, 2, 0, 1, 2, 3, 4, 6]⟩,
     ⟨(some 7), .mov, [.t 14], none, [5, 7, 0, 1, 2, 3, 4, 5, 6, 7]⟩] false)
   (.seq
    (.seq
     (.region [⟨(some 15), .mov, [.t 7], none, []⟩,
       ⟨(some 16), (.faddr 6 true 2), [.t 6], none, []⟩,
       ⟨(some 17), (.load true 2), [.t 16], none, [1]⟩,
       ⟨(some 18), (.build [(.imm (.int .i64 0)), (.imm (.int .i64 0))] []), [], none, []⟩,
       ⟨(some 19), (.eqs [false, false] true), [.t 17, .t 18], none, [2, 3]⟩,
       ⟨(some 20), .call, [.f 90, .t 19, .c (.int .i64 21)], none, [4]⟩,
       ⟨(some 21), (.bsl 1), [.t 15, .t 20], none, [0, 5]⟩,
       ⟨(some 22), .call, [.f 89, .t 21], none, [6, 5]⟩,
       ⟨(some 7), .mov, [.t 22], none, [7, 7, 0, 1, 2, 3, 4, 5, 6, 7]⟩] false)
     (.seq
      (.region [⟨(some 23), .mov, [.t 7], none, []⟩,
        ⟨(some 24), (.bin .neq), [.t 23, .c (.int .i64 0)], none, [0]⟩] false)
      (.cond (.t 24)
       (.seq
        (.region [⟨(some 25), (.build [(.imm (.int .i64 0)), (.imm (.int .i64 0)), (.imm (.int .i64 0)), (.imm (.int .i64 0))] []), [], none, []⟩,
          ⟨(some 26), .mov, [.t 7], none, []⟩,
          ⟨none, (.store 4), [.t 4, .t 25], none, [0, 0]⟩,
          ⟨(some 5), .mov, [.t 26], none, [1, 2, 0, 1, 2]⟩] false)
        .ret)
       .skip)))
    (.keep [4, 6] [4, 6] b43k2))))
def d43 : DFn := ⟨2, 74, [.cell 4 true 4, .tmp 5], b43⟩
theorem body43 : d43.body = b43 := rfl
theorem res43 : d43.res = [.cell 4 true 4, .tmp 5] := rfl
theorem k43 : chkFn Try.prog Try.f43 d43 = true := by kernel_rfl

end Go.DI

/- Matrices of waves as plain data. No condition. -/
set_option linter.unusedSimpArgs false
namespace Go.DI

structure Mx where
  a : Ga
  b : Ga
  c : Ga
  d : Ga
  den : Int
  deriving Inhabited, DecidableEq
def mtimes (m n : Mx) : Mx :=
  ⟨gadd (gadd (0, 0) (gmul m.a n.a)) (gmul m.b n.c), gadd (gadd (0, 0) (gmul m.a n.b)) (gmul m.b n.d), gadd (gadd (0, 0) (gmul m.c n.a)) (gmul m.d n.c), gadd (gadd (0, 0) (gmul m.c n.b)) (gmul m.d n.d), m.den * n.den⟩
def pipeM (p : Pp) (h : Int) : Mx :=
  ⟨gmul (cosG (h * p.1)) (p.2, 0), gmul (0, -1) (sinG (h * p.1)), gmul (gmul (gmul (0, -1) (sinG (h * p.1))) (p.2, 0)) (p.2, 0), gmul (cosG (h * p.1)) (p.2, 0), p.2⟩
def chamM (area h : Int) : Mx := ⟨(1, 0), (0, 0), gmul (gneg (area, 0)) (gsub (1, 0) (turnG (-h))), (1, 0), 1⟩
def lineM (x : Ow) (h : Int) : Nat → Mx
  | 0 => pipeM (x.pp.getD 0 default) h
  | k + 1 => mtimes (pipeM (x.pp.getD (k + 1) default) h) (mtimes (chamM (x.ar.getD k 0) h) (lineM x h k))
structure MB (m : Mx) (n : Nat) : Prop where
  a : nrm m.a ≤ n
  b : nrm m.b ≤ n
  c : nrm m.c ≤ n
  d : nrm m.d ≤ n
theorem MB.mono {m : Mx} {n k : Nat} (h : MB m n) (hk : n ≤ k) : MB m k := ⟨Nat.le_trans h.a hk, Nat.le_trans h.b hk, Nat.le_trans h.c hk, Nat.le_trans h.d hk⟩
theorem nrm_real (n : Int) : nrm (n, 0) = n.natAbs := by simp [nrm]
theorem pipeM_bd {p : Pp} {h : Int} (hp : 1 ≤ p.2 ∧ p.2 ≤ 10) : nrm (pipeM p h).a ≤ 10 ∧ nrm (pipeM p h).b ≤ 1 ∧ nrm (pipeM p h).c ≤ 100 ∧ nrm (pipeM p h).d ≤ 10 := by
  have hy : nrm (p.2, 0) ≤ 10 := by rw [nrm_real]; omega
  have h1 := nrm_mul_le (nrm_cos (h * p.1)) hy
  have h2 := nrm_mul_le (show nrm (0, -1) ≤ 1 from by decide) (nrm_sin (h * p.1))
  have h3 := nrm_mul_le (nrm_mul_le h2 hy) hy
  unfold pipeM
  exact ⟨by omega, by omega, by omega, by omega⟩
theorem chamM_bd {a h : Int} (ha : 0 ≤ a ∧ a ≤ 20) : nrm (chamM a h).a ≤ 1 ∧ nrm (chamM a h).b ≤ 0 ∧ nrm (chamM a h).c ≤ 40 ∧ nrm (chamM a h).d ≤ 1 := by
  have h1 : nrm (gneg (a, 0)) ≤ 20 := by rw [nrm_neg, nrm_real]; omega
  have h2 := nrm_sub (1, 0) (turnG (-h))
  rw [nrm_turn, show nrm (1, 0) = 1 from rfl] at h2
  have h3 := nrm_mul_le h1 h2
  exact ⟨show nrm (1, 0) ≤ 1 by decide, show nrm (0, 0) ≤ 0 by decide, by unfold chamM; dsimp only; omega, show nrm (1, 0) ≤ 1 by decide⟩
theorem nrm_dot {m n : Nat} {a b c d : Ga} {k : Nat} (h1 : nrm a ≤ m) (h2 : nrm b ≤ n) (h3 : nrm c ≤ k) (h4 : nrm d ≤ k) : nrm (gadd (gadd (0, 0) (gmul a c)) (gmul b d)) ≤ (m + n) * k := by
  have e1 := nrm_mul_le h1 h3
  have e2 := nrm_mul_le h2 h4
  have e3 := nrm_add (0, 0) (gmul a c)
  have e4 := nrm_add (gadd (0, 0) (gmul a c)) (gmul b d)
  rw [show nrm (0, 0) = 0 from rfl] at e3
  rw [Nat.add_mul]
  omega
theorem cham_times {a h : Int} (ha : 0 ≤ a ∧ a ≤ 20) {m : Mx} {k : Nat} (hm : MB m k) : MB (mtimes (chamM a h) m) (41 * k) := by
  obtain ⟨h1, h2, h3, h4⟩ := chamM_bd (h := h) ha
  refine ⟨Nat.le_trans (nrm_dot h1 h2 hm.a hm.c) ?_, Nat.le_trans (nrm_dot h1 h2 hm.b hm.d) ?_, Nat.le_trans (nrm_dot h3 h4 hm.a hm.c) ?_, Nat.le_trans (nrm_dot h3 h4 hm.b hm.d) ?_⟩ <;> omega
theorem pipe_times {p : Pp} {h : Int} (hp : 1 ≤ p.2 ∧ p.2 ≤ 10) {m : Mx} {k : Nat} (hm : MB m k) : MB (mtimes (pipeM p h) m) (110 * k) := by
  obtain ⟨h1, h2, h3, h4⟩ := pipeM_bd (h := h) hp
  refine ⟨Nat.le_trans (nrm_dot h1 h2 hm.a hm.c) ?_, Nat.le_trans (nrm_dot h1 h2 hm.b hm.d) ?_, Nat.le_trans (nrm_dot h3 h4 hm.a hm.c) ?_, Nat.le_trans (nrm_dot h3 h4 hm.b hm.d) ?_⟩ <;> omega
theorem lineM_bd {x : Ow} {h : Int} (hx : OwOk x) : ∀ (k : Nat), k < x.pp.length → MB (lineM x h k) (100 * 4510 ^ k) ∧ 1 ≤ (lineM x h k).den ∧ (lineM x h k).den ≤ 10 ^ (k + 1)
  | 0, hk => by
    have hp := hx.pip _ (getD_mem (d := default) hk)
    obtain ⟨h1, h2, h3, h4⟩ := pipeM_bd (h := h) hp.2
    exact ⟨⟨by show nrm (pipeM _ h).a ≤ _; omega, by show nrm (pipeM _ h).b ≤ _; omega, by show nrm (pipeM _ h).c ≤ _; omega, by show nrm (pipeM _ h).d ≤ _; omega⟩, hp.2.1, hp.2.2⟩
  | k + 1, hk => by
    have hp := hx.pip _ (getD_mem (d := default) hk)
    have ha := hx.are _ (getD_mem (l := x.ar) (d := 0) (show k < x.ar.length by have := hx.ars; omega))
    obtain ⟨h1, h2, h3⟩ := lineM_bd (h := h) hx k (by omega)
    refine ⟨(pipe_times hp.2 (cham_times ha h1)).mono ?_, ?_⟩
    · rw [Nat.pow_succ]; omega
    · show 1 ≤ (x.pp.getD (k + 1) default).2 * (1 * (lineM x h k).den) ∧ (x.pp.getD (k + 1) default).2 * (1 * (lineM x h k).den) ≤ 10 ^ (k + 1 + 1)
      rw [Int.one_mul]
      generalize (x.pp.getD (k + 1) default).2 = y at hp
      generalize (lineM x h k).den = d at h2 h3
      refine ⟨?_, ?_⟩
      · have := Int.mul_le_mul hp.2.1 h2 (by omega) (by omega)
        simpa using this
      · have := Int.mul_le_mul hp.2.2 h3 (by omega) (by omega)
        rw [Int.pow_succ, Int.mul_comm (10 ^ (k + 1)) 10]
        exact this
def lineMat (x : Ow) (h : Int) : Mx := lineM x h x.ar.length
theorem lineMat_bd {x : Ow} {h : Int} (hx : OwOk x) : MB (lineMat x h) 9173385100000 ∧ 1 ≤ (lineMat x h).den ∧ (lineMat x h).den ≤ 10000 := by
  have hl := hx.len; have ha := hx.ars
  obtain ⟨h1, h2, h3⟩ := lineM_bd (h := h) hx x.ar.length (by omega)
  have : x.ar.length = 0 ∨ x.ar.length = 1 ∨ x.ar.length = 2 ∨ x.ar.length = 3 := by omega
  unfold lineMat
  rcases this with e | e | e | e <;> rw [e] at h1 h2 h3 ⊢ <;> exact ⟨h1.mono (by decide), h2, by omega⟩

def gcdE (a b : Int) : Int := (Nat.gcd a.natAbs b.natAbs : Nat)
def gcdL : Int → List Int → Int
  | a, [] => a
  | a, b :: r => gcdL (gcdE a b) r
theorem gcdE_zero (a : Int) : gcdE a 0 = a.natAbs := by simp [gcdE]
theorem gcdE_step (a b : Int) : gcdE b (a.tmod b) = gcdE a b := by
  unfold gcdE
  congr 1
  rw [Int.natAbs_tmod, Nat.gcd_comm a.natAbs, Nat.gcd_rec b.natAbs a.natAbs, Nat.gcd_comm]
theorem gcdE_comm (a b : Int) : gcdE a b = gcdE b a := by unfold gcdE; rw [Nat.gcd_comm]
theorem gcdE_natAbs (a b : Int) : gcdE (a.natAbs : Nat) b = gcdE a b := by simp [gcdE]
theorem gcdL_abs (u : Int) (l : List Int) : (gcdL u l).natAbs = (gcdL (u.natAbs : Nat) l).natAbs := by
  cases l with
  | nil => simp [gcdL]
  | cons b r => show (gcdL (gcdE u b) r).natAbs = (gcdL (gcdE (u.natAbs : Nat) b) r).natAbs; rw [gcdE_natAbs]
theorem gcdL_nonneg : ∀ (l : List Int) (a : Int), 0 ≤ a → 0 ≤ gcdL a l
  | [], a, h => h
  | b :: r, a, _ => gcdL_nonneg r (gcdE a b) (by unfold gcdE; omega)
def gcdS (l : List Int) : Int := gcdL 0 l
theorem gcdE_bd {a : Int} (b : Int) (h : 1 ≤ a) : 1 ≤ gcdE a b ∧ gcdE a b ≤ a := by
  unfold gcdE
  have h1 := Nat.gcd_pos_of_pos_left b.natAbs (Int.natAbs_pos.2 (show a ≠ 0 by omega))
  have h2 := Nat.gcd_le_left b.natAbs (Int.natAbs_pos.2 (show a ≠ 0 by omega))
  omega
theorem gcdL_bd : ∀ (l : List Int) {a : Int}, 1 ≤ a → 1 ≤ gcdL a l ∧ gcdL a l ≤ a
  | [], a, h => ⟨h, Int.le_refl _⟩
  | b :: r, a, h => by
    have h1 := gcdE_bd b h
    have h2 := gcdL_bd r h1.1
    exact ⟨h2.1, Int.le_trans h2.2 h1.2⟩
theorem gcdS_bd {d : Int} (l : List Int) (h : 1 ≤ d) : 1 ≤ gcdS (d :: l) ∧ gcdS (d :: l) ≤ d := by
  show 1 ≤ gcdL (gcdE 0 d) l ∧ gcdL (gcdE 0 d) l ≤ d
  have : gcdE 0 d = d := by rw [gcdE_comm, gcdE_zero]; omega
  rw [this]
  exact gcdL_bd l h
def govr (g : Ga) (n : Int) : Ga := (g.1.tdiv n, g.2.tdiv n)
def redG1 (m : Mx) : Int := gcdS [m.den, m.a.1, m.a.2]
def redG2 (m : Mx) : Int := gcdS [redG1 m, m.b.1, m.b.2]
def redG3 (m : Mx) : Int := gcdS [redG2 m, m.c.1, m.c.2]
def redG (m : Mx) : Int := gcdS [redG3 m, m.d.1, m.d.2]
theorem redG_bd {m : Mx} (h : 1 ≤ m.den) : (1 ≤ redG1 m ∧ redG1 m ≤ m.den) ∧ (1 ≤ redG2 m ∧ redG2 m ≤ m.den) ∧ (1 ≤ redG3 m ∧ redG3 m ≤ m.den) ∧ 1 ≤ redG m ∧ redG m ≤ m.den := by
  have h1 : 1 ≤ redG1 m ∧ redG1 m ≤ m.den := gcdS_bd _ h
  have h2 : 1 ≤ redG2 m ∧ redG2 m ≤ redG1 m := gcdS_bd _ h1.1
  have h3 : 1 ≤ redG3 m ∧ redG3 m ≤ redG2 m := gcdS_bd _ h2.1
  have h4 : 1 ≤ redG m ∧ redG m ≤ redG3 m := gcdS_bd _ h3.1
  omega
def lowM (m : Mx) : Mx := ⟨govr m.a (redG m), govr m.b (redG m), govr m.c (redG m), govr m.d (redG m), m.den.tdiv (redG m)⟩
def impG (m : Mx) : Int := if m.d.1 < 0 ∨ m.d.1 = 0 ∧ m.d.2 < 0 then -gcdS [m.b.1, m.b.2, m.d.1, m.d.2] else gcdS [m.b.1, m.b.2, m.d.1, m.d.2]
def impL (m : Mx) : Ga × Ga := if m.b = (0, 0) then ((0, 0), (1, 0)) else (govr m.b (impG m), govr m.d (impG m))
def quarterE (h : Int) : Int := if 0 ≤ h ∧ h ≤ 3 then 0 else 2
theorem gcdL_pos : ∀ (l : List Int) (a : Int), (∃ n ∈ l, n ≠ 0) → 1 ≤ gcdL a l
  | [], a, h => by obtain ⟨n, hn, _⟩ := h; cases hn
  | b :: r, a, h => by
    by_cases hb : b = 0
    · by_cases hr : ∃ n ∈ r, n ≠ 0
      · exact gcdL_pos r _ hr
      · obtain ⟨n, hn, h0⟩ := h
        rcases List.mem_cons.1 hn with rfl | hn
        · exact absurd hb h0
        · exact absurd ⟨n, hn, h0⟩ hr
    · have h1 : 1 ≤ gcdE a b := by
        rw [gcdE_comm]
        unfold gcdE
        have := Nat.gcd_pos_of_pos_left a.natAbs (Int.natAbs_pos.2 hb)
        omega
      exact (gcdL_bd r h1).1
theorem gcdE_ub {a b m : Int} (ha : -m ≤ a ∧ a ≤ m) (hb : -m ≤ b ∧ b ≤ m) : gcdE a b ≤ m := by
  by_cases h : a = 0
  · subst h
    rw [gcdE_comm, gcdE_zero]; omega
  · unfold gcdE
    have := Nat.gcd_le_left b.natAbs (Int.natAbs_pos.2 h)
    omega
theorem gcdL_ub : ∀ (l : List Int) {a m : Int}, -m ≤ a ∧ a ≤ m → (∀ n ∈ l, -m ≤ n ∧ n ≤ m) → gcdL a l ≤ m
  | [], a, m, h, _ => h.2
  | b :: r, a, m, h, hl => by
    have h1 := gcdE_ub h (hl b (by simp))
    have h2 : 0 ≤ gcdE a b := by unfold gcdE; omega
    exact gcdL_ub r ⟨by omega, h1⟩ fun n hn => hl n (by simp [hn])
def matE (x : Ln) (h : Int) : Int := fstE (chkL x).2 (quarterE h)
end Go.DI

/- Contracts: complex numbers, matrices. No condition. -/
set_option linter.unusedSimpArgs false
set_option maxRecDepth 100000
namespace Go.DI
open Go.Proofs Go.RowKit

def gI (g : Ga) : IV := .agg [.int .i64 g.1, .int .i64 g.2]
theorem w_turn {p : Int} : Contract Try.prog 129 [.int .i64 p] (.cpx .f64 (turnA p) (turnB p)) := by
  refine contract_run Try.func129 k129 rfl ?_
  simp only [body129, b129, res129, vaE, ↓reduceIte, reduceCtorEq, Nat.reduceEqDiff, Nat.reduceAdd, Nat.reduceMul, Nat.reduceSub, Nat.reduceLeDiff, Nat.reduceBEq, Int.reduceToNat, Int.reduceLE, Int.reduceLT, Int.reduceEq, Int.reduceNe, di]
  have hb : -4 < p.tmod 4 ∧ p.tmod 4 < 4 := by
    have h1 := Int.tmod_eq_emod (a := p) (b := 4)
    split at h1 <;> omega
  rw [wrap64 (by omega) (by omega), rem4]
  unfold turnA turnB
  rcases mod4 p with h | h | h | h <;> rw [h] <;> simp only [Int.toNat_zero, Int.toNat_one, Nat.zero_mul, Nat.one_mul, vaE, ↓reduceIte, reduceCtorEq, Nat.reduceEqDiff, Nat.reduceAdd, Nat.reduceMul, Nat.reduceSub, Nat.reduceLeDiff, Nat.reduceBEq, Int.reduceToNat, Int.reduceLE, Int.reduceLT, Int.reduceEq, Int.reduceNe, di] <;> first | exact ⟨by decide, rfl⟩ | exact ⟨by decide, by decide, rfl⟩
theorem w_cosine {p : Int} : Contract Try.prog 131 [.int .i64 p] (.cpx .f64 (turnA p) 0) := by
  refine contract_run Try.func131 k131 rfl ?_
  simp only [body131, b131, res131, vaE, ↓reduceIte, reduceCtorEq, Nat.reduceEqDiff, Nat.reduceAdd, Nat.reduceMul, Nat.reduceSub, Nat.reduceLeDiff, Nat.reduceBEq, Int.reduceToNat, Int.reduceLE, Int.reduceLT, Int.reduceEq, Int.reduceNe, di]
  refine calls_of w_turn ?_; simp only [vaE, res131, ↓reduceIte, reduceCtorEq, Nat.reduceEqDiff, Nat.reduceAdd, Nat.reduceMul, Nat.reduceSub, Nat.reduceLeDiff, Nat.reduceBEq, Int.reduceToNat, Int.reduceLE, Int.reduceLT, Int.reduceEq, Int.reduceNe, di]
theorem w_sine {p : Int} : Contract Try.prog 132 [.int .i64 p] (.cpx .f64 (turnB p) 0) := by
  refine contract_run Try.func132 k132 rfl ?_
  simp only [body132, b132, res132, vaE, ↓reduceIte, reduceCtorEq, Nat.reduceEqDiff, Nat.reduceAdd, Nat.reduceMul, Nat.reduceSub, Nat.reduceLeDiff, Nat.reduceBEq, Int.reduceToNat, Int.reduceLE, Int.reduceLT, Int.reduceEq, Int.reduceNe, di]
  refine calls_of w_turn ?_; simp only [vaE, res132, ↓reduceIte, reduceCtorEq, Nat.reduceEqDiff, Nat.reduceAdd, Nat.reduceMul, Nat.reduceSub, Nat.reduceLeDiff, Nat.reduceBEq, Int.reduceToNat, Int.reduceLE, Int.reduceLT, Int.reduceEq, Int.reduceNe, di]
theorem w_whole {a b : Nat} {g : Ga} (h : CC a b g) (hg : Bd (nrm g)) : Contract Try.prog 100 [.cpx .f64 a b] (gI g) := by
  have hs := part_le (Nat.le_refl _) hg
  unfold Fl.Sm at hs
  refine contract_run Try.func100 k100 rfl ?_
  simp only [body100, b100, res100, f2i_F h.1 (by omega), f2i_F h.2 (by omega), gI, vaE, ↓reduceIte, reduceCtorEq, Nat.reduceEqDiff, Nat.reduceAdd, Nat.reduceMul, Nat.reduceSub, Nat.reduceLeDiff, Nat.reduceBEq, Int.reduceToNat, Int.reduceLE, Int.reduceLT, Int.reduceEq, Int.reduceNe, di]
def MI (r : IV) (M : Mx) : Prop := ∃ a1 a2 b1 b2 c1 c2 d1 d2, r = .agg [.cpx .f64 a1 a2, .cpx .f64 b1 b2, .cpx .f64 c1 c2, .cpx .f64 d1 d2, .int .i64 M.den] ∧ CC a1 a2 M.a ∧ CC b1 b2 M.b ∧ CC c1 c2 M.c ∧ CC d1 d2 M.d
theorem w_pipe {p : Pp} {h : Int} (hp : (1 ≤ p.1 ∧ p.1 ≤ 6) ∧ 1 ≤ p.2 ∧ p.2 ≤ 10) (hh : 0 ≤ h ∧ h ≤ 3) : ∃ r, MI r (pipeM p h) ∧ Contract Try.prog 150 [ppI p, .int .i64 h] r := by
  refine contract_ex Try.func150 k150 rfl ?_
  simp only [body150, b150, res150, vaE, ↓reduceIte, reduceCtorEq, Nat.reduceEqDiff, Nat.reduceAdd, Nat.reduceMul, Nat.reduceSub, Nat.reduceLeDiff, Nat.reduceBEq, Int.reduceToNat, Int.reduceLE, Int.reduceLT, Int.reduceEq, Int.reduceNe, di]
  have hw : 0 ≤ h * p.1 ∧ h * p.1 ≤ 18 := by
    rcases (show h = 0 ∨ h = 1 ∨ h = 2 ∨ h = 3 by omega) with e | e | e | e <;> rw [e] <;> omega
  have hy : nrm (p.2, 0) ≤ 10 := by rw [nrm_real]; omega
  have cy : CC (FloatKind.f64.nearest p.2) 0 (p.2, 0) := ⟨i2f_F (by unfold Fl.Sm; omega), F_zero⟩
  have hc := nrm_cos (h * p.1)
  have hs := nrm_sin (h * p.1)
  have h1 := nrm_mul_le (show nrm (0, -1) ≤ 1 from by decide) hs
  have h2 := nrm_mul_le h1 hy
  have bd : ∀ {a b : Ga} {m n : Nat}, nrm a ≤ m → nrm b ≤ n → m * n ≤ 1000 → Bd (nrm a * nrm b) := fun x y z => Nat.lt_of_le_of_lt (Nat.le_trans (Nat.mul_le_mul x y) z) (by decide)
  rw [wrap64 (by omega) (by omega)]
  refine calls_of w_cosine ?_; simp only [vaE, res150, ↓reduceIte, reduceCtorEq, Nat.reduceEqDiff, Nat.reduceAdd, Nat.reduceMul, Nat.reduceSub, Nat.reduceLeDiff, Nat.reduceBEq, Int.reduceToNat, Int.reduceLE, Int.reduceLT, Int.reduceEq, Int.reduceNe, di]
  rw [wrap64 (by omega) (by omega)]
  refine calls_of w_sine ?_; simp only [vaE, res150, ↓reduceIte, reduceCtorEq, Nat.reduceEqDiff, Nat.reduceAdd, Nat.reduceMul, Nat.reduceSub, Nat.reduceLeDiff, Nat.reduceBEq, Int.reduceToNat, Int.reduceLE, Int.reduceLT, Int.reduceEq, Int.reduceNe, di]
  obtain ⟨a1, b1, e1, c1⟩ := mulC (CC_cos (h * p.1)) cy (bd hc hy (by decide)); simp only [e1, vaE, ↓reduceIte, reduceCtorEq, Nat.reduceEqDiff, Nat.reduceAdd, Nat.reduceMul, Nat.reduceSub, Nat.reduceLeDiff, Nat.reduceBEq, Int.reduceToNat, Int.reduceLE, Int.reduceLT, Int.reduceEq, Int.reduceNe, di]
  obtain ⟨a2, b2, e2, c2⟩ := mulC CC_mi (CC_sin (h * p.1)) (bd (Nat.le_refl _) hs (by decide)); simp only [e1, e2, vaE, ↓reduceIte, reduceCtorEq, Nat.reduceEqDiff, Nat.reduceAdd, Nat.reduceMul, Nat.reduceSub, Nat.reduceLeDiff, Nat.reduceBEq, Int.reduceToNat, Int.reduceLE, Int.reduceLT, Int.reduceEq, Int.reduceNe, di]
  obtain ⟨a3, b3, e3, c3⟩ := mulC c2 cy (bd h1 hy (by decide)); simp only [e1, e2, e3, vaE, ↓reduceIte, reduceCtorEq, Nat.reduceEqDiff, Nat.reduceAdd, Nat.reduceMul, Nat.reduceSub, Nat.reduceLeDiff, Nat.reduceBEq, Int.reduceToNat, Int.reduceLE, Int.reduceLT, Int.reduceEq, Int.reduceNe, di]
  obtain ⟨a4, b4, e4, c4⟩ := mulC c3 cy (bd h2 hy (by decide)); simp only [e1, e2, e3, e4, vaE, ↓reduceIte, reduceCtorEq, Nat.reduceEqDiff, Nat.reduceAdd, Nat.reduceMul, Nat.reduceSub, Nat.reduceLeDiff, Nat.reduceBEq, Int.reduceToNat, Int.reduceLE, Int.reduceLT, Int.reduceEq, Int.reduceNe, di]
  exact ⟨_, rfl, a1, b1, a2, b2, a4, b4, a1, b1, rfl, c1, c2, c4, c1⟩

theorem w_chamber {a h : Int} (ha : 0 ≤ a ∧ a ≤ 20) (hh : 0 ≤ h ∧ h ≤ 3) : ∃ r, MI r (chamM a h) ∧ Contract Try.prog 152 [.int .i64 a, .int .i64 h] r := by
  have cy : CC (FloatKind.f64.nearest a) 0 (a, 0) := ⟨i2f_F (by unfold Fl.Sm; omega), F_zero⟩
  have ct := CC_turn (-h)
  have h1 : nrm (gneg (a, 0)) ≤ 20 := by rw [nrm_neg, nrm_real]; omega
  have h2 := nrm_sub (1, 0) (turnG (-h))
  rw [nrm_turn, show nrm (1, 0) = 1 from rfl] at h2
  have bd : ∀ {a b : Ga} {m n : Nat}, nrm a ≤ m → nrm b ≤ n → m * n ≤ 1000 → Bd (nrm a * nrm b) := fun x y z => Nat.lt_of_le_of_lt (Nat.le_trans (Nat.mul_le_mul x y) z) (by decide)
  refine contract_ex Try.func152 k152 rfl ?_
  simp only [body152, b152, res152, vaE, ↓reduceIte, reduceCtorEq, Nat.reduceEqDiff, Nat.reduceAdd, Nat.reduceMul, Nat.reduceSub, Nat.reduceLeDiff, Nat.reduceBEq, Int.reduceToNat, Int.reduceLE, Int.reduceLT, Int.reduceEq, Int.reduceNe, di]
  obtain ⟨a1, b1, e1, c1⟩ := negC cy; simp only [e1, vaE, ↓reduceIte, reduceCtorEq, Nat.reduceEqDiff, Nat.reduceAdd, Nat.reduceMul, Nat.reduceSub, Nat.reduceLeDiff, Nat.reduceBEq, Int.reduceToNat, Int.reduceLE, Int.reduceLT, Int.reduceEq, Int.reduceNe, di]
  rw [wrap64 (by omega) (by omega), Int.zero_sub]
  refine calls_of w_turn ?_; simp only [vaE, res152, ↓reduceIte, reduceCtorEq, Nat.reduceEqDiff, Nat.reduceAdd, Nat.reduceMul, Nat.reduceSub, Nat.reduceLeDiff, Nat.reduceBEq, Int.reduceToNat, Int.reduceLE, Int.reduceLT, Int.reduceEq, Int.reduceNe, di]
  obtain ⟨a2, b2, e2, c2⟩ := subC CC_one ct (by rw [nrm_turn]; show (2 : Nat) < 9007199254740992; decide); simp only [e1, e2, vaE, ↓reduceIte, reduceCtorEq, Nat.reduceEqDiff, Nat.reduceAdd, Nat.reduceMul, Nat.reduceSub, Nat.reduceLeDiff, Nat.reduceBEq, Int.reduceToNat, Int.reduceLE, Int.reduceLT, Int.reduceEq, Int.reduceNe, di]
  obtain ⟨a3, b3, e3, c3⟩ := mulC c1 c2 (bd h1 h2 (by decide)); simp only [e1, e2, e3, vaE, ↓reduceIte, reduceCtorEq, Nat.reduceEqDiff, Nat.reduceAdd, Nat.reduceMul, Nat.reduceSub, Nat.reduceLeDiff, Nat.reduceBEq, Int.reduceToNat, Int.reduceLE, Int.reduceLT, Int.reduceEq, Int.reduceNe, di]
  exact ⟨_, rfl, 4607182418800017408, 0, 0, 0, a3, b3, 4607182418800017408, 0, rfl, CC_one, CC_zero, c3, CC_one⟩

theorem run_round {P : Program} {k : List KF} {Q : Ex → St → Prop} {st : St} {live ids : List Nat} {a c : DCode} (hc : c = .keep live ids a) (h : run P a (.again c :: k) Q (st.keep live ids)) : run P (.loop c) k Q st := by
  refine run_loop ?_
  subst hc
  rw [run_keep']
  exact h
theorem wr01 : IntKind.wrap .i64 (0 + 1) = 1 := by decide
theorem wr12 : IntKind.wrap .i64 (1 + 1) = 2 := by decide
theorem wr23 : IntKind.wrap .i64 (2 + 1) = 3 := by decide
theorem wr34 : IntKind.wrap .i64 (3 + 1) = 4 := by decide
theorem dotC {x1 x2 x3 x4 y1 y2 y3 y4 : Nat} {a b c d : Ga} {m n k : Nat} (xa : CC x1 x2 a) (xb : CC x3 x4 b) (ya : CC y1 y2 c) (yc : CC y3 y4 d) (h1 : nrm a ≤ m) (h2 : nrm b ≤ n) (h3 : nrm c ≤ k) (h4 : nrm d ≤ k) (hk : Bd ((m + n) * k)) :
    ∃ p1 q1 p2 q2 p3 q3 p4 q4, pxI (.cpx .mul) [.cpx .f64 x1 x2, .cpx .f64 y1 y2] = some (.cpx .f64 p1 q1) ∧ pxI (.cpx .add) [.cpx .f64 0 0, .cpx .f64 p1 q1] = some (.cpx .f64 p2 q2) ∧
      pxI (.cpx .mul) [.cpx .f64 x3 x4, .cpx .f64 y3 y4] = some (.cpx .f64 p3 q3) ∧ pxI (.cpx .add) [.cpx .f64 p2 q2, .cpx .f64 p3 q3] = some (.cpx .f64 p4 q4) ∧ CC p4 q4 (gadd (gadd (0, 0) (gmul a c)) (gmul b d)) := by
  have e1 := Nat.mul_le_mul h1 h3
  have e2 := Nat.mul_le_mul h2 h4
  have e3 := nrm_mul a c
  have e4 := nrm_mul b d
  have e5 := nrm_add (0, 0) (gmul a c)
  have e0 : nrm (0, 0) = 0 := rfl
  rw [Nat.add_mul] at hk
  unfold Bd at hk
  obtain ⟨p1, q1, f1, g1⟩ := mulC xa ya (by unfold Bd; omega)
  obtain ⟨p2, q2, f2, g2⟩ := addC CC_zero g1 (by unfold Bd; omega)
  obtain ⟨p3, q3, f3, g3⟩ := mulC xb yc (by unfold Bd; omega)
  obtain ⟨p4, q4, f4, g4⟩ := addC g2 g3 (by unfold Bd; omega)
  exact ⟨p1, q1, p2, q2, p3, q3, p4, q4, f1, f2, f3, f4, g4⟩
theorem w_times {u v : IV} {m n : Mx} (hu : MI u m) (hv : MI v n) {a b c d k : Nat} (h1 : nrm m.a ≤ a) (h2 : nrm m.b ≤ b) (h3 : nrm m.c ≤ c) (h4 : nrm m.d ≤ d) (hn : MB n k) (hk1 : Bd ((a + b) * k)) (hk2 : Bd ((c + d) * k)) (hd : -9223372036854775808 ≤ m.den * n.den ∧ m.den * n.den ≤ 9223372036854775807) :
    ∃ r, MI r (mtimes m n) ∧ Contract Try.prog 151 [u, v] r := by
  obtain ⟨x1, x2, x3, x4, x5, x6, x7, x8, rfl, xa, xb, xc, xd⟩ := hu
  obtain ⟨y1, y2, y3, y4, y5, y6, y7, y8, rfl, ya, yb, yc, yd⟩ := hv
  obtain ⟨_, _, _, _, _, _, p1, q1, f1, f2, f3, f4, g1⟩ := dotC xa xb ya yc h1 h2 hn.a hn.c hk1
  obtain ⟨_, _, _, _, _, _, p2, q2, f5, f6, f7, f8, g2⟩ := dotC xa xb yb yd h1 h2 hn.b hn.d hk1
  obtain ⟨_, _, _, _, _, _, p3, q3, f9, f10, f11, f12, g3⟩ := dotC xc xd ya yc h3 h4 hn.a hn.c hk2
  obtain ⟨_, _, _, _, _, _, p4, q4, f13, f14, f15, f16, g4⟩ := dotC xc xd yb yd h3 h4 hn.b hn.d hk2
  refine contract_ex Try.func151 k151 rfl ?_
  simp only [body151, b151, res151, b151k0, b151k1, b151k2, b151k3, b151k4, b151k5, vaE, ↓reduceIte, reduceCtorEq, Nat.reduceEqDiff, Nat.reduceAdd, Nat.reduceMul, Nat.reduceSub, Nat.reduceLeDiff, Nat.reduceBEq, Int.reduceToNat, Int.reduceLE, Int.reduceLT, Int.reduceEq, Int.reduceNe, di]
  rw [wrap64 hd.1 hd.2]
  iterate 21
    repeat (refine And.intro (by decide) ?_)
    refine run_round rfl ?_
    simp only [res151, b151k0, b151k1, b151k2, b151k3, b151k4, b151k5, wr01, wr12, f1, f2, f3, f4, f5, f6, f7, f8, f9, f10, f11, f12, f13, f14, f15, f16, vaE, ↓reduceIte, reduceCtorEq, Nat.reduceEqDiff, Nat.reduceAdd, Nat.reduceMul, Nat.reduceSub, Nat.reduceLeDiff, Nat.reduceBEq, Int.reduceToNat, Int.reduceLE, Int.reduceLT, Int.reduceEq, Int.reduceNe, di]
  exact ⟨p1, q1, p2, q2, p3, q3, p4, q4, rfl, g1, g2, g3, g4⟩

structure MBits where
  a1 : Nat
  a2 : Nat
  b1 : Nat
  b2 : Nat
  c1 : Nat
  c2 : Nat
  d1 : Nat
  d2 : Nat
def MBits.box (q : MBits) (d : Int) : List DV := [.imm (.cpx .f64 q.a1 q.a2), .imm (.cpx .f64 q.b1 q.b2), .imm (.cpx .f64 q.c1 q.c2), .imm (.cpx .f64 q.d1 q.d2), .imm (.int .i64 d)]
def MBits.iv (q : MBits) (d : Int) : IV := .agg [.cpx .f64 q.a1 q.a2, .cpx .f64 q.b1 q.b2, .cpx .f64 q.c1 q.c2, .cpx .f64 q.d1 q.d2, .int .i64 d]
theorem MI_bits {r : IV} {M : Mx} (h : MI r M) : ∃ q : MBits, r = q.iv M.den ∧ CC q.a1 q.a2 M.a ∧ CC q.b1 q.b2 M.b ∧ CC q.c1 q.c2 M.c ∧ CC q.d1 q.d2 M.d := by
  obtain ⟨a1, a2, b1, b2, c1, c2, d1, d2, e, h⟩ := h
  exact ⟨⟨a1, a2, b1, b2, c1, c2, d1, d2⟩, e, h⟩
theorem bits_MI {q : MBits} {M : Mx} (h : CC q.a1 q.a2 M.a ∧ CC q.b1 q.b2 M.b ∧ CC q.c1 q.c2 M.c ∧ CC q.d1 q.d2 M.d) : MI (q.iv M.den) M := ⟨_, _, _, _, _, _, _, _, rfl, h⟩

theorem w_matrix {x : Ow} {h : Int} (hx : OwOk x) (hh : 0 ≤ h ∧ h ≤ 3) : ∃ r, MI r (lineMat x h) ∧ Contract Try.prog 99 [owI x, .int .i64 h] r := by
  have hl := hx.len; have hars := hx.ars
  have hp0 := hx.pip _ (getD_mem (l := x.pp) (d := default) (show 0 < x.pp.length by omega))
  obtain ⟨r0, hr0, hc0⟩ := w_pipe (h := h) hp0 hh
  obtain ⟨q0, rfl, hq0⟩ := MI_bits hr0
  refine contract_ex Try.func99 k99 rfl ?_
  simp only [body99, b99, res99, b99k0, b99k1, vaE, ↓reduceIte, reduceCtorEq, Nat.reduceEqDiff, Nat.reduceAdd, Nat.reduceMul, Nat.reduceSub, Nat.reduceLeDiff, Nat.reduceBEq, Int.reduceToNat, Int.reduceLE, Int.reduceLT, Int.reduceEq, Int.reduceNe, di]
  repeat (refine And.intro (by first | omega | exact all_int _ | (simp only [zeros_len, List.length_append, List.length_take, List.length_drop, List.length_set, List.length_cons, List.length_nil, List.length_map]; omega)) ?_)
  simp only [ppI] at hc0
  refine calls_of hc0 ?_; simp only [vaE, res99, b99k0, b99k1, ↓reduceIte, reduceCtorEq, Nat.reduceEqDiff, Nat.reduceAdd, Nat.reduceMul, Nat.reduceSub, Nat.reduceLeDiff, Nat.reduceBEq, Int.reduceToNat, Int.reduceLE, Int.reduceLT, Int.reduceEq, Int.reduceNe, di]
  simp only [MBits.iv, vaE, ↓reduceIte, reduceCtorEq, Nat.reduceEqDiff, Nat.reduceAdd, Nat.reduceMul, Nat.reduceSub, Nat.reduceLeDiff, Nat.reduceBEq, Int.reduceToNat, Int.reduceLE, Int.reduceLT, Int.reduceEq, Int.reduceNe, di]
  refine loop_keep (α := Nat × MBits) rfl (fun q => x.ar.length - q.1) (fun q => q.1 ≤ x.ar.length ∧ CC q.2.a1 q.2.a2 (lineM x h q.1).a ∧ CC q.2.b1 q.2.b2 (lineM x h q.1).b ∧ CC q.2.c1 q.2.c2 (lineM x h q.1).c ∧ CC q.2.d1 q.2.d2 (lineM x h q.1).d)
    (fun q => [(1, .imm (.int .i64 h)), (2, .ref 2 0), (4, .ref 4 0), (5, .ref 5 0), (17, .imm (nI x.ar)), (18, .imm (.int .i64 x.ar.length)), (19, .imm (.int .i64 q.1))])
    (fun q => [(2, .box [.imm (.slc 2 (x.pp.map ppI)), .imm (nI x.ar), .imm (nI x.be), .imm (.int .i64 x.n)]), (4, .box [.imm (.cpx .f64 0 0), .imm (.cpx .f64 0 0), .imm (.cpx .f64 0 0), .imm (.cpx .f64 0 0), .imm (.int .i64 0)]), (5, .box (q.2.box (lineM x h q.1).den))])
    (0, q0) ⟨Nat.zero_le _, hq0⟩ (by simp only [MBits.box, vaE, ↓reduceIte, reduceCtorEq, Nat.reduceEqDiff, Nat.reduceAdd, Nat.reduceMul, Nat.reduceSub, Nat.reduceLeDiff, Nat.reduceBEq, Int.reduceToNat, Int.reduceLE, Int.reduceLT, Int.reduceEq, Int.reduceNe, di] <;> rfl) ?_
  rintro ⟨j, q⟩ ⟨hj, hq⟩ ih
  dsimp only at hj hq ⊢
  simp only [res99, b99k0, b99k1, MBits.box, vaE, ↓reduceIte, reduceCtorEq, Nat.reduceEqDiff, Nat.reduceAdd, Nat.reduceMul, Nat.reduceSub, Nat.reduceLeDiff, Nat.reduceBEq, Int.reduceToNat, Int.reduceLE, Int.reduceLT, Int.reduceEq, Int.reduceNe, di]
  split
  · rename_i hlt
    have hlt : j < x.ar.length := by omega
    have hp := hx.pip _ (getD_mem (l := x.pp) (d := default) (show j + 1 < x.pp.length by omega))
    have ha := hx.are _ (getD_mem (l := x.ar) (d := 0) hlt)
    obtain ⟨r1, hr1, hc1⟩ := w_pipe (h := h) hp hh
    obtain ⟨r2, hr2, hc2⟩ := w_chamber (h := h) ha hh
    obtain ⟨k1, k2, k3⟩ := lineM_bd (h := h) hx j (by omega)
    have hk : MB (lineM x h j) 2034010000 ∧ 1 ≤ (lineM x h j).den ∧ (lineM x h j).den ≤ 1000 := by
      have : j = 0 ∨ j = 1 ∨ j = 2 := by omega
      rcases this with e | e | e <;> subst e <;> exact ⟨k1.mono (by decide), k2, by omega⟩
    obtain ⟨m1, m2, m3, m4⟩ := chamM_bd (h := h) ha
    obtain ⟨n1, n2, n3, n4⟩ := pipeM_bd (h := h) hp.2
    have hden1 : (mtimes (chamM (x.ar.getD j 0) h) (lineM x h j)).den = (lineM x h j).den := Int.one_mul _
    obtain ⟨r3, hr3, hc3⟩ := w_times hr2 (bits_MI hq) m1 m2 m3 m4 hk.1 (by unfold Bd; omega) (by unfold Bd; omega) (by rw [show (chamM (x.ar.getD j 0) h).den = 1 from rfl, Int.one_mul]; omega)
    have hyd : (pipeM (x.pp.getD (j + 1) default) h).den * (mtimes (chamM (x.ar.getD j 0) h) (lineM x h j)).den = (x.pp.getD (j + 1) default).2 * (lineM x h j).den := by rw [hden1]; rfl
    have hyb : 0 ≤ (x.pp.getD (j + 1) default).2 * (lineM x h j).den ∧ (x.pp.getD (j + 1) default).2 * (lineM x h j).den ≤ 10 * 1000 := by
      refine ⟨Int.mul_nonneg (by omega) (by omega), Int.mul_le_mul hp.2.2 hk.2.2 (by omega) (by omega)⟩
    obtain ⟨r4, hr4, hc4⟩ := w_times hr1 hr3 n1 n2 n3 n4 (cham_times ha hk.1) (by unfold Bd; omega) (by unfold Bd; omega) (by rw [hyd]; omega)
    obtain ⟨q4, rfl, hq4⟩ := MI_bits hr4
    rw [wrap64 (n := (j : Int) + 1) (by omega) (by omega), show ((j : Int) + 1).toNat = j + 1 by omega]
    repeat (refine And.intro (by first | omega | exact all_int _ | (simp only [zeros_len, List.length_append, List.length_take, List.length_drop, List.length_set, List.length_cons, List.length_nil, List.length_map]; omega)) ?_)
    simp only [ppI] at hc1
    refine calls_of hc1 ?_; simp only [vaE, res99, b99k0, b99k1, ↓reduceIte, reduceCtorEq, Nat.reduceEqDiff, Nat.reduceAdd, Nat.reduceMul, Nat.reduceSub, Nat.reduceLeDiff, Nat.reduceBEq, Int.reduceToNat, Int.reduceLE, Int.reduceLT, Int.reduceEq, Int.reduceNe, di]
    refine calls_of hc2 ?_; simp only [vaE, res99, b99k0, b99k1, ↓reduceIte, reduceCtorEq, Nat.reduceEqDiff, Nat.reduceAdd, Nat.reduceMul, Nat.reduceSub, Nat.reduceLeDiff, Nat.reduceBEq, Int.reduceToNat, Int.reduceLE, Int.reduceLT, Int.reduceEq, Int.reduceNe, di]
    simp only [MBits.iv] at hc3 hc4
    refine calls_of hc3 ?_; simp only [vaE, res99, b99k0, b99k1, ↓reduceIte, reduceCtorEq, Nat.reduceEqDiff, Nat.reduceAdd, Nat.reduceMul, Nat.reduceSub, Nat.reduceLeDiff, Nat.reduceBEq, Int.reduceToNat, Int.reduceLE, Int.reduceLT, Int.reduceEq, Int.reduceNe, di]
    refine calls_of hc4 ?_; simp only [vaE, res99, b99k0, b99k1, ↓reduceIte, reduceCtorEq, Nat.reduceEqDiff, Nat.reduceAdd, Nat.reduceMul, Nat.reduceSub, Nat.reduceLeDiff, Nat.reduceBEq, Int.reduceToNat, Int.reduceLE, Int.reduceLT, Int.reduceEq, Int.reduceNe, di]
    rw [wrap64 (n := (j : Int) + 1) (by omega) (by omega)]
    exact ih (j + 1, q4) _ _ (by dsimp only; omega) ⟨by dsimp only; omega, hq4⟩ (by simp only [MBits.box, vaE, ↓reduceIte, reduceCtorEq, Nat.reduceEqDiff, Nat.reduceAdd, Nat.reduceMul, Nat.reduceSub, Nat.reduceLeDiff, Nat.reduceBEq, Int.reduceToNat, Int.reduceLE, Int.reduceLT, Int.reduceEq, Int.reduceNe, di] <;> rfl)
  · rename_i hge
    have : j = x.ar.length := by omega
    subst this
    exact bits_MI (M := lineM x h x.ar.length) hq
end Go.DI

