/- Bit operations on 64-bit words, as plain arithmetic: masks, single bits, joins. No condition but the range of the words. -/
import Derived.Laws.BitsLemmas
import Derived.Laws.Bits64
namespace Go.Proofs.Ytmmjialpkddgdaa.PBits

theorem wraps_u64 (n : Int) (h₀ : 0 ≤ n) (h₁ : n < 2 ^ 64) : IntKind.u64.wrap n = n := by rw [IntKind.wrap_u64]; omega

theorem mod_bit (a : Nat) (i : Nat) (h : a / 2 ^ i % 2 = 0) : a % 2 ^ (i + 1) < 2 ^ i := by
  have h1 : a % 2 ^ (i + 1) = a % 2 ^ i + 2 ^ i * (a / 2 ^ i % 2) := by
    rw [Nat.pow_succ, Nat.mod_mul]
  have h2 : a % 2 ^ i < 2 ^ i := Nat.mod_lt _ (Nat.two_pow_pos i)
  rw [h1, h]; omega

theorem or_unset (a i : Nat) (h : a / 2 ^ i % 2 = 0) : a ||| 2 ^ i = a + 2 ^ i := by
  have hr := mod_bit a i h
  have hq : 2 ^ (i + 1) * (a / 2 ^ (i + 1)) + a % 2 ^ (i + 1) = a := Nat.div_add_mod a (2 ^ (i + 1))
  generalize a % 2 ^ (i + 1) = r at hr hq
  generalize a / 2 ^ (i + 1) = q at hq
  have hp : 2 ^ (i + 1) = 2 ^ i + 2 ^ i := by rw [Nat.pow_succ]; omega
  have e1 : 2 ^ (i + 1) * q + r = 2 ^ (i + 1) * q ||| r := Nat.two_pow_add_eq_or_of_lt (by omega) q
  have e2 : 2 ^ i * 1 + r = 2 ^ i * 1 ||| r := Nat.two_pow_add_eq_or_of_lt hr 1
  have e3 : 2 ^ (i + 1) * q + (2 ^ i + r) = 2 ^ (i + 1) * q ||| (2 ^ i + r) := Nat.two_pow_add_eq_or_of_lt (by omega) q
  rw [Nat.mul_one] at e2
  rw [← hq, e1, Nat.or_assoc, Nat.or_comm r, ← e2, ← e3, ← e1]
  omega

theorem and_bit_nat (a i : Nat) : a &&& 2 ^ i = 2 ^ i * (a / 2 ^ i % 2) := by
  apply Nat.eq_of_testBit_eq
  intro j
  rw [Nat.testBit_and, Nat.testBit_two_pow]
  rcases Nat.mod_two_eq_zero_or_one (a / 2 ^ i) with h | h
  · rw [h, Nat.mul_zero, Nat.zero_testBit]
    by_cases e : i = j
    · subst e; simp [Nat.testBit_eq_decide_div_mod_eq, h]
    · simp [e]
  · rw [h, Nat.mul_one, Nat.testBit_two_pow]
    by_cases e : i = j
    · subst e; simp [Nat.testBit_eq_decide_div_mod_eq, h]
    · simp [e]

theorem or_set (a i : Nat) (h : a / 2 ^ i % 2 = 1) : a ||| 2 ^ i = a := by
  apply Nat.eq_of_testBit_eq
  intro j
  rw [Nat.testBit_or, Nat.testBit_two_pow]
  by_cases e : i = j
  · subst e; simp [Nat.testBit_eq_decide_div_mod_eq, h]
  · simp [e]

theorem and_u64 (x : Int) (m : Nat) (h0 : 0 ≤ x) (h1 : x < 18446744073709551616) (hm : m < 2 ^ 64) : bits .and .u64 x (m : Int) = ((x.toNat &&& m : Nat) : Int) := by
  obtain ⟨a, rfl⟩ := Int.eq_ofNat_of_zero_le h0
  exact (bits_nat .u64 64 (by decide) wraps_u64 a m (by omega) hm).1

theorem or_u64 (x y : Int) (h0 : 0 ≤ x) (h1 : x < 18446744073709551616) (g0 : 0 ≤ y) (g1 : y < 18446744073709551616) : bits .or .u64 x y = ((x.toNat ||| y.toNat : Nat) : Int) := by
  obtain ⟨a, rfl⟩ := Int.eq_ofNat_of_zero_le h0
  obtain ⟨b, rfl⟩ := Int.eq_ofNat_of_zero_le g0
  exact (bits_nat .u64 64 (by decide) wraps_u64 a b (by omega) (by omega)).2

/-- One bit read. -/
theorem and_bit (i : Nat) (hi : i < 64) (x : Int) (h0 : 0 ≤ x) (h1 : x < 18446744073709551616) : bits .and .u64 x ((2 ^ i : Nat) : Int) = ((2 ^ i : Nat) : Int) * (x / ((2 ^ i : Nat) : Int) % 2) := by
  rw [and_u64 x _ h0 h1 (Nat.pow_lt_pow_right (by decide) hi), and_bit_nat]
  obtain ⟨a, rfl⟩ := Int.eq_ofNat_of_zero_le h0
  simp

/-- The lowest bits. -/
theorem and_low (i : Nat) (hi : i ≤ 64) (x : Int) (h0 : 0 ≤ x) (h1 : x < 18446744073709551616) : bits .and .u64 x (2 ^ i - 1) = x % 2 ^ i :=
  bits_mask .u64 64 (by decide) wraps_u64 i hi x h0 (by omega)

/-- One bit set. -/
theorem or_bit (i : Nat) (hi : i < 64) (x : Int) (h0 : 0 ≤ x) (h1 : x < 18446744073709551616) : bits .or .u64 x ((2 ^ i : Nat) : Int) = x + ((2 ^ i : Nat) : Int) * (1 - x / ((2 ^ i : Nat) : Int) % 2) := by
  obtain ⟨a, rfl⟩ := Int.eq_ofNat_of_zero_le h0
  have hp : 2 ^ i < 18446744073709551616 := Nat.pow_lt_pow_right (n := 64) (by decide) hi
  rw [or_u64 _ _ h0 h1 (Int.natCast_nonneg _) (Int.ofNat_lt.2 hp)]
  have ed : (a : Int) / ((2 ^ i : Nat) : Int) % 2 = ((a / 2 ^ i % 2 : Nat) : Int) := by simp
  rw [ed, Int.toNat_natCast, Int.toNat_natCast]
  rcases Nat.mod_two_eq_zero_or_one (a / 2 ^ i) with h | h
  · rw [or_unset a i h, h]; simp
  · rw [or_set a i h, h]; simp

/-- A low part joined with a higher one. -/
theorem or_join (i : Nat) (x y : Int) (hx₀ : 0 ≤ x) (hx : x < 2 ^ i) (hx₁ : x < 18446744073709551616) (hy₀ : 0 ≤ y) (hy : y % 2 ^ i = 0) (hy₁ : y < 18446744073709551616) : bits .or .u64 x y = x + y := by
  have h := bits_join .u64 64 (by decide) wraps_u64 i y x hy₀ hy (by omega) hx₀ hx (by omega)
  rw [or_u64 x y hx₀ hx₁ hy₀ hy₁, Nat.or_comm, ← or_u64 y x hy₀ hy₁ hx₀ hx₁, h]
  omega

theorem andNot_nat (a i : Nat) (ha : a < 2 ^ 64) : (BitVec.ofNat 64 a &&& ~~~ (BitVec.ofNat 64 (2 ^ i))).toNat = a - 2 ^ i * (a / 2 ^ i % 2) := by
  have unset : ∀ b : Nat, b < 2 ^ 64 → b / 2 ^ i % 2 = 0 → BitVec.ofNat 64 b &&& ~~~ (BitVec.ofNat 64 (2 ^ i)) = BitVec.ofNat 64 b := by
    intro b hb h
    apply BitVec.eq_of_getLsbD_eq
    intro j hj
    simp only [BitVec.getLsbD_and, BitVec.getLsbD_not, BitVec.getLsbD_ofNat, Nat.testBit_two_pow, hj, decide_true, Bool.true_and]
    by_cases e : i = j
    · subst e; simp [Nat.testBit_eq_decide_div_mod_eq, h]
    · simp [e]
  rcases Nat.mod_two_eq_zero_or_one (a / 2 ^ i) with h | h
  · rw [unset a ha h, h, BitVec.toNat_ofNat]; simp; omega
  · have hle : 2 ^ i ≤ a := by
      rcases Nat.lt_or_ge a (2 ^ i) with hlt | hge
      · rw [Nat.div_eq_of_lt hlt] at h; omega
      · exact hge
    obtain ⟨b, rfl⟩ : ∃ b, a = b + 2 ^ i := ⟨a - 2 ^ i, by omega⟩
    have hb : b / 2 ^ i % 2 = 0 := by
      rw [Nat.add_div_right _ (Nat.two_pow_pos i)] at h; omega
    have e1 : BitVec.ofNat 64 (b + 2 ^ i) = BitVec.ofNat 64 b ||| BitVec.ofNat 64 (2 ^ i) := by
      rw [← or_unset b i hb]
      apply BitVec.eq_of_getLsbD_eq
      intro j hj
      simp only [BitVec.getLsbD_or, BitVec.getLsbD_ofNat, Nat.testBit_or, hj, decide_true, Bool.true_and]
    have e2 : (BitVec.ofNat 64 b ||| BitVec.ofNat 64 (2 ^ i)) &&& ~~~ (BitVec.ofNat 64 (2 ^ i)) = BitVec.ofNat 64 b &&& ~~~ (BitVec.ofNat 64 (2 ^ i)) := by
      apply BitVec.eq_of_getLsbD_eq
      intro j hj
      simp only [BitVec.getLsbD_or, BitVec.getLsbD_and, BitVec.getLsbD_not]
      cases (BitVec.ofNat 64 b).getLsbD j <;> cases (BitVec.ofNat 64 (2 ^ i)).getLsbD j <;> simp
    have hb64 : b < 2 ^ 64 := Nat.lt_of_le_of_lt (Nat.le_add_right _ _) ha
    rw [e1, e2, unset b hb64 hb, h, BitVec.toNat_ofNat]
    rw [Nat.mod_eq_of_lt hb64, Nat.mul_one, Nat.add_sub_cancel]

/-- One bit cleared. -/
theorem andNot_bit (i : Nat) (x : Int) (h0 : 0 ≤ x) (h1 : x < 18446744073709551616) : bits .andNot .u64 x ((2 ^ i : Nat) : Int) = x - ((2 ^ i : Nat) : Int) * (x / ((2 ^ i : Nat) : Int) % 2) := by
  obtain ⟨a, rfl⟩ := Int.eq_ofNat_of_zero_le h0
  have h := andNot_nat a i (by omega)
  have hle : 2 ^ i * (a / 2 ^ i % 2) ≤ a := by
    have h3 : a / 2 ^ i % 2 ≤ a / 2 ^ i := Nat.mod_le _ _
    exact Nat.le_trans (Nat.mul_le_mul_left _ h3) (Nat.mul_div_le a (2 ^ i))
  show IntKind.u64.wrap ((BitVec.ofInt 64 (a : Int) &&& ~~~ BitVec.ofInt 64 ((2 ^ i : Nat) : Int)).toNat : Int) = _
  rw [BitVec.ofInt_natCast, BitVec.ofInt_natCast, h, wraps_u64 _ (by omega) (by omega)]
  have ed : (a : Int) / ((2 ^ i : Nat) : Int) % 2 = ((a / 2 ^ i % 2 : Nat) : Int) := by simp
  rw [ed, Int.natCast_sub hle]; simp

theorem and7 (x : Int) (h0 : 0 ≤ x) (h1 : x < 18446744073709551616) : bits .and .u64 x 7 = x % 8 := and_low 3 (by decide) x h0 h1
theorem and32 (x : Int) (h0 : 0 ≤ x) (h1 : x < 18446744073709551616) : bits .and .u64 x 4294967295 = x % 4294967296 := and_low 32 (by decide) x h0 h1
theorem and8 (x : Int) (h0 : 0 ≤ x) (h1 : x < 18446744073709551616) : bits .and .u64 x 8 = 8 * (x / 8 % 2) := and_bit 3 (by decide) x h0 h1
theorem and16 (x : Int) (h0 : 0 ≤ x) (h1 : x < 18446744073709551616) : bits .and .u64 x 16 = 16 * (x / 16 % 2) := and_bit 4 (by decide) x h0 h1
theorem and32b (x : Int) (h0 : 0 ≤ x) (h1 : x < 18446744073709551616) : bits .and .u64 x 32 = 32 * (x / 32 % 2) := and_bit 5 (by decide) x h0 h1
theorem and64 (x : Int) (h0 : 0 ≤ x) (h1 : x < 18446744073709551616) : bits .and .u64 x 64 = 64 * (x / 64 % 2) := and_bit 6 (by decide) x h0 h1
theorem or16 (x : Int) (h0 : 0 ≤ x) (h1 : x < 18446744073709551616) : bits .or .u64 x 16 = x + 16 * (1 - x / 16 % 2) := or_bit 4 (by decide) x h0 h1
theorem or32 (x : Int) (h0 : 0 ≤ x) (h1 : x < 18446744073709551616) : bits .or .u64 x 32 = x + 32 * (1 - x / 32 % 2) := or_bit 5 (by decide) x h0 h1
theorem clear8 (x : Int) (h0 : 0 ≤ x) (h1 : x < 18446744073709551616) : bits .andNot .u64 x 8 = x - 8 * (x / 8 % 2) := andNot_bit 3 x h0 h1
theorem clear16 (x : Int) (h0 : 0 ≤ x) (h1 : x < 18446744073709551616) : bits .andNot .u64 x 16 = x - 16 * (x / 16 % 2) := andNot_bit 4 x h0 h1

end Go.Proofs.Ytmmjialpkddgdaa.PBits
