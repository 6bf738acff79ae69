/- Page-table entries and their words, as plain arithmetic: encoding, decoding, that they are inverse to each other, and what the operations on words give. No program in sight. -/
import Derived.RowKit
import Derived.Test.YtmmjialpkddgdaaBits
namespace Go.Proofs.Ytmmjialpkddgdaa.Pte
open Go.RowKit

/-- A flag as a number. -/
def b2 (b : Bool) : Int := if b then 1 else 0
theorem b2_cases (b : Bool) : b2 b = 0 ∨ b2 b = 1 := by cases b <;> simp [b2]
theorem b2_pos (b : Bool) : 0 ≤ b2 b := by cases b <;> simp [b2]
theorem b2_le (b : Bool) : b2 b ≤ 1 := by cases b <;> simp [b2]
/-- The word of an entry. -/
def word (kd n : Int) (w a d h : Bool) : Int := kd + 8 * b2 w + 16 * b2 a + 32 * b2 d + 64 * b2 h + 256 * n
/-- The flags suit the kind (one of the five). -/
def suits (kd n : Int) (w a d h : Bool) : Bool :=
  if kd = 1 then true else if kd = 3 then !a && !d && !h else if kd = 0 then decide (n = 0) && !w && !a && !d && !h else !w && !a && !d && !h
def big (kd n : Int) (h : Bool) : Bool := decide (n < 0) || decide (4294967295 < n) || (decide (kd = 1) && h && decide (4294967288 < n))
/-- The answer of Encode. -/
def enc (kd n : Int) (w a d h : Bool) : Int × Int :=
  if kd < 0 ∨ 4 < kd then (0, 1) else if big kd n h = true then (0, 2) else if suits kd n w a d h = true then (word kd n w a d h, 0) else (0, 3)

theorem join5 (kd n : Int) (w a d h : Bool) (h0 : 0 ≤ kd) (h4 : kd ≤ 4) (n0 : 0 ≤ n) (n1 : n ≤ 4294967295) :
    Go.bits .or .u64 (Go.bits .or .u64 (Go.bits .or .u64 (Go.bits .or .u64 (Go.bits .or .u64 (IntKind.u64.wrap kd) (8 * b2 w)) (16 * b2 a)) (32 * b2 d)) (64 * b2 h)) (IntKind.u64.wrap ((IntKind.u64.wrap n) * 256)) = word kd n w a d h := by
  have e0 : IntKind.u64.wrap kd = kd := by rw [IntKind.wrap_u64]; omega
  have e1 : IntKind.u64.wrap n = n := by rw [IntKind.wrap_u64]; omega
  have e2 : IntKind.u64.wrap (n * 256) = n * 256 := by rw [IntKind.wrap_u64]; omega
  rw [e0, e1, e2]
  have w0 := b2_cases w; have a0 := b2_cases a; have d0 := b2_cases d; have g0 := b2_cases h
  unfold word
  rw [PBits.or_join 3 kd (8 * b2 w) (by omega) (by omega) (by omega) (by omega) (by omega) (by omega)]
  rw [PBits.or_join 4 _ (16 * b2 a) (by omega) (by omega) (by omega) (by omega) (by omega) (by omega)]
  rw [PBits.or_join 5 _ (32 * b2 d) (by omega) (by omega) (by omega) (by omega) (by omega) (by omega)]
  rw [PBits.or_join 6 _ (64 * b2 h) (by omega) (by omega) (by omega) (by omega) (by omega) (by omega)]
  rw [PBits.or_join 8 _ (n * 256) (by omega) (by omega) (by omega) (by omega) (by omega) (by omega)]
  omega

theorem big_of (kd n : Int) (h : Bool) (hb : big kd n h = false) : 0 ≤ n ∧ n ≤ 4294967295 ∧ (kd = 1 → h = true → n ≤ 4294967288) := by
  simp only [big, Bool.or_eq_false_iff, decide_eq_false_iff_not, Bool.and_eq_false_iff] at hb
  obtain ⟨⟨h1, h2⟩, h3⟩ := hb
  refine ⟨by omega, by omega, fun e1 e2 => ?_⟩
  rcases h3 with (h3 | h3) | h3
  · exact absurd e1 h3
  · rw [e2] at h3; exact absurd h3 (by decide)
  · omega

/-- The fields of a word. -/
def kdOf (x : Int) : Int := x % 8
def nOf (x : Int) : Int := x / 256 % 4294967296
def bitOf (x m : Int) : Bool := decide (x / m % 2 = 1)
/-- The answer of Decode. -/
def dec (x : Int) : Int × Int × Bool × Bool × Bool × Bool × Int :=
  if enc (kdOf x) (nOf x) (bitOf x 8) (bitOf x 16) (bitOf x 32) (bitOf x 64) = (x, 0) then (kdOf x, nOf x, bitOf x 8, bitOf x 16, bitOf x 32, bitOf x 64, 0) else (0, 0, false, false, false, false, 3)

theorem wrap_kd (x : Int) (h0 : 0 ≤ x) (h1 : x < 18446744073709551616) : wrap64 (Go.bits .and .u64 x 7) = kdOf x := by
  rw [PBits.and7 x h0 h1]; unfold wrap64 kdOf; omega
theorem wrap_n (x : Int) (h0 : 0 ≤ x) (h1 : x < 18446744073709551616) : wrap64 (Go.bits .and .u64 (x / 256) 4294967295) = nOf x := by
  rw [PBits.and32 (x / 256) (by omega) (by omega)]; unfold wrap64 nOf; omega
theorem ne_bit (y m : Int) (hm : 0 < m) : ((m * (y % 2)) != 0) = decide (y % 2 = 1) := by
  rcases Int.emod_two_eq y with h | h
  · rw [h]; simp
  · rw [h]; simp; omega
theorem gt_bit (y m : Int) (hm : 0 < m) : decide ((m * (y % 2)) > 0) = decide (y % 2 = 1) := by
  rcases Int.emod_two_eq y with h | h
  · rw [h]; simp
  · rw [h]; simp; omega
theorem bit8 (x : Int) (h0 : 0 ≤ x) (h1 : x < 18446744073709551616) : ((Go.bits .and .u64 x 8) != 0) = bitOf x 8 := by rw [PBits.and8 x h0 h1, ne_bit _ _ (by decide)]; rfl
theorem bit16 (x : Int) (h0 : 0 ≤ x) (h1 : x < 18446744073709551616) : ((Go.bits .and .u64 x 16) != 0) = bitOf x 16 := by rw [PBits.and16 x h0 h1, ne_bit _ _ (by decide)]; rfl
theorem bit32 (x : Int) (h0 : 0 ≤ x) (h1 : x < 18446744073709551616) : ((Go.bits .and .u64 x 32) != 0) = bitOf x 32 := by rw [PBits.and32b x h0 h1, ne_bit _ _ (by decide)]; rfl
theorem bit64 (x : Int) (h0 : 0 ≤ x) (h1 : x < 18446744073709551616) : ((Go.bits .and .u64 x 64) != 0) = bitOf x 64 := by rw [PBits.and64 x h0 h1, ne_bit _ _ (by decide)]; rfl
theorem gbit8 (x : Int) (h0 : 0 ≤ x) (h1 : x < 18446744073709551616) : decide ((Go.bits .and .u64 x 8) > 0) = bitOf x 8 := by rw [PBits.and8 x h0 h1, gt_bit _ _ (by decide)]; rfl
theorem gbit16 (x : Int) (h0 : 0 ≤ x) (h1 : x < 18446744073709551616) : decide ((Go.bits .and .u64 x 16) > 0) = bitOf x 16 := by rw [PBits.and16 x h0 h1, gt_bit _ _ (by decide)]; rfl
theorem gbit32 (x : Int) (h0 : 0 ≤ x) (h1 : x < 18446744073709551616) : decide ((Go.bits .and .u64 x 32) > 0) = bitOf x 32 := by rw [PBits.and32b x h0 h1, gt_bit _ _ (by decide)]; rfl
theorem gbit64 (x : Int) (h0 : 0 ≤ x) (h1 : x < 18446744073709551616) : decide ((Go.bits .and .u64 x 64) > 0) = bitOf x 64 := by rw [PBits.and64 x h0 h1, gt_bit _ _ (by decide)]; rfl

theorem pair_if {α : Type} (p : Int × Int) (x : Int) (y z : α) : (if p.2 = 0 then (if p.1 = x then y else z) else z) = if p = (x, 0) then y else z := by
  obtain ⟨p1, p2⟩ := p
  simp only [Prod.mk.injEq]
  by_cases h1 : p1 = x <;> by_cases h2 : p2 = 0 <;> simp [h1, h2]

/-- What Encode accepts. -/
def ok (kd n : Int) (w a d h : Bool) : Prop := 0 ≤ kd ∧ kd ≤ 4 ∧ big kd n h = false ∧ suits kd n w a d h = true
theorem enc_ok {kd n : Int} {w a d h : Bool} (g : ok kd n w a d h) : enc kd n w a d h = (word kd n w a d h, 0) := by
  obtain ⟨g0, g1, g2, g3⟩ := g
  unfold enc
  rw [if_neg (by omega), if_neg (by simp [g2]), if_pos g3]
theorem ok_of {kd n : Int} {w a d h : Bool} (g : (enc kd n w a d h).2 = 0) : ok kd n w a d h := by
  unfold enc at g
  split at g
  · cases g
  · split at g
    · cases g
    · split at g
      · rename_i g1 g2 g3; exact ⟨by omega, by omega, by simpa using g2, g3⟩
      · cases g
theorem enc_not {kd n : Int} {w a d h : Bool} (g : (enc kd n w a d h).2 ≠ 0) : (enc kd n w a d h).1 = 0 := by
  unfold enc at g ⊢
  split
  · rfl
  · split
    · rfl
    · split
      · rename_i g1 g2 g3; rw [if_neg g1, if_neg g2, if_pos g3] at g; exact absurd rfl g
      · rfl
theorem ok_range {kd n : Int} {w a d h : Bool} (g : ok kd n w a d h) : 0 ≤ word kd n w a d h ∧ word kd n w a d h < 1099511627776 := by
  obtain ⟨g0, g1, g2, g3⟩ := g
  obtain ⟨n0, n1, _⟩ := big_of kd n h g2
  have := b2_cases w; have := b2_cases a; have := b2_cases d; have := b2_cases h
  unfold word; omega
theorem fields {kd n : Int} (w a d h : Bool) (h0 : 0 ≤ kd) (h4 : kd ≤ 4) (n0 : 0 ≤ n) (n1 : n ≤ 4294967295) :
    kdOf (word kd n w a d h) = kd ∧ nOf (word kd n w a d h) = n ∧ bitOf (word kd n w a d h) 8 = w ∧ bitOf (word kd n w a d h) 16 = a ∧ bitOf (word kd n w a d h) 32 = d ∧ bitOf (word kd n w a d h) 64 = h := by
  have w0 := b2_cases w; have a0 := b2_cases a; have d0 := b2_cases d; have g0 := b2_cases h
  have e : ∀ (b : Bool) (y : Int), y = b2 b → decide (y = 1) = b := fun b y hy => by subst hy; cases b <;> simp [b2]
  refine ⟨by unfold kdOf word; omega, by unfold nOf word; omega, ?_, ?_, ?_, ?_⟩ <;> unfold bitOf word
  · exact e w _ (by omega)
  · exact e a _ (by omega)
  · exact e d _ (by omega)
  · exact e h _ (by omega)
/-- A word of an entry is decoded to it. -/
theorem dec_word {kd n : Int} {w a d h : Bool} (g : ok kd n w a d h) : dec (word kd n w a d h) = (kd, n, w, a, d, h, 0) := by
  obtain ⟨n0, n1, _⟩ := big_of kd n h g.2.2.1
  obtain ⟨e1, e2, e3, e4, e5, e6⟩ := fields w a d h g.1 g.2.1 n0 n1
  unfold dec
  rw [e1, e2, e3, e4, e5, e6, if_pos (enc_ok g)]
/-- What Decode tells: an entry whose word it is, or none. -/
theorem dec_cases (x : Int) : (∃ kd n w a d h, ok kd n w a d h ∧ x = word kd n w a d h ∧ dec x = (kd, n, w, a, d, h, 0)) ∨ dec x = (0, 0, false, false, false, false, 3) := by
  by_cases g : enc (kdOf x) (nOf x) (bitOf x 8) (bitOf x 16) (bitOf x 32) (bitOf x 64) = (x, 0)
  · left
    have g1 : ok (kdOf x) (nOf x) (bitOf x 8) (bitOf x 16) (bitOf x 32) (bitOf x 64) := ok_of (by rw [g])
    refine ⟨_, _, _, _, _, _, g1, ?_, ?_⟩
    · have := enc_ok g1; rw [g] at this; exact (Prod.mk.inj this).1
    · unfold dec; rw [if_pos g]
  · right
    unfold dec; rw [if_neg g]


/-- The answer of Part. -/
def partP (x i : Int) : Int × Int :=
  if (dec x).2.2.2.2.2.2 ≠ 0 then (0, (dec x).2.2.2.2.2.2) else if (dec x).1 ≠ 1 ∨ (dec x).2.2.2.2.2.1 = false then (0, 11)
  else if i < 0 ∨ 8 ≤ i then (0, 2) else enc (dec x).1 (wrap64 ((dec x).2.1 + i)) (dec x).2.2.1 (dec x).2.2.2.1 (dec x).2.2.2.2.1 false
/-- The answer of page: an entry of the kind EntryPage. -/
def pageP (x : Int) : Int × Int × Bool × Bool × Bool × Bool × Int :=
  if (dec x).2.2.2.2.2.2 ≠ 0 then (0, 0, false, false, false, false, (dec x).2.2.2.2.2.2) else if (dec x).1 = 1 then dec x else (0, 0, false, false, false, false, 11)
/-- The answer of Mark. -/
def markP (x : Int) (w : Bool) : Int × Int :=
  if (pageP x).2.2.2.2.2.2 ≠ 0 then (0, (pageP x).2.2.2.2.2.2) else if w = true then (if (pageP x).2.2.1 = true then (Go.bits .or .u64 (Go.bits .or .u64 x 16) 32, 0) else (0, 12)) else (Go.bits .or .u64 x 16, 0)
def oldP (x : Int) : Int × Int :=
  if (pageP x).2.2.2.2.2.2 ≠ 0 then (0, (pageP x).2.2.2.2.2.2) else (Go.bits .andNot .u64 x 16, 0)
def protectP (x : Int) : Int × Int :=
  if (dec x).2.2.2.2.2.2 ≠ 0 then (0, (dec x).2.2.2.2.2.2) else if (dec x).1 = 1 ∨ (dec x).1 = 3 then (Go.bits .andNot .u64 x 8, 0) else (0, 11)

/-! ### What the operations do to the word of an entry -/
theorem mark16 {kd n : Int} {w a d h : Bool} (g : ok kd n w a d h) : Go.bits .or .u64 (word kd n w a d h) 16 = word kd n w true d h := by
  have hr := ok_range g
  obtain ⟨n0, n1, _⟩ := big_of kd n h g.2.2.1
  rw [PBits.or16 _ hr.1 (by omega)]
  have w0 := b2_cases w; have d0 := b2_cases d; have g0 := b2_cases h; have k0 := g.1; have k1 := g.2.1
  unfold word
  cases a <;> simp only [b2] <;> simp <;> omega
theorem mark32 {kd n : Int} {w a d h : Bool} (g : ok kd n w a d h) : Go.bits .or .u64 (word kd n w a d h) 32 = word kd n w a true h := by
  have hr := ok_range g
  obtain ⟨n0, n1, _⟩ := big_of kd n h g.2.2.1
  rw [PBits.or32 _ hr.1 (by omega)]
  have w0 := b2_cases w; have d0 := b2_cases a; have g0 := b2_cases h; have k0 := g.1; have k1 := g.2.1
  unfold word
  cases d <;> simp only [b2] <;> simp <;> omega
theorem clear16 {kd n : Int} {w a d h : Bool} (g : ok kd n w a d h) : Go.bits .andNot .u64 (word kd n w a d h) 16 = word kd n w false d h := by
  have hr := ok_range g
  obtain ⟨n0, n1, _⟩ := big_of kd n h g.2.2.1
  rw [PBits.clear16 _ hr.1 (by omega)]
  have w0 := b2_cases w; have d0 := b2_cases d; have g0 := b2_cases h; have k0 := g.1; have k1 := g.2.1
  unfold word
  cases a <;> simp only [b2] <;> simp <;> omega
theorem clear8 {kd n : Int} {w a d h : Bool} (g : ok kd n w a d h) : Go.bits .andNot .u64 (word kd n w a d h) 8 = word kd n false a d h := by
  have hr := ok_range g
  obtain ⟨n0, n1, _⟩ := big_of kd n h g.2.2.1
  rw [PBits.clear8 _ hr.1 (by omega)]
  have w0 := b2_cases a; have d0 := b2_cases d; have g0 := b2_cases h; have k0 := g.1; have k1 := g.2.1
  unfold word
  cases w <;> simp only [b2] <;> simp <;> omega
theorem mark48 {kd n : Int} {w a d h : Bool} (g : ok kd n w a d h) (hk : kd = 1) : Go.bits .or .u64 (Go.bits .or .u64 (word kd n w a d h) 16) 32 = word kd n w true true h := by
  rw [mark16 g]
  exact mark32 (a := true) ⟨g.1, g.2.1, g.2.2.1, by simp [suits, hk]⟩

theorem or48 (x : Int) (h0 : 0 ≤ x) (h1 : x < 18446744073709551616) : Go.bits .or .u64 x 48 = Go.bits .or .u64 (Go.bits .or .u64 x 16) 32 := by
  obtain ⟨n, rfl⟩ := Int.eq_ofNat_of_zero_le h0
  have hn : n < 18446744073709551616 := by omega
  have e : (n ||| 16 : Nat) < 18446744073709551616 := Nat.or_lt_two_pow (n := 64) hn (by decide)
  rw [PBits.or_u64 _ 48 h0 h1 (by decide) (by decide), PBits.or_u64 _ 16 h0 h1 (by decide) (by decide)]
  show _ = Go.bits .or .u64 ((n ||| 16 : Nat) : Int) 32
  rw [PBits.or_u64 _ 32 (by omega) (by omega) (by decide) (by decide)]
  show ((n ||| 48 : Nat) : Int) = ((n ||| 16) ||| 32 : Nat)
  rw [Nat.or_assoc]; rfl
theorem ok_flags {n : Int} {w a d h : Bool} (g : ok 1 n w a d h) (w' a' d' : Bool) : ok 1 n w' a' d' h := ⟨g.1, g.2.1, g.2.2.1, by simp [suits]⟩
theorem ok_move {n : Int} {w a d h : Bool} (g : ok 3 n w a d h) (w' : Bool) : ok 3 n w' a d h := ⟨g.1, g.2.1, g.2.2.1, by have := g.2.2.2; simpa [suits] using this⟩
theorem page_word {n : Int} {w a d h : Bool} (g : ok 1 n w a d h) : pageP (word 1 n w a d h) = (1, n, w, a, d, h, 0) := by
  unfold pageP; rw [dec_word g]; simp
theorem page_other {kd n : Int} {w a d h : Bool} (g : ok kd n w a d h) (hk : kd ≠ 1) : pageP (word kd n w a d h) = (0, 0, false, false, false, false, 11) := by
  unfold pageP; rw [dec_word g]; simp [hk]
theorem page_none {x : Int} (e : dec x = (0, 0, false, false, false, false, 3)) : pageP x = (0, 0, false, false, false, false, 3) := by
  unfold pageP; rw [e]; simp
/-- What Mark answers: by the entry of the word. -/
theorem mark_word {n : Int} {w a d h : Bool} (g : ok 1 n w a d h) (wr : Bool) : markP (word 1 n w a d h) wr = if wr = true then (if w = true then (word 1 n w true true h, 0) else (0, 12)) else (word 1 n w true d h, 0) := by
  unfold markP; rw [page_word g, mark48 g rfl, mark16 g]; simp
theorem mark_other {kd n : Int} {w a d h : Bool} (g : ok kd n w a d h) (hk : kd ≠ 1) (wr : Bool) : markP (word kd n w a d h) wr = (0, 11) := by
  unfold markP; rw [page_other g hk]; simp
theorem mark_none {x : Int} (e : dec x = (0, 0, false, false, false, false, 3)) (wr : Bool) : markP x wr = (0, 3) := by
  unfold markP; rw [page_none e]; simp
theorem old_word {n : Int} {w a d h : Bool} (g : ok 1 n w a d h) : oldP (word 1 n w a d h) = (word 1 n w false d h, 0) := by
  unfold oldP; rw [page_word g, clear16 g]; simp
theorem old_other {kd n : Int} {w a d h : Bool} (g : ok kd n w a d h) (hk : kd ≠ 1) : oldP (word kd n w a d h) = (0, 11) := by
  unfold oldP; rw [page_other g hk]; simp
theorem old_none {x : Int} (e : dec x = (0, 0, false, false, false, false, 3)) : oldP x = (0, 3) := by
  unfold oldP; rw [page_none e]; simp
theorem protect_word {kd n : Int} {w a d h : Bool} (g : ok kd n w a d h) (hk : kd = 1 ∨ kd = 3) : protectP (word kd n w a d h) = (word kd n false a d h, 0) := by
  unfold protectP; rw [dec_word g, clear8 g]; simp [hk]
theorem protect_other {kd n : Int} {w a d h : Bool} (g : ok kd n w a d h) (hk : ¬ (kd = 1 ∨ kd = 3)) : protectP (word kd n w a d h) = (0, 11) := by
  unfold protectP; rw [dec_word g]; simp [hk]
theorem protect_none {x : Int} (e : dec x = (0, 0, false, false, false, false, 3)) : protectP x = (0, 3) := by
  unfold protectP; rw [e]; simp

end Go.Proofs.Ytmmjialpkddgdaa.Pte
