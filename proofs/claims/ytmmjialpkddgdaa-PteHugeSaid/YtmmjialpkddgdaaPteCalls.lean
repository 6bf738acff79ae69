/- What the functions on page-table words answer, as contracts over the plain functions: Encode, Decode, Part, page, Mark, Old, Protect, and the reference's; no condition but the range of a word. -/
import Derived.Test.YtmmjialpkddgdaaPPteMarksx3
import Derived.Test.YtmmjialpkddgdaaPPteMarksx4
import Derived.Test.YtmmjialpkddgdaaPte
import Derived.Lib.Hide
namespace Go.Proofs.Ytmmjialpkddgdaa.PteCalls
open Go.RowKit Go.Proofs.Ytmmjialpkddgdaa.PPteMarks Go.Proofs.YtmmjialpkddgdaaW.PrintWords Go.Proofs.YtmmjialpkddgdaaW.PrintLast Go.Proofs.Ytmmjialpkddgdaa.Pte

theorem formed_eq (k : Nat) (kd n : Int) (w a d h : Bool) (h0 : 0 ≤ kd) (h4 : kd ≤ 4) : pte_formed.f (k + 1) kd n w a d h = some (suits kd n w a d h) := by
  unfold pte_formed.f suits
  have : kd = 0 ∨ kd = 1 ∨ kd = 2 ∨ kd = 3 ∨ kd = 4 := by omega
  rcases this with rfl | rfl | rfl | rfl | rfl <;> simp [pte_formed.j0] <;> cases w <;> cases a <;> cases d <;> cases h <;> simp <;> rfl

theorem flag_eq (b : Bool) (x : Int) : pte_flag.f b x = some (x * b2 b) := by
  cases b <;> simp [pte_flag.f, b2]

theorem enc_j1 (k : Nat) (kd n : Int) (w a d h : Bool) (h0 : 0 ≤ kd) (h4 : kd ≤ 4) : pte_Encode.j1 (k + 2) (big kd n h) kd n w a d h = some (enc kd n w a d h) := by
  have hk : ¬ (kd < 0 ∨ 4 < kd) := by omega
  simp only [pte_Encode.j1, enc, if_neg hk]
  cases hb : big kd n h with
  | true => simp
  | false =>
    obtain ⟨n0, n1, _⟩ := big_of kd n h hb
    simp only [formed_eq k kd n w a d h h0 h4, Option.bind_some, flag_eq, join5 kd n w a d h h0 h4 n0 n1]
    cases suits kd n w a d h <;> simp

theorem enc_j0 (k : Nat) (kd n : Int) (w a d h : Bool) (h0 : 0 ≤ kd) (h4 : kd ≤ 4) : pte_Encode.j0 (k + 3) kd n w a d h = some (enc kd n w a d h) := by
  simp only [pte_Encode.j0]
  have e := enc_j1 k kd n w a d h h0 h4
  split
  · rename_i h1; rw [show big kd n h = true by simp [big, h1]] at e; exact e
  · split
    · rename_i h1 h2; rw [show big kd n h = true by simp [big]; omega] at e; exact e
    · rename_i h1 h2
      have h1' : decide (n < 0) = false := by simpa using h1
      have h2' : decide (4294967295 < n) = false := by simpa using h2
      split
      · rename_i h3
        split
        · rename_i h5; rw [show big kd n h = decide (n > 4294967288) by simp only [big, h1', h2', h3, h5]; simp] at e; exact e
        · rename_i h5
          have h5' : h = false := by simpa using h5
          rw [show big kd n h = false by simp only [big, h1', h2', h5']; simp] at e; exact e
      · rename_i h3
        have h3' : decide (kd = 1) = false := by simpa using h3
        rw [show big kd n h = false by simp only [big, h1', h2', h3']; simp] at e; exact e

theorem encode_eq (k : Nat) (kd n : Int) (w a d h : Bool) : pte_Encode.f (k + 3) kd n w a d h = some (enc kd n w a d h) := by
  by_cases hk : kd < 0 ∨ 4 < kd
  · unfold pte_Encode.f
    rw [if_neg (by omega), if_neg (by omega), if_neg (by omega), if_neg (by omega), if_neg (by omega)]
    simp only [enc, if_pos hk]
  · have e := enc_j0 k kd n w a d h (by omega) (by omega)
    unfold pte_Encode.f
    repeat (split; · exact e)
    omega

theorem decode_eq (k : Nat) (x : Int) (h0 : 0 ≤ x) (h1 : x < 18446744073709551616) : pte_Decode.f (k + 3) x = some (dec x) := by
  unfold pte_Decode.f
  rw [wrap_kd x h0 h1, wrap_n x h0 h1, bit8 x h0 h1, bit16 x h0 h1, bit32 x h0 h1, bit64 x h0 h1, encode_eq, Option.bind_some, pair_if]
  unfold dec
  split <;> rfl

theorem part_eq (k : Nat) (x i : Int) (h0 : 0 ≤ x) (h1 : x < 18446744073709551616) : pte_Part.f (k + 4) x i = some (partP x i) := by
  unfold pte_Part.f partP
  rw [decode_eq _ x h0 h1, Option.bind_some]
  generalize dec x = p
  obtain ⟨p1, p2, p3, p4, p5, p6, p7⟩ := p
  by_cases c0 : p7 = 0 <;> by_cases c1 : p1 = 1 <;> cases p6 <;> by_cases c2 : i < 0 <;> by_cases c3 : 8 ≤ i <;> simp [pte_Part.j0, encode_eq, c0, c1, c2, c3]
theorem page_eq (k : Nat) (x : Int) (h0 : 0 ≤ x) (h1 : x < 18446744073709551616) : pte_page.f (k + 3) x = some (pageP x) := by
  unfold pte_page.f pageP
  rw [decode_eq _ x h0 h1, Option.bind_some]
  generalize dec x = p
  obtain ⟨p1, p2, p3, p4, p5, p6, p7⟩ := p
  by_cases c0 : p7 = 0 <;> by_cases c1 : p1 = 1 <;> simp [c0, c1]
theorem mark_eq (k : Nat) (x : Int) (w : Bool) (h0 : 0 ≤ x) (h1 : x < 18446744073709551616) : pte_Mark.f (k + 3) x w = some (markP x w) := by
  unfold pte_Mark.f markP
  rw [page_eq _ x h0 h1, Option.bind_some]
  by_cases c0 : (pageP x).2.2.2.2.2.2 = 0 <;> by_cases c1 : w = true <;> by_cases c2 : (pageP x).2.2.1 = true <;> simp [c0, c1, c2]
theorem protect_eq (k : Nat) (x : Int) (h0 : 0 ≤ x) (h1 : x < 18446744073709551616) : pte_Protect.f (k + 3) x = some (protectP x) := by
  unfold pte_Protect.f protectP
  rw [decode_eq _ x h0 h1, Option.bind_some]
  by_cases c0 : (dec x).2.2.2.2.2.2 = 0 <;> by_cases c1 : (dec x).1 = 1 <;> by_cases c2 : (dec x).1 = 3 <;> simp [c0, c1, c2]
theorem awake_eq (k : Nat) : estoverslaw05_awake.f (k + 10) = some true := by
  have e1 : enc 1 5 true true false false = (1305, 0) := by decide +kernel
  have e2 : enc 2 3 false false false false = (770, 0) := by decide +kernel
  have e3 : enc 1 16 true false true true = (4201, 0) := by decide +kernel
  have e4 : partP 4201 3 = (4905, 0) := by decide +kernel
  have e5 : markP 1305 true = (1337, 0) := by decide +kernel
  have e6 : protectP 1305 = (1297, 0) := by decide +kernel
  have e7 : markP 1297 true = (0, 12) := by decide +kernel
  have e8 : dec 128 = (0, 0, false, false, false, false, 3) := by decide +kernel
  have e9 : markP 770 false = (0, 11) := by decide +kernel
  unfold estoverslaw05_awake.f
  simp only [encode_eq, e1, e2, e3, Option.bind_some, if_true, estoverslaw05_awake.j0, estoverslaw05_awake.j1]
  rw [part_eq _ 4201 3 (by decide) (by decide), mark_eq _ 1305 true (by decide) (by decide), protect_eq _ 1305 (by decide) (by decide)]
  simp only [Option.bind_some, e4, e5, e6, if_true]
  rw [mark_eq _ 1297 true (by decide) (by decide), decode_eq _ 128 (by decide) (by decide), mark_eq _ 770 false (by decide) (by decide)]
  simp [e7, e8, e9]
theorem range {x : Int} (h : (Lit.int .u64 x).wf = true) : 0 ≤ x ∧ x < 18446744073709551616 := by
  simp [Lit.wf, IntKind.min, IntKind.max, IntKind.signed, IntKind.bits] at h; omega


theorem rform_eq (kd n : Int) (w a d h : Bool) (h0 : 0 ≤ kd) (h4 : kd ≤ 4) : estoversref05_form.f kd n w a d h = some (suits kd n w a d h) := by
  unfold estoversref05_form.f suits
  have : kd = 0 ∨ kd = 1 ∨ kd = 2 ∨ kd = 3 ∨ kd = 4 := by omega
  rcases this with rfl | rfl | rfl | rfl | rfl <;> simp <;> cases w <;> cases a <;> cases d <;> cases h <;> simp <;> rfl
theorem rbit_eq (b : Bool) (x : Int) : estoversref05_bit.f b x = some (x * b2 b) := by
  cases b <;> simp [estoversref05_bit.f, b2]
theorem renc_j1 (k : Nat) (kd n : Int) (w a d h : Bool) (h0 : 0 ≤ kd) (h4 : kd ≤ 4) : estoversref05_Encode.j1 (k + 1) (big kd n h) kd n w a d h = some (enc kd n w a d h) := by
  have hk : ¬ (kd < 0 ∨ 4 < kd) := by omega
  simp only [estoversref05_Encode.j1, enc, if_neg hk]
  cases hb : big kd n h with
  | true => simp
  | false =>
    obtain ⟨n0, n1, _⟩ := big_of kd n h hb
    simp only [rform_eq kd n w a d h h0 h4, Option.bind_some, rbit_eq, join5 kd n w a d h h0 h4 n0 n1]
    cases suits kd n w a d h <;> simp
theorem renc_j0 (k : Nat) (kd n : Int) (w a d h : Bool) (h0 : 0 ≤ kd) (h4 : kd ≤ 4) : estoversref05_Encode.j0 (k + 2) false kd n w a d h = some (enc kd n w a d h) := by
  simp only [estoversref05_Encode.j0, Bool.false_eq_true, if_false]
  have e := renc_j1 k kd n w a d h h0 h4
  split
  · rename_i h1; rw [show big kd n h = true by simp [big, h1]] at e; exact e
  · split
    · rename_i h1 h2; rw [show big kd n h = true by simp [big]; omega] at e; exact e
    · rename_i h1 h2
      have h1' : decide (n < 0) = false := by simpa using h1
      have h2' : decide (4294967295 < n) = false := by simpa using h2
      split
      · rename_i h3
        split
        · rename_i h5; rw [show big kd n h = decide (n > 4294967288) by simp only [big, h1', h2', h3, h5]; simp] at e; exact e
        · rename_i h5
          have h5' : h = false := by simpa using h5
          rw [show big kd n h = false by simp only [big, h1', h2', h5']; simp] at e; exact e
      · rename_i h3
        have h3' : decide (kd = 1) = false := by simpa using h3
        rw [show big kd n h = false by simp only [big, h1', h2', h3']; simp] at e; exact e
theorem rencode_eq (k : Nat) (kd n : Int) (w a d h : Bool) : estoversref05_Encode.f (k + 2) kd n w a d h = some (enc kd n w a d h) := by
  by_cases hk : kd < 0 ∨ 4 < kd
  · unfold estoversref05_Encode.f
    have e : ∀ b, b = true → estoversref05_Encode.j0 (k + 2) b kd n w a d h = some (0, 1) := by
      rintro b rfl; simp [estoversref05_Encode.j0]
    rw [show enc kd n w a d h = (0, 1) by simp only [enc, if_pos hk]]
    split
    · exact e _ rfl
    · exact e _ (by simp; omega)
  · have e := renc_j0 k kd n w a d h (by omega) (by omega)
    unfold estoversref05_Encode.f
    rw [if_neg (by omega), show decide (kd > 4) = false by simp; omega]
    exact e
theorem rdecode_eq (k : Nat) (x : Int) (h0 : 0 ≤ x) (h1 : x < 18446744073709551616) : estoversref05_Decode.f (k + 2) x = some (dec x) := by
  unfold estoversref05_Decode.f
  rw [wrap_kd x h0 h1, wrap_n x h0 h1, gbit8 x h0 h1, gbit16 x h0 h1, gbit32 x h0 h1, gbit64 x h0 h1, rencode_eq, Option.bind_some, pair_if]
  unfold dec
  split <;> rfl

theorem encode_calls (kd n : Int) (w a d h : Bool) (W : World) : Calls Try.prog 12 #[.agg #[.int .i64 kd, .int .i64 n, .bool w, .bool a, .bool d, .bool h]] W fun e W' => e = .returned (.tuple #[.int .u64 (enc kd n w a d h).1, .int .i64 (enc kd n w a d h).2]) ∧ Below W.heap.size W W' :=
  pte_Encode.calls 3 kd n w a d h _ _ W (encode_eq 0 kd n w a d h)
theorem rencode_calls (kd n : Int) (w a d h : Bool) (W : World) : Calls Try.prog 13 #[.agg #[.int .i64 kd, .int .i64 n, .bool w, .bool a, .bool d, .bool h]] W fun e W' => e = .returned (.tuple #[.int .u64 (enc kd n w a d h).1, .int .i64 (enc kd n w a d h).2]) ∧ Below W.heap.size W W' :=
  estoversref05_Encode.calls 2 kd n w a d h _ _ W (rencode_eq 0 kd n w a d h)
/-- What Decode hands back, as a value. -/
def decV (p : Int × Int × Bool × Bool × Bool × Bool × Int) : Value := .tuple #[.agg #[.int .i64 p.1, .int .i64 p.2.1, .bool p.2.2.1, .bool p.2.2.2.1, .bool p.2.2.2.2.1, .bool p.2.2.2.2.2.1], .int .i64 p.2.2.2.2.2.2]
theorem decode_calls (x : Int) (h0 : 0 ≤ x) (h1 : x < 18446744073709551616) (W : World) : Calls Try.prog 15 #[.int .u64 x] W fun e W' => e = .returned (decV (dec x)) ∧ Below W.heap.size W W' :=
  pte_Decode.calls 3 x _ _ _ _ _ _ _ W (decode_eq 0 x h0 h1)
theorem rdecode_calls (x : Int) (h0 : 0 ≤ x) (h1 : x < 18446744073709551616) (W : World) : Calls Try.prog 16 #[.int .u64 x] W fun e W' => e = .returned (decV (dec x)) ∧ Below W.heap.size W W' :=
  estoversref05_Decode.calls 2 x _ _ _ _ _ _ _ W (rdecode_eq 0 x h0 h1)
theorem page_calls (x : Int) (h0 : 0 ≤ x) (h1 : x < 18446744073709551616) (W : World) : Calls Try.prog 31 #[.int .u64 x] W fun e W' => e = .returned (decV (pageP x)) ∧ Below W.heap.size W W' :=
  pte_page.calls 3 x _ _ _ _ _ _ _ W (page_eq 0 x h0 h1)
theorem mark_calls (x : Int) (wr : Bool) (h0 : 0 ≤ x) (h1 : x < 18446744073709551616) (W : World) : Calls Try.prog 19 #[.int .u64 x, .bool wr] W fun e W' => e = .returned (.tuple #[.int .u64 (markP x wr).1, .int .i64 (markP x wr).2]) ∧ Below W.heap.size W W' :=
  pte_Mark.calls 3 x wr _ _ W (mark_eq 0 x wr h0 h1)
theorem protect_calls (x : Int) (h0 : 0 ≤ x) (h1 : x < 18446744073709551616) (W : World) : Calls Try.prog 23 #[.int .u64 x] W fun e W' => e = .returned (.tuple #[.int .u64 (protectP x).1, .int .i64 (protectP x).2]) ∧ Below W.heap.size W W' :=
  pte_Protect.calls 3 x _ _ W (protect_eq 0 x h0 h1)
theorem part_calls (x i : Int) (h0 : 0 ≤ x) (h1 : x < 18446744073709551616) (W : World) : Calls Try.prog 17 #[.int .u64 x, .int .i64 i] W fun e W' => e = .returned (.tuple #[.int .u64 (partP x i).1, .int .i64 (partP x i).2]) ∧ Below W.heap.size W W' :=
  pte_Part.calls 4 x i _ _ W (part_eq 0 x i h0 h1)
theorem awake_calls (W : World) : Calls Try.prog 14 #[] W fun e W' => e = .returned (.bool true) ∧ Below W.heap.size W W' :=
  estoverslaw05_awake.calls 10 true W (awake_eq 0)

set_option maxHeartbeats 1000000 in
theorem old_calls (x : Int) (h0 : 0 ≤ x) (h1 : x < 18446744073709551616) (W : World) : Calls Try.prog 21 #[.int .u64 x] W fun e W' => e = .returned (.tuple #[.int .u64 (oldP x).1, .int .i64 (oldP x).2]) ∧ Below W.heap.size W W' := by
  have hp := page_calls x h0 h1
  unfold oldP
  generalize pageP x = p at *
  obtain ⟨p1, p2, p3, p4, p5, p6, p7⟩ := p
  by_cases c : p7 = 0
  · subst c
    go_enter Try.func21, Try.ntmps21
    go_wp2_with (go_at_call 31; refine (hp _).mono ?_; rintro e w1 ⟨rfl, hb⟩; unfold decV)
    go_ret2
    exact ⟨rfl, below_alloc hb _⟩
  · have c1 : (p7 != 0) = true := bne_iff_ne.2 c
    rw [if_pos c]
    clear c
    go_enter Try.func21, Try.ntmps21
    go_wp2_with (go_at_call 31; refine (hp _).mono ?_; rintro e w1 ⟨rfl, hb⟩; unfold decV)
    go_ret2
    exact ⟨rfl, below_alloc hb _⟩

theorem dec_form {x kd n : Int} {w a d h : Bool} {r : Int} {f : Nat} (hp : ∀ W, Calls Try.prog f #[.int .u64 x] W fun e W' => e = .returned (decV (dec x)) ∧ Below W.heap.size W W') (e : dec x = (kd, n, w, a, d, h, r)) :
    ∀ W, Calls Try.prog f #[.int .u64 x] W fun e W' => e = .returned (.tuple #[.agg #[.int .i64 kd, .int .i64 n, .bool w, .bool a, .bool d, .bool h], .int .i64 r]) ∧ Below W.heap.size W W' := by
  rw [e] at hp; exact hp

set_option maxHeartbeats 1000000 in
theorem rmark_calls (x : Int) (wr : Bool) (h0 : 0 ≤ x) (h1 : x < 18446744073709551616) (W : World) : Calls Try.prog 20 #[.int .u64 x, .bool wr] W fun e W' => e = .returned (.tuple #[.int .u64 (markP x wr).1, .int .i64 (markP x wr).2]) ∧ Below W.heap.size W W' := by
  have hd := rdecode_calls x h0 h1
  rcases dec_cases x with ⟨kd, n, w, a, d, h, g, hx, e⟩ | e
  · have hp := dec_form hd e
    clear hd e
    by_cases hk : kd = 1
    · subst hk
      have hm := mark_word g wr
      rw [← hx] at hm
      rw [hm]
      have e48 := or48 x h0 h1
      have m48 := mark48 g rfl
      have m16 := mark16 g
      rw [← hx] at m48 m16
      rw [m48] at e48
      have E48 := Lib.hid e48
      have M16 := Lib.hid m16
      clear hm g hx e48 m48 m16 h0 h1
      cases wr <;> cases w <;> (
        go_enter Try.func20, Try.ntmps20
        go_wp2_with (go_at_call 16; refine (hp _).mono ?_; rintro e w1 ⟨rfl, hb⟩)
        go_ret2
        exact ⟨by first | rfl | (rw [M16.out]; rfl) | (rw [E48.out]; rfl), below_alloc hb _⟩)
    · have hm := mark_other g hk wr
      rw [← hx] at hm
      rw [hm]
      have c1 : (kd != 1) = true := bne_iff_ne.2 hk
      clear hm g hx hk
      go_enter Try.func20, Try.ntmps20
      go_wp2_with (go_at_call 16; refine (hp _).mono ?_; rintro e w1 ⟨rfl, hb⟩)
      go_ret2
      exact ⟨rfl, below_alloc hb _⟩
  · have hp := dec_form hd e
    rw [mark_none e]
    clear hd e
    go_enter Try.func20, Try.ntmps20
    go_wp2_with (go_at_call 16; refine (hp _).mono ?_; rintro e w1 ⟨rfl, hb⟩)
    go_ret2
    exact ⟨rfl, below_alloc hb _⟩

set_option maxHeartbeats 1000000 in
theorem rold_calls (x : Int) (h0 : 0 ≤ x) (h1 : x < 18446744073709551616) (W : World) : Calls Try.prog 22 #[.int .u64 x] W fun e W' => e = .returned (.tuple #[.int .u64 (oldP x).1, .int .i64 (oldP x).2]) ∧ Below W.heap.size W W' := by
  have hd := rdecode_calls x h0 h1
  rcases dec_cases x with ⟨kd, n, w, a, d, h, g, hx, e⟩ | e
  · have hp := dec_form hd e
    clear hd e
    by_cases hk : kd = 1
    · subst hk
      have hm := old_word g
      rw [← hx] at hm
      rw [hm]
      have he := rencode_calls 1 n w false d h
      rw [enc_ok (ok_flags g w false d)] at he
      clear hm g hx
      go_enter Try.func22, Try.ntmps22
      go_wp2_with (first | (go_at_call 16; refine (hp _).mono ?_; rintro e w1 ⟨rfl, hb⟩) | (go_at_call 13; refine (he _).mono ?_; rintro e w2 ⟨rfl, hb2⟩))
      go_ret2
      exact ⟨rfl, below_then (below_alloc hb _) (below_alloc hb _).size hb2⟩
    · have hm := old_other g hk
      rw [← hx] at hm
      rw [hm]
      have c1 : (kd != 1) = true := bne_iff_ne.2 hk
      clear hm g hx hk
      go_enter Try.func22, Try.ntmps22
      go_wp2_with (go_at_call 16; refine (hp _).mono ?_; rintro e w1 ⟨rfl, hb⟩)
      go_ret2
      exact ⟨rfl, below_alloc hb _⟩
  · have hp := dec_form hd e
    rw [old_none e]
    clear hd e
    go_enter Try.func22, Try.ntmps22
    go_wp2_with (go_at_call 16; refine (hp _).mono ?_; rintro e w1 ⟨rfl, hb⟩)
    go_ret2
    exact ⟨rfl, below_alloc hb _⟩

set_option maxHeartbeats 1000000 in
theorem rprotect_calls (x : Int) (h0 : 0 ≤ x) (h1 : x < 18446744073709551616) (W : World) : Calls Try.prog 24 #[.int .u64 x] W fun e W' => e = .returned (.tuple #[.int .u64 (protectP x).1, .int .i64 (protectP x).2]) ∧ Below W.heap.size W W' := by
  have hd := rdecode_calls x h0 h1
  rcases dec_cases x with ⟨kd, n, w, a, d, h, g, hx, e⟩ | e
  · have hp := dec_form hd e
    clear hd e
    by_cases hk : kd = 1 ∨ kd = 3
    · have hm := protect_word g hk
      rw [← hx] at hm
      rw [hm]
      have he := rencode_calls kd n false a d h
      have go_ : ok kd n false a d h := by
        rcases hk with hk | hk
        · subst hk; exact ok_flags g false a d
        · subst hk; exact ok_move g false
      rw [enc_ok go_] at he
      clear hm g hx go_
      rcases hk with hk | hk <;> subst hk <;> (
        go_enter Try.func24, Try.ntmps24
        go_wp2_with (first | (go_at_call 16; refine (hp _).mono ?_; rintro e w1 ⟨rfl, hb⟩) | (go_at_call 13; refine (he _).mono ?_; rintro e w2 ⟨rfl, hb2⟩))
        go_ret2
        exact ⟨rfl, below_then (below_alloc hb _) (below_alloc hb _).size hb2⟩)
    · have hm := protect_other g hk
      rw [← hx] at hm
      rw [hm]
      have c1 : (kd != 1) = true := bne_iff_ne.2 (fun h_ => hk (.inl h_))
      have c3 : (kd != 3) = true := bne_iff_ne.2 (fun h_ => hk (.inr h_))
      clear hm g hx hk
      go_enter Try.func24, Try.ntmps24
      go_wp2_with (go_at_call 16; refine (hp _).mono ?_; rintro e w1 ⟨rfl, hb⟩)
      go_ret2
      exact ⟨rfl, below_alloc hb _⟩
  · have hp := dec_form hd e
    rw [protect_none e]
    clear hd e
    go_enter Try.func24, Try.ntmps24
    go_wp2_with (go_at_call 16; refine (hp _).mono ?_; rintro e w1 ⟨rfl, hb⟩)
    go_ret2
    exact ⟨rfl, below_alloc hb _⟩
end Go.Proofs.Ytmmjialpkddgdaa.PteCalls
