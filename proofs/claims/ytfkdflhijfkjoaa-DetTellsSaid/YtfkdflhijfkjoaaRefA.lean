/- The document's prefixes (mooringsref07) answer as the package addr's do. -/
import Derived.Test.YtfkdflhijfkjoaaP17
import Derived.Test.YtfkdflhijfkjoaaC
import Derived.Laws.BitsLemmas
import Derived.IntWalk
namespace Go.Proofs.Ytfkdflhijfkjoaa.A
open Go.RowKit Go.Proofs.Ytfkdflhijfkjoaa.P Go.Proofs.YtfkdflhijfkjoaaW.PrintWords Go.Proofs.YtfkdflhijfkjoaaW.PrintLast Go.Proofs.YtfkdflhijfkjoaaW.PrintMore
theorem shl_pow_fin : ∀ m : Fin 33, shl .i64 1 (wrap64 (32 - (m.val : Int))) = ((2 ^ (32 - m.val) : Nat) : Int) := by decide +kernel
theorem pow_fin : ∀ m : Fin 33, mooringsref07_pow.f 40 (wrap64 (32 - (m.val : Int))) = some (shl .i64 1 (wrap64 (32 - (m.val : Int)))) := by decide +kernel
theorem shl_pow {n : Int} (h0 : 0 ≤ n) (h1 : n ≤ 32) : ∃ m : Nat, m ≤ 32 ∧ (m : Int) = 32 - n ∧ shl .i64 1 (wrap64 (32 - n)) = ((2 ^ m : Nat) : Int) := by
  have h := shl_pow_fin ⟨n.toNat, by omega⟩
  have e : ((n.toNat : Nat) : Int) = n := by omega
  simp only [e] at h
  exact ⟨32 - n.toNat, by omega, by omega, h⟩
theorem pow_ok (k : Nat) {n : Int} (h0 : 0 ≤ n) (h1 : n ≤ 32) : mooringsref07_pow.f (k + 40) (wrap64 (32 - n)) = some (shl .i64 1 (wrap64 (32 - n))) := by
  induction k with
  | zero =>
    have h := pow_fin ⟨n.toNat, by omega⟩
    have e : ((n.toNat : Nat) : Int) = n := by omega
    simp only [e] at h
    exact h
  | succ k ih =>
    rw [Nat.add_right_comm]
    exact mooringsref07_pow.mono _ _ _ ih
theorem pow_bounds {m : Nat} (h : m ≤ 32) : 1 ≤ 2 ^ m ∧ 2 ^ m ≤ 4294967296 := ⟨Nat.one_le_two_pow, Nat.pow_le_pow_right (n := 2) (by omega) h⟩
theorem mask_ok {b : Int} {m : Nat} (hm : m ≤ 32) (h0 : 0 ≤ b) (h1 : b < 4294967296) : bits .and .i64 b (wrap64 (((2 ^ m : Nat) : Int) - 1)) = b % ((2 ^ m : Nat) : Int) := by
  have := pow_bounds hm
  rw [w64 (by omega) (by omega)]
  have e : ((2 ^ m : Nat) : Int) = 2 ^ m := by norm_cast
  rw [e]
  exact bits_mask .i64 63 (by decide) (fun n a b => Go.IntWalk.i64_in n ⟨by omega, by omega⟩) m (by omega) b h0 (by omega)
theorem rmay (k : Nat) (b n : Int) : mooringsref07_May.f (k + 40) b n = addr_May.f b n := by
  unfold mooringsref07_May.f addr_May.f
  by_cases h0 : n ≥ 0
  · by_cases h1 : n ≤ 32
    · by_cases h2 : b ≥ 0
      · by_cases h3 : b < 4294967296
        · obtain ⟨m, hm, hn, hs⟩ := shl_pow h0 h1
          have := pow_bounds hm
          rw [if_pos h0, if_pos h1, if_pos h2, if_pos h3, if_pos h0, if_pos h1, if_pos h2, if_pos h3, pow_ok k h0 h1, Option.bind_some, hs, if_neg (by omega), if_pos (by rw [w64 (by omega) (by omega)]; omega), mask_ok hm h2 h3, Int.tmod_eq_emod_of_nonneg h2]
        · rw [if_pos h0, if_pos h1, if_pos h2, if_neg h3, if_pos h0, if_pos h1, if_pos h2, if_neg h3]
      · rw [if_pos h0, if_pos h1, if_neg h2, if_pos h0, if_pos h1, if_neg h2]
    · rw [if_pos h0, if_neg h1, if_pos h0, if_neg h1]
  · rw [if_neg h0, if_neg h0]
theorem rsize (k : Nat) (b n : Int) : mooringsref07_Size.f (k + 40) b n = addr_Size.f b n := by
  unfold mooringsref07_Size.f addr_Size.f
  rw [rmay]
  obtain ⟨r, hr, h⟩ := may_ok b n
  rw [hr, Option.bind_some, Option.bind_some]
  cases r with
  | false => rfl
  | true =>
    obtain ⟨h0, h1⟩ := h rfl
    rw [if_pos rfl, if_pos rfl, pow_ok k h0 h1, Option.bind_some, if_pos (by rw [w64 (by omega) (by omega)]; omega)]
/-- What a prefix is that may be. -/
theorem may_yes {b n : Int} (h : addr_May.f b n = some true) : ∃ m : Nat, m ≤ 32 ∧ (m : Int) = 32 - n ∧ (0 ≤ n ∧ n ≤ 32) ∧ shl .i64 1 (wrap64 (32 - n)) = ((2 ^ m : Nat) : Int) ∧ (0 ≤ b ∧ b < 4294967296) ∧ b % ((2 ^ m : Nat) : Int) = 0 := by
  unfold addr_May.f at h
  by_cases h0 : n ≥ 0
  · by_cases h1 : n ≤ 32
    · by_cases h2 : b ≥ 0
      · by_cases h3 : b < 4294967296
        · obtain ⟨m, hm, hn, hs⟩ := shl_pow h0 h1
          rw [if_pos h0, if_pos h1, if_pos h2, if_pos h3, if_pos (by rw [w64 (by omega) (by omega)]; omega), hs, mask_ok hm h2 h3, Option.some.injEq, beq_iff_eq] at h
          exact ⟨m, hm, hn, ⟨h0, h1⟩, hs, ⟨h2, h3⟩, h⟩
        · rw [if_pos h0, if_pos h1, if_pos h2, if_neg h3] at h; cases h
      · rw [if_pos h0, if_pos h1, if_neg h2] at h; cases h
    · rw [if_pos h0, if_neg h1] at h; cases h
  · rw [if_neg h0] at h; cases h
theorem size_yes {b n : Int} (h : addr_May.f b n = some true) {m : Nat} (h0 : 0 ≤ n) (h1 : n ≤ 32) (hs : shl .i64 1 (wrap64 (32 - n)) = ((2 ^ m : Nat) : Int)) : addr_Size.f b n = some ((2 ^ m : Nat) : Int) := by
  unfold addr_Size.f
  rw [h, Option.bind_some, if_pos rfl, if_pos (by rw [w64 (by omega) (by omega)]; omega), hs]
theorem xor_nat (a b : Nat) (ha : a < 4294967296) (hb : b < 4294967296) : bits .xor .i64 (a : Int) (b : Int) = ((a ^^^ b : Nat) : Int) := by
  have hx : a ^^^ b < 2 ^ 32 := Nat.xor_lt_two_pow (by omega) (by omega)
  have h1 : (BitVec.ofInt 64 (a : Int)).toNat = a := by
    rw [BitVec.ofInt_natCast, BitVec.toNat_ofNat]; exact Nat.mod_eq_of_lt (by omega)
  have h2 : (BitVec.ofInt 64 (b : Int)).toNat = b := by
    rw [BitVec.ofInt_natCast, BitVec.toNat_ofNat]; exact Nat.mod_eq_of_lt (by omega)
  show IntKind.i64.wrap ((BitVec.ofInt 64 (a : Int) ^^^ BitVec.ofInt 64 (b : Int)).toNat : Int) = _
  rw [BitVec.toNat_xor, h1, h2]
  exact Go.IntWalk.i64_in _ ⟨by omega, by omega⟩
theorem xor_zero {a b : Nat} : a ^^^ b = 0 ↔ a = b := by
  constructor
  · intro h
    have : a ^^^ (a ^^^ b) = a ^^^ 0 := by rw [h]
    rw [← Nat.xor_assoc, Nat.xor_self, Nat.zero_xor, Nat.xor_zero] at this
    exact this.symm
  · rintro rfl; exact Nat.xor_self _
theorem shr_xor {a b : Int} {m : Nat} (hm : m ≤ 32) (a0 : 0 ≤ a) (a1 : a < 4294967296) (b0 : 0 ≤ b) (b1 : b < 4294967296) {y : Int} (hy : y = m) :
    (shr .i64 (bits .xor .i64 a b) y != 0) = (a / ((2 ^ m : Nat) : Int) != b / ((2 ^ m : Nat) : Int)) := by
  obtain ⟨c, rfl⟩ := Int.eq_ofNat_of_zero_le a0
  obtain ⟨d, rfl⟩ := Int.eq_ofNat_of_zero_le b0
  rw [xor_nat c d (by omega) (by omega)]
  have e : shr .i64 ((c ^^^ d : Nat) : Int) y = (((c ^^^ d) / 2 ^ m : Nat) : Int) := by
    unfold shr
    rw [hy, Int.toNat_natCast, Nat.min_eq_left (show m ≤ IntKind.i64.bits by show m ≤ 64; omega)]
    rw [Int.natCast_ediv, Int.natCast_pow]
    rfl
  rw [e, Nat.xor_div_two_pow, ← Int.natCast_ediv, ← Int.natCast_ediv]
  rw [Bool.eq_iff_iff, bne_iff_ne, bne_iff_ne]
  constructor
  · intro h g
    have e : c / 2 ^ m = d / 2 ^ m := by exact_mod_cast g
    exact h (by rw [xor_zero.2 e]; rfl)
  · intro h g
    have e : c / 2 ^ m ^^^ d / 2 ^ m = 0 := by exact_mod_cast g
    exact h (by rw [xor_zero.1 e])
theorem rindex (k l : Nat) (b n a : Int) (ha : -9223372036854775808 ≤ a ∧ a ≤ 9223372036854775807) : mooringsref07_Index.f (k + 40) b n a = addr_Index.f (l + 1) b n a := by
  unfold mooringsref07_Index.f addr_Index.f
  rw [rmay, rsize]
  have rt : mooringsref07_Index.j0 (k + 40) a true b n = some (-1) := by rw [mooringsref07_Index.j0, if_pos rfl]
  have jt : addr_Index.j0 (l + 1) a true b n = some (-1) := by rw [addr_Index.j0, if_pos rfl]
  have rf : mooringsref07_Index.j0 (k + 40) a false b n = some (wrap64 (a - b)) := by rw [mooringsref07_Index.j0, if_neg (by decide)]
  have jf : addr_Index.j0 (l + 1) a false b n = some (wrap64 (a - b)) := by rw [addr_Index.j0, if_neg (by decide)]
  obtain ⟨r, hr, _⟩ := may_ok b n
  rw [hr, Option.bind_some, Option.bind_some]
  cases r with
  | false => rw [if_neg (by decide), if_neg (by decide), rt, jt]
  | true =>
    obtain ⟨m, hm, hn, ⟨n0, n1⟩, hs, ⟨b0, b1⟩, hz⟩ := may_yes hr
    have pb := pow_bounds hm
    rw [if_pos rfl, if_pos rfl, size_yes hr n0 n1 hs, Option.bind_some, if_pos (show 0 ≤ wrap64 (32 - n) by rw [w64 (by omega) (by omega)]; omega)]
    -- the base is a number of blocks
    have hb : b = b / ((2 ^ m : Nat) : Int) * ((2 ^ m : Nat) : Int) := by
      have := Int.emod_add_mul_ediv b ((2 ^ m : Nat) : Int)
      rw [hz, Int.mul_comm] at this; omega
    have hP : (4294967296 : Int) = ((2 ^ (32 - m) : Nat) : Int) * ((2 ^ m : Nat) : Int) := by
      rw [← Int.natCast_mul, ← Nat.pow_add, show 32 - m + m = 32 by omega]; rfl
    have hlt : b + ((2 ^ m : Nat) : Int) ≤ 4294967296 := by
      have c : b / ((2 ^ m : Nat) : Int) < ((2 ^ (32 - m) : Nat) : Int) := (Int.ediv_lt_iff_lt_mul (by omega)).2 (by omega)
      have := Int.mul_le_mul_of_nonneg_right (show b / ((2 ^ m : Nat) : Int) + 1 ≤ ((2 ^ (32 - m) : Nat) : Int) by omega) (show (0 : Int) ≤ ((2 ^ m : Nat) : Int) by omega)
      rw [Int.add_mul, Int.one_mul] at this; omega
    rw [w64 (x := b + ((2 ^ m : Nat) : Int)) (by omega) (by omega)]
    by_cases c0 : a < 0
    · rw [if_pos (show a < b by omega), if_pos c0, rt, jt]
    · rw [if_neg c0]
      by_cases c1 : a ≥ 4294967296
      · rw [if_pos c1, if_neg (by omega), decide_eq_true (show a ≥ b + ((2 ^ m : Nat) : Int) by omega), rt, jt]
      · rw [if_neg c1, shr_xor hm (by omega) (by omega) b0 b1 (by rw [w64 (by omega) (by omega)]; omega)]
        by_cases c2 : a < b
        · have : a / ((2 ^ m : Nat) : Int) < b / ((2 ^ m : Nat) : Int) := (Int.ediv_lt_iff_lt_mul (by omega)).2 (by omega)
          rw [if_pos c2, rt, (bne_iff_ne).2 (by omega), jt]
        · rw [if_neg c2]
          by_cases c3 : a ≥ b + ((2 ^ m : Nat) : Int)
          · have : b / ((2 ^ m : Nat) : Int) + 1 ≤ a / ((2 ^ m : Nat) : Int) := (Int.le_ediv_iff_mul_le (by omega)).2 (by rw [Int.add_mul, Int.one_mul]; omega)
            rw [decide_eq_true c3, rt, (bne_iff_ne).2 (by omega), jt]
          · have : a / ((2 ^ m : Nat) : Int) = b / ((2 ^ m : Nat) : Int) := in_row (by omega) (by omega)
            rw [decide_eq_false c3, rf, this, bne_self_eq_false, jf]
theorem index_sign {b n a : Int} (l : Nat) (ha : -9223372036854775808 ≤ a ∧ a ≤ 9223372036854775807) {r : Int} (h : addr_Index.f (l + 1) b n a = some r) : r = -1 ∨ 0 ≤ r := by
  rw [← rindex 0 l b n a ha] at h
  unfold mooringsref07_Index.f at h
  rw [rmay, rsize] at h
  have rt : mooringsref07_Index.j0 (0 + 40) a true b n = some (-1) := by rw [mooringsref07_Index.j0, if_pos rfl]
  obtain ⟨q, hq, _⟩ := may_ok b n
  rw [hq, Option.bind_some] at h
  cases q with
  | false => rw [if_neg (by decide), rt] at h; exact .inl (Option.some.inj h).symm
  | true =>
    obtain ⟨m, hm, hn, ⟨n0, n1⟩, hs, ⟨b0, b1⟩, hz⟩ := may_yes hq
    have pb := pow_bounds hm
    rw [if_pos rfl, size_yes hq n0 n1 hs, Option.bind_some, w64 (x := b + ((2 ^ m : Nat) : Int)) (by omega) (by omega)] at h
    by_cases c2 : a < b
    · rw [if_pos c2, rt] at h; exact .inl (Option.some.inj h).symm
    · rw [if_neg c2] at h
      by_cases c3 : a ≥ b + ((2 ^ m : Nat) : Int)
      · rw [decide_eq_true c3, rt] at h; exact .inl (Option.some.inj h).symm
      · rw [decide_eq_false c3, mooringsref07_Index.j0, if_neg (by decide), w64 (by omega) (by omega)] at h
        have := Option.some.inj h
        exact .inr (by omega)
theorem rmeet (k l : Nat) (b n c m : Int) (hb : -9223372036854775808 ≤ b ∧ b ≤ 9223372036854775807) (hc : -9223372036854775808 ≤ c ∧ c ≤ 9223372036854775807) : mooringsref07_Meet.f (k + 40) b n c m = addr_Meet.f (l + 1) b n c m := by
  unfold mooringsref07_Meet.f addr_Meet.f
  rw [rmay, rmay, rindex k l b n c hc, rindex k l c m b hb]
  obtain ⟨r, hr, _⟩ := may_ok b n
  obtain ⟨q, hq, _⟩ := may_ok c m
  obtain ⟨i, hi⟩ := index_ok l b n c
  obtain ⟨j, hj⟩ := index_ok l c m b
  have si := index_sign l hc hi
  have sj := index_sign l hb hj
  rw [hr, hq, hi, hj]
  simp only [Option.bind_some]
  cases r with
  | false => rw [if_neg (by decide), if_neg (by decide)]
  | true =>
    cases q with
    | false => rfl
    | true =>
      rw [if_pos rfl, if_pos rfl, if_pos rfl, if_pos rfl]
      by_cases c0 : i ≥ 0
      · rw [if_pos c0, if_neg (by omega)]
      · rw [if_neg c0, if_pos (by omega)]
        rcases sj with rfl | c1
        · rfl
        · rw [decide_eq_true c1, (bne_iff_ne).2 (by omega)]
end Go.Proofs.Ytfkdflhijfkjoaa.A
