/-
  The document's Pack and Unpack are the program's, in plain numbers: no memory and no Go here.
-/
import Derived.Test.YtikmbpkakpbjlaaB
namespace Go.Proofs.Ytikmbpkakpbjlaa.C
open Go.RowKit Go.Proofs.Ytikmbpkakpbjlaa.P Go.Proofs.YtikmbpkakpbjlaaW.PrintWords Go.Proofs.YtikmbpkakpbjlaaW.PrintLast Go.Proofs.Ytikmbpkakpbjlaa.A Go.Proofs.Ytikmbpkakpbjlaa.B

theorem digits_get (w k N i : Nat) (h : i < (M.digits w k N).length) : (M.digits w k N)[i] = ((N / 2 ^ (w * i) % 2 ^ w : Nat) : Int) := by
  induction k generalizing N i with
  | zero => simp [M.digits] at h
  | succ k ih =>
    cases i with
    | zero => simp [M.digits]
    | succ i =>
      simp only [M.digits, List.getElem_cons_succ]
      rw [ih, Nat.div_div_eq_div_mul, ← Nat.pow_add, Nat.mul_succ, Nat.add_comm w]
theorem rd_digits {w k N i : Nat} (h : i < k) : rd (M.digits w k N) i = ((N / 2 ^ (w * i) % 2 ^ w : Nat) : Int) := by
  have hl : i < (M.digits w k N).length := by rw [M.digits_length]; exact h
  rw [rd_at hl, digits_get]
theorem set_bit {S N q r : Nat} (hN : N < 2 ^ (8 * q + r)) (hr : r < 8) (hq : q < S) :
    (M.digits 8 S N).set q ((rd (M.digits 8 S N) q + ((2 ^ r : Nat) : Int) % 256) % 256) = M.digits 8 S (N + 2 ^ (8 * q + r)) := by
  have hp : (2 : Nat) ^ r ≤ 2 ^ 7 := Nat.pow_le_pow_right (by omega) (by omega)
  have hs : (2 : Nat) ^ (8 * q + r) = 2 ^ r * 2 ^ (8 * q) := by rw [Nat.pow_add, Nat.mul_comm]
  have hd : N / 2 ^ (8 * q) < 2 ^ r := (Nat.div_lt_iff_lt_mul (Nat.two_pow_pos _)).2 (by rw [← hs]; exact hN)
  have hnew : (N + 2 ^ (8 * q + r)) / 2 ^ (8 * q) = N / 2 ^ (8 * q) + 2 ^ r := by rw [hs, Nat.add_mul_div_right _ _ (Nat.two_pow_pos _)]
  apply List.ext_getElem
  · rw [List.length_set, M.digits_length, M.digits_length]
  intro i h1 h2
  rw [M.digits_length] at h2
  rw [List.getElem_set]
  by_cases e : q = i
  · subst e
    rw [if_pos rfl, rd_digits hq, digits_get, hnew, show (2 : Nat) ^ 8 = 256 from rfl]
    omega
  · rw [if_neg e, digits_get, digits_get]
    congr 1
    rcases Nat.lt_or_gt_of_ne e with c | c
    · have hle : 8 * q + r < 8 * i := by omega
      have h3 : (2 : Nat) ^ (8 * q + r) + 2 ^ (8 * q + r) ≤ 2 ^ (8 * i) := by
        have := Nat.pow_le_pow_right (n := 2) (by omega) (show 8 * q + r + 1 ≤ 8 * i by omega)
        rw [Nat.pow_succ] at this
        omega
      rw [Nat.div_eq_of_lt (by omega), Nat.div_eq_of_lt (by omega)]
    · obtain ⟨t, ht⟩ : ∃ t, 8 * q + r = t + 8 + 8 * i := ⟨8 * q + r - 8 - 8 * i, by omega⟩
      rw [ht, Nat.pow_add, Nat.add_mul_div_right _ _ (Nat.two_pow_pos _), Nat.pow_add, Nat.add_mul_mod_self_right]
theorem rsize (n w : Int) : mooringsref03_Size.f n w = some (Dev.sizeOf n w) := by
  rw [← Dev.size_eq]
  unfold mooringsref03_Size.f pack_Size.f
  by_cases c1 : n < 0
  · rw [if_pos c1, if_pos c1]
  · rw [if_neg c1, if_neg c1]
    by_cases c2 : n > 400
    · rw [if_pos c2, if_pos c2]
    · rw [if_neg c2, if_neg c2]
      by_cases c3 : w < 0
      · rw [if_pos c3, if_pos c3]
      · rw [if_neg c3, if_neg c3]
        by_cases c4 : w > 32
        · rw [if_pos c4, if_pos c4]
        · rw [if_neg c4, if_neg c4]
          have h0 : 0 ≤ n * w := Int.mul_nonneg (by omega) (by omega)
          have h1 : n * w ≤ 400 * 32 := Int.mul_le_mul (by omega) (by omega) (by omega) (by omega)
          congr 3
          unfold wrap64; omega
theorem half {y : Nat} (h : y < 4611686018427387904) (m : Nat) : wrap64 (Int.tdiv (y : Int) m) = ((y / m : Nat) : Int) := by
  have h2 := Nat.div_le_self y m
  rw [Int.tdiv_eq_ediv_of_nonneg (by omega), ← Int.natCast_ediv]
  generalize y / m = z at h2 ⊢
  exact w64 (by omega) (by omega)
theorem rest (y m : Nat) : Int.tmod (y : Int) m = ((y % m : Nat) : Int) := by
  rw [Int.tmod_eq_emod_of_nonneg (by omega), Int.natCast_emod]
/-- One number's bits. -/
theorem pack_bits {l : List Int} {w : Nat} (hw : w ≤ 32) (hl : l.length ≤ 400) (hf : M.Fit w l) (S : Nat) (hS : S = (l.length * w + 7) / 8) {i : Nat} (hi : i < l.length) (R : Nat) (hR : 64 ≤ R) (X : Option (List Int × Bool))
    (hX : ∀ k, R < k → mooringsref03_Pack.l0 k l w (M.digits 8 S (M.packNum w (l.take (i + 1)))) ((i + 1 : Nat) : Int) = X) (d : Nat) :
    ∀ (k b : Nat), b + d = w → R + d + 1 < k → mooringsref03_Pack.l1 k l w (M.digits 8 S (M.packNum w (l.take i) + (l[i].toNat % 2 ^ b) * 2 ^ (w * i))) i ((l[i].toNat / 2 ^ b : Nat) : Int) b = X := by
  have hc := hf _ (List.getElem_mem hi)
  have hP := M.take_lt' hf i (by omega)
  have hiw : (i + 1) * w ≤ l.length * w := Nat.mul_le_mul_right w (by omega)
  have hiw2 : l.length * w ≤ 400 * 32 := Nat.mul_le_mul hl hw
  rw [Nat.add_mul, Nat.one_mul, Nat.mul_comm i] at hiw
  have hstep := M.take_step' w l i hi
  rw [show l.getD i 0 = l[i] by simp [List.getD_eq_getElem?_getD, List.getElem?_eq_getElem hi]] at hstep
  generalize l[i] = c at hc hstep ⊢
  have hcl : c.toNat < 2 ^ 32 := Nat.lt_of_lt_of_le (by omega : c.toNat < 2 ^ w) (Nat.pow_le_pow_right (by omega) hw)
  induction d with
  | zero =>
    intro k b hb hk
    obtain ⟨k, rfl⟩ : ∃ m, k = m + 1 := ⟨k - 1, by omega⟩
    obtain rfl : b = w := by omega
    rw [mooringsref03_Pack.l1, if_neg (by omega), Nat.mod_eq_of_lt (by omega), ← hstep, w64 (by omega) (by omega)]
    exact hX k (by omega)
  | succ d ih =>
    intro k b hb hk
    obtain ⟨k, rfl⟩ : ∃ m, k = m + 1 := ⟨k - 1, by omega⟩
    have HAT2 : Aside0 (wrap64 (wrap64 ((i : Int) * w) + b) = ((w * i + b : Nat) : Int)) := ⟨by
      rw [show (i : Int) * w = ((w * i : Nat) : Int) by push_cast; rw [Int.mul_comm], w64 (x := ((w * i : Nat) : Int)) (by omega) (by omega), w64 (by omega) (by omega)]; omega⟩
    have hcb : c.toNat / 2 ^ b < 4611686018427387904 := by have := Nat.div_le_self c.toNat (2 ^ b); omega
    have HDIV : Aside0 (wrap64 (Int.tdiv ((c.toNat / 2 ^ b : Nat) : Int) 2) = ((c.toNat / 2 ^ (b + 1) : Nat) : Int)) := ⟨by
      rw [Nat.pow_succ, ← Nat.div_div_eq_div_mul]; exact half hcb 2⟩
    have HMOD : Aside0 (Int.tmod ((c.toNat / 2 ^ b : Nat) : Int) 2 = ((c.toNat / 2 ^ b % 2 : Nat) : Int)) := ⟨rest _ 2⟩
    clear hcb
    have hms : c.toNat % 2 ^ (b + 1) = c.toNat % 2 ^ b + 2 ^ b * (c.toNat / 2 ^ b % 2) := Nat.mod_pow_succ
    have hnext := ih k (b + 1) (by omega) (by omega)
    rw [mooringsref03_Pack.l1, if_pos (by omega), HAT2.out, HMOD.out, HDIV.out, show wrap64 ((b : Int) + 1) = ((b + 1 : Nat) : Int) by rw [w64 (by omega) (by omega)]; omega]
    have hlt : M.packNum w (l.take i) + c.toNat % 2 ^ b * 2 ^ (w * i) < 2 ^ (w * i + b) := by
      have h1 : c.toNat % 2 ^ b + 1 ≤ 2 ^ b := Nat.mod_lt _ (Nat.two_pow_pos b)
      have h2 := Nat.mul_le_mul_right (2 ^ (w * i)) h1
      rw [Nat.add_mul, Nat.one_mul] at h2
      rw [Nat.pow_add, Nat.mul_comm (2 ^ (w * i)) (2 ^ b)]
      omega
    by_cases hbit : c.toNat / 2 ^ b % 2 = 1
    · rw [if_pos (show ((c.toNat / 2 ^ b % 2 : Nat) : Int) = 1 by rw [hbit]; rfl)]
      have HTD : Aside0 (wrap64 (Int.tdiv ((w * i + b : Nat) : Int) 8) = (((w * i + b) / 8 : Nat) : Int)) := ⟨half (by omega) 8⟩
      have HTM : Aside0 (Int.tmod ((w * i + b : Nat) : Int) 8 = (((w * i + b) % 8 : Nat) : Int)) := ⟨rest _ 8⟩
      rw [HTD.out, HTM.out, if_pos (by omega), if_pos (by rw [M.digits_length]; omega), pow (by omega) (by omega), Option.bind_some, Int.toNat_natCast]
      have hq : 8 * ((w * i + b) / 8) + (w * i + b) % 8 = w * i + b := by omega
      have hsb := set_bit (S := S) (N := M.packNum w (l.take i) + c.toNat % 2 ^ b * 2 ^ (w * i)) (q := (w * i + b) / 8) (r := (w * i + b) % 8) (by rw [hq]; exact hlt) (by omega) (by omega)
      rw [hsb, hq]
      have e : M.packNum w (l.take i) + c.toNat % 2 ^ b * 2 ^ (w * i) + 2 ^ (w * i + b) = M.packNum w (l.take i) + c.toNat % 2 ^ (b + 1) * 2 ^ (w * i) := by
        rw [hms, hbit, Nat.mul_one, Nat.add_mul, Nat.pow_add, Nat.mul_comm (2 ^ (w * i)) (2 ^ b)]; omega
      rw [e]
      exact hnext
    · rw [if_neg (show ¬ ((c.toNat / 2 ^ b % 2 : Nat) : Int) = 1 from fun h => hbit (by exact_mod_cast h))]
      have e : c.toNat % 2 ^ b = c.toNat % 2 ^ (b + 1) := by rw [hms, show c.toNat / 2 ^ b % 2 = 0 by omega]; omega
      rw [e]
      exact hnext
theorem pack_loop {l : List Int} {w : Nat} (hw : w ≤ 32) (hl : l.length ≤ 400) (hf : M.Fit w l) (S : Nat) (hS : S = (l.length * w + 7) / 8) (d : Nat) :
    ∀ (k i : Nat), i + d = l.length → d * (w + 2) + 64 < k → mooringsref03_Pack.l0 k l w (M.digits 8 S (M.packNum w (l.take i))) i = some (M.digits 8 S (M.packNum w l), true) := by
  induction d with
  | zero =>
    intro k i hi hk
    obtain ⟨k, rfl⟩ : ∃ m, k = m + 1 := ⟨k - 1, by omega⟩
    rw [mooringsref03_Pack.l0, if_neg (by omega), List.take_of_length_le (by omega)]
  | succ d ih =>
    intro k i hi hk
    obtain ⟨k, rfl⟩ : ∃ m, k = m + 1 := ⟨k - 1, by omega⟩
    have hlt : i < l.length := by omega
    rw [Nat.add_mul, Nat.one_mul] at hk
    rw [mooringsref03_Pack.l0, if_pos (by omega), if_pos (by omega), rd_at hlt]
    have hc := hf _ (List.getElem_mem hlt)
    have := pack_bits hw hl hf S hS hlt (d * (w + 2) + 64) (by omega) _ (fun k hk => ih k (i + 1) (by omega) (by omega)) w k 0 (by omega) (by omega)
    rw [Nat.pow_zero, Nat.mod_one, Nat.zero_mul, Nat.add_zero, Nat.div_one, show ((l[i].toNat : Nat) : Int) = l[i] by omega] at this
    exact this
theorem digits_zero (w k : Nat) : M.digits w k 0 = List.replicate k 0 := by
  induction k with
  | zero => rfl
  | succ k ih => rw [M.digits, Nat.zero_div, ih, Nat.zero_mod]; rfl
/-- The document's Pack is the program's. -/
theorem rpack {l : List Int} {w : Int} (hl : l.length ≤ 4611686018427387904) {k : Nat} (hk : 14000 + l.length < k) : mooringsref03_Pack.f k l w = pack_Pack.f l w := by
  unfold mooringsref03_Pack.f
  rw [fits l w hl (by omega), Option.bind_some]
  obtain ⟨k, rfl⟩ : ∃ m, k = m + 1 := ⟨k - 1, by omega⟩
  by_cases h : 0 ≤ w ∧ w ≤ 32 ∧ M.Fit w.toNat l
  · rw [if_pos (decide_eq_true h)]
    by_cases c : l.length ≤ 400
    · have ho : Ok l w := ⟨c, h⟩
      obtain ⟨m, rfl⟩ := Int.eq_ofNat_of_zero_le h.1
      have hm : m ≤ 32 := by omega
      have hf := h.2.2
      rw [Int.toNat_natCast] at hf
      have hb : l.length * m ≤ 400 * 32 := Nat.mul_le_mul c hm
      have hs : Dev.sizeOf l.length m = (((l.length * m + 7) / 8 : Nat) : Int) := by
        rw [size_of_ok ⟨by omega, by omega, by omega, by omega⟩, Int.toNat_natCast, Int.toNat_natCast]
      rw [decide_eq_false (by omega), mooringsref03_Pack.j0, if_neg (by decide), rsize, Option.bind_some, hs, if_pos (by omega), Int.toNat_natCast, if_pos (by omega), pack_yes ho]
      have hb2 : l.length * (m + 2) ≤ 400 * 34 := Nat.mul_le_mul c (by omega)
      have := pack_loop hm c hf _ rfl l.length k 0 (by omega) (by omega)
      rw [List.take_zero, show M.packNum m [] = 0 from rfl, digits_zero] at this
      unfold B.bytes
      rw [Int.toNat_natCast]
      exact this
    · rw [decide_eq_true (by omega), mooringsref03_Pack.j0, if_pos rfl, pack_no (fun h => c h.1)]
  · rw [if_neg (by rw [decide_eq_false h]; decide), mooringsref03_Pack.j0, if_pos rfl, pack_no (fun k => h k.2)]

/-! the document's Unpack -/
theorem byte_at {l : List Int} (h : M.Fit 8 l) {q : Nat} (hq : q < l.length) : rd l q = ((M.packNum 8 l / 2 ^ (8 * q) % 256 : Nat) : Int) := by
  have h2 : rd (M.digits 8 l.length (M.packNum 8 l)) q = _ := rd_digits hq
  rw [M.digits_packNum' h] at h2
  rw [h2, show (2 : Nat) ^ 8 = 256 from rfl]
theorem bit_of (N q r : Nat) (hr : r < 8) : N / 2 ^ (8 * q) % 256 / 2 ^ r % 2 = N / 2 ^ (8 * q + r) % 2 := by
  have e : 256 = 2 ^ r * (2 * 2 ^ (7 - r)) := by
    rw [show (2 : Nat) * 2 ^ (7 - r) = 2 ^ (7 - r + 1) by rw [Nat.pow_succ, Nat.mul_comm], ← Nat.pow_add, show r + (7 - r + 1) = 8 by omega]
  rw [e, Nat.mod_mul_right_div_self, Nat.mod_mul_right_mod, Nat.div_div_eq_div_mul, ← Nat.pow_add]
theorem quot {y m : Nat} (h : y < 4611686018427387904) : wrap64 (Int.tdiv (wrap64 (y : Int)) m) = ((y / m : Nat) : Int) := by
  rw [w64 (x := (y : Int)) (by omega) (by omega)]
  exact half h m
/-- One number's bits, read. -/
theorem unpack_bits {b : List Int} {n w : Nat} (hw : w ≤ 32) (hn : n ≤ 400) (hb : M.Fit 8 b) (hS : (n * w + 7) / 8 = b.length) {i : Nat} (hi : i < n) (R : Nat) (hR : 64 ≤ R) (out : List Int) (hout : out.length ≤ 400) (X : Option (List Int × Bool))
    (hX : ∀ k, R < k → mooringsref03_Unpack.l0 k b n w (out ++ [((M.packNum 8 b / 2 ^ (w * i) % 2 ^ w : Nat) : Int)]) ((i + 1 : Nat) : Int) = X) (d : Nat) :
    ∀ (k c : Nat), c + d = w → R + d + 1 < k → mooringsref03_Unpack.l1 k b n w out i ((M.packNum 8 b / 2 ^ (w * i) % 2 ^ c : Nat) : Int) c = X := by
  have hiw : (i + 1) * w ≤ n * w := Nat.mul_le_mul_right w (by omega)
  have hiw2 : n * w ≤ 400 * 32 := Nat.mul_le_mul hn hw
  rw [Nat.add_mul, Nat.one_mul, Nat.mul_comm i] at hiw
  induction d with
  | zero =>
    intro k c hc hk
    obtain ⟨k, rfl⟩ : ∃ m, k = m + 1 := ⟨k - 1, by omega⟩
    obtain rfl : c = w := by omega
    rw [mooringsref03_Unpack.l1, if_neg (by omega), if_pos (by omega), w64 (by omega) (by omega)]
    exact hX k (by omega)
  | succ d ih =>
    intro k c hc hk
    obtain ⟨k, rfl⟩ : ∃ m, k = m + 1 := ⟨k - 1, by omega⟩
    have HAT2 : Aside0 (wrap64 (wrap64 ((i : Int) * w) + c) = ((w * i + c : Nat) : Int)) := ⟨by
      rw [show (i : Int) * w = ((w * i : Nat) : Int) by push_cast; rw [Int.mul_comm], w64 (x := ((w * i : Nat) : Int)) (by omega) (by omega), w64 (by omega) (by omega)]; omega⟩
    have HTD : Aside0 (wrap64 (Int.tdiv ((w * i + c : Nat) : Int) 8) = (((w * i + c) / 8 : Nat) : Int)) := ⟨half (by omega) 8⟩
    have HTM : Aside0 (Int.tmod ((w * i + c : Nat) : Int) 8 = (((w * i + c) % 8 : Nat) : Int)) := ⟨rest _ 8⟩
    have hq : (w * i + c) / 8 < b.length := by omega
    rw [mooringsref03_Unpack.l1, if_pos (by omega), HAT2.out, HTM.out, HTD.out, pow (by omega) (by omega), Option.bind_some, if_pos (by omega), if_pos (by omega), pow (by omega) (by omega), Option.bind_some,
      if_neg (by have := Nat.two_pow_pos ((w * i + c) % 8); omega)]
    have hy : M.packNum 8 b / 2 ^ (8 * ((w * i + c) / 8)) % 256 < 4611686018427387904 := Nat.lt_of_lt_of_le (Nat.mod_lt _ (by omega)) (by omega)
    have HB : Aside0 (Int.tmod (wrap64 (Int.tdiv (wrap64 (rd b (((w * i + c) / 8 : Nat) : Int))) ((2 ^ ((w * i + c) % 8) : Nat) : Int))) 2 = ((M.packNum 8 b / 2 ^ (w * i + c) % 2 : Nat) : Int)) := ⟨by
      rw [byte_at hb hq, quot hy]
      have h2 := rest (M.packNum 8 b / 2 ^ (8 * ((w * i + c) / 8)) % 256 / 2 ^ ((w * i + c) % 8)) 2
      rw [bit_of _ _ _ (by omega), show 8 * ((w * i + c) / 8) + (w * i + c) % 8 = w * i + c by omega] at h2
      exact h2⟩
    have hms : M.packNum 8 b / 2 ^ (w * i) % 2 ^ (c + 1) = M.packNum 8 b / 2 ^ (w * i) % 2 ^ c + 2 ^ c * (M.packNum 8 b / 2 ^ (w * i + c) % 2) := by
      rw [Nat.mod_pow_succ, Nat.div_div_eq_div_mul, ← Nat.pow_add]
    have hpc : (2 : Nat) ^ c ≤ 2 ^ 32 := Nat.pow_le_pow_right (by omega) (by omega)
    have hx := Nat.mod_lt (M.packNum 8 b / 2 ^ (w * i)) (Nat.two_pow_pos c)
    have hbit : M.packNum 8 b / 2 ^ (w * i + c) % 2 < 2 := Nat.mod_lt _ (by omega)
    have hnext := ih k (c + 1) (by omega) (by omega)
    rw [hms] at hnext
    rw [HB.out]
    clear HB HAT2 HTD HTM hy hms ih hX
    generalize M.packNum 8 b / 2 ^ (w * i) % 2 ^ c = x at *
    generalize M.packNum 8 b / 2 ^ (w * i + c) % 2 = e at *
    have hm : 2 ^ c * e ≤ 2 ^ c * 1 := Nat.mul_le_mul_left _ (by omega)
    have hcast : ((2 ^ c : Nat) : Int) * (e : Int) = ((2 ^ c * e : Nat) : Int) := by push_cast; rfl
    rw [hcast]
    clear hcast
    generalize 2 ^ c * e = z at *
    rw [w64 (x := (z : Int)) (by omega) (by omega), w64 (x := (x : Int) + z) (by omega) (by omega), w64 (x := (c : Int) + 1) (by omega) (by omega), show (x : Int) + z = ((x + z : Nat) : Int) by omega, show (c : Int) + 1 = ((c + 1 : Nat) : Int) by omega]
    exact hnext
theorem unpack_loop {b : List Int} {n w : Nat} (hw : w ≤ 32) (hn : n ≤ 400) (hb : M.Fit 8 b) (hS : (n * w + 7) / 8 = b.length) (d : Nat) :
    ∀ (k i : Nat), i + d = n → d * (w + 2) + 15000 < k → mooringsref03_Unpack.l0 k b n w (M.digits w i (M.packNum 8 b)) i =
      some (if M.packNum 8 b < 2 ^ (w * n) then (M.digits w n (M.packNum 8 b), true) else ([], false)) := by
  induction d with
  | zero =>
    intro k i hi hk
    obtain ⟨k, rfl⟩ : ∃ m, k = m + 1 := ⟨k - 1, by omega⟩
    obtain rfl : i = n := by omega
    have ho : Ok (M.digits w i (M.packNum 8 b)) w := ⟨by rw [M.digits_length]; exact hn, by omega, by omega, by rw [Int.toNat_natCast]; exact M.digits_fit _ _ _⟩
    rw [mooringsref03_Unpack.l0, if_neg (by omega), rpack (by rw [M.digits_length]; omega) (by rw [M.digits_length]; omega), pack_yes ho, Option.bind_some]
    by_cases c : M.packNum 8 b < 2 ^ (w * i)
    · have hu : Un b i w := ⟨by rw [size_of_ok ⟨by omega, by omega, by omega, by omega⟩, Int.toNat_natCast, Int.toNat_natCast, hS], by rw [Int.toNat_natCast, Int.toNat_natCast]; exact c⟩
      have := bytes_un hb hu
      rw [Int.toNat_natCast, Int.toNat_natCast] at this
      rw [if_pos c, this, if_pos rfl]
    · rw [if_neg c, if_neg]
      rw [str_inj (bytes_fit _ _) hb]
      intro he
      have h2 := packNum_bytes ho
      rw [he, Int.toNat_natCast, M.packNum_digits] at h2
      have := Nat.mod_lt (M.packNum 8 b) (Nat.two_pow_pos (w * i))
      omega
  | succ d ih =>
    intro k i hi hk
    obtain ⟨k, rfl⟩ : ∃ m, k = m + 1 := ⟨k - 1, by omega⟩
    rw [Nat.add_mul, Nat.one_mul] at hk
    rw [mooringsref03_Unpack.l0, if_pos (by omega)]
    have := unpack_bits hw hn hb hS (i := i) (by omega) (d * (w + 2) + 15000) (by omega) (M.digits w i (M.packNum 8 b)) (by rw [M.digits_length]; omega) _ (fun k hk => by
      rw [← M.digits_snoc]; exact ih k (i + 1) (by omega) hk) w k 0 (by omega) (by omega)
    rw [Nat.pow_zero, Nat.mod_one] at this
    exact this
/-- The document's Unpack is the program's. -/
theorem runpack {b : List Int} {n w : Int} (hb : M.Fit 8 b) {k : Nat} (hk : 30000 < k) : mooringsref03_Unpack.f k b n w = pack_Unpack.f b n w := by
  unfold mooringsref03_Unpack.f
  rw [rsize, Option.bind_some]
  by_cases h : Dev.sizeOf n w = b.length
  · have hr := size_range h
    obtain ⟨m, rfl⟩ := Int.eq_ofNat_of_zero_le hr.1
    obtain ⟨v, rfl⟩ := Int.eq_ofNat_of_zero_le hr.2.2.1
    rw [Int.toNat_natCast, Int.toNat_natCast] at hr
    have hb2 : m * (v + 2) ≤ 400 * 34 := Nat.mul_le_mul (by omega) (by omega)
    rw [if_pos h]
    have h2 := unpack_loop (b := b) (n := m) (w := v) (by omega) (by omega) hb hr.2.2.2.2 m k 0 (by omega) (by omega)
    refine Eq.trans h2 ?_
    by_cases c : M.packNum 8 b < 2 ^ (v * m)
    · rw [if_pos c, unpack_yes hb ⟨h, by rw [Int.toNat_natCast, Int.toNat_natCast]; exact c⟩, Int.toNat_natCast, Int.toNat_natCast]
    · rw [if_neg c, unpack_no hb (fun k => c (by have := k.2; rwa [Int.toNat_natCast, Int.toNat_natCast] at this))]
  · rw [if_neg h, unpack_no hb (fun k => h k.1)]
end Go.Proofs.Ytikmbpkakpbjlaa.C
