/-
  Plain facts on the Lean functions that stand for package pack's: no memory and no Go here.
-/
import Derived.Test.YtikmbpkakpbjlaaP2
import Derived.Test.YtikmbpkakpbjlaaP5
import Derived.Test.YtikmbpkakpbjlaaMath
import Derived.OpenShut
import Derived.Laws.Bits64
namespace Go.Proofs.Ytikmbpkakpbjlaa.A
open Go.RowKit Go.Proofs.Ytikmbpkakpbjlaa.P Go.Proofs.YtikmbpkakpbjlaaW.PrintWords Go.Proofs.YtikmbpkakpbjlaaW.PrintLast

theorem up {α : Type} {f : Nat → Option α} (h : ∀ k, LeO (f k) (f (k + 1))) {k n : Nat} {r : α} (hk : k ≤ n) (hr : f k = some r) : f n = some r := by
  obtain ⟨d, rfl⟩ := Nat.le.dest hk
  clear hk
  induction d with
  | zero => exact hr
  | succ d ih => exact h _ _ ih
theorem awake {k : Nat} (hk : 8 ≤ k) : mooringslaw03_awake.f k = some true := up mooringslaw03_awake.mono hk (by decide +kernel)
theorem wf64 {x : Int} (h : (Lit.int .i64 x).wf = true) : -9223372036854775808 ≤ x ∧ x ≤ 9223372036854775807 := Go.bounds_i64 h
theorem wf8 {x : Int} (h : (Lit.int .u8 x).wf = true) : 0 ≤ x ∧ x ≤ 255 := Go.bounds_u8 h
theorem w64 {x : Int} (h0 : -9223372036854775808 ≤ x) (h1 : x ≤ 9223372036854775807) : wrap64 x = x := by unfold wrap64; omega

/-! bits.Len64 -/
def tab : ByteArray := ⟨#[0, 1, 2, 2, 3, 3, 3, 3, 4, 4, 4, 4, 4, 4, 4, 4, 5, 5, 5, 5, 5, 5, 5, 5, 5, 5, 5, 5, 5, 5, 5, 5, 6, 6, 6, 6, 6, 6, 6, 6, 6, 6, 6, 6, 6, 6, 6, 6, 6, 6, 6, 6, 6, 6, 6, 6, 6, 6, 6, 6, 6, 6, 6, 6, 7, 7, 7, 7, 7, 7, 7, 7, 7, 7, 7, 7, 7, 7, 7, 7, 7, 7, 7, 7, 7, 7, 7, 7, 7, 7, 7, 7, 7, 7, 7, 7, 7, 7, 7, 7, 7, 7, 7, 7, 7, 7, 7, 7, 7, 7, 7, 7, 7, 7, 7, 7, 7, 7, 7, 7, 7, 7, 7, 7, 7, 7, 7, 7, 8, 8, 8, 8, 8, 8, 8, 8, 8, 8, 8, 8, 8, 8, 8, 8, 8, 8, 8, 8, 8, 8, 8, 8, 8, 8, 8, 8, 8, 8, 8, 8, 8, 8, 8, 8, 8, 8, 8, 8, 8, 8, 8, 8, 8, 8, 8, 8, 8, 8, 8, 8, 8, 8, 8, 8, 8, 8, 8, 8, 8, 8, 8, 8, 8, 8, 8, 8, 8, 8, 8, 8, 8, 8, 8, 8, 8, 8, 8, 8, 8, 8, 8, 8, 8, 8, 8, 8, 8, 8, 8, 8, 8, 8, 8, 8, 8, 8, 8, 8, 8, 8, 8, 8, 8, 8, 8, 8, 8, 8, 8, 8, 8, 8, 8, 8, 8, 8, 8, 8, 8, 8, 8, 8, 8, 8, 8, 8]⟩
theorem tab_size : tab.size = 256 := by decide +kernel
theorem tab_tells : ∀ i, i < 256 → i < 2 ^ (tab.data[i]!).toNat ∧ ((tab.data[i]!).toNat = 0 ∨ 2 ^ ((tab.data[i]!).toNat - 1) ≤ i) ∧ (tab.data[i]!).toNat ≤ 8 := by decide +kernel
set_option maxRecDepth 100000 in
theorem j0_eq (k : Nat) (x0 x2 : Int) : bits_Len64.j0 (k + 1) x0 x2 = if x0 ≥ 65536 then (if (x0 / 65536) ≥ 256 then (if 0 ≤ (((x0 / 65536) / 256) % 256) then (if (((x0 / 65536) / 256) % 256) < 256 then (some (wrap64 ((wrap64 ((wrap64 (x2 + 16)) + 8)) + (wrap64 (bt tab (((x0 / 65536) / 256) % 256)))))) else (none)) else (none)) else (if 0 ≤ ((x0 / 65536) % 256) then (if ((x0 / 65536) % 256) < 256 then (some (wrap64 ((wrap64 (x2 + 16)) + (wrap64 (bt tab ((x0 / 65536) % 256)))))) else (none)) else (none))) else (if x0 ≥ 256 then (if 0 ≤ ((x0 / 256) % 256) then (if ((x0 / 256) % 256) < 256 then (some (wrap64 ((wrap64 (x2 + 8)) + (wrap64 (bt tab ((x0 / 256) % 256)))))) else (none)) else (none)) else (if 0 ≤ ((x0) % 256) then (if ((x0) % 256) < 256 then (some (wrap64 (x2 + (wrap64 (bt tab ((x0) % 256)))))) else (none)) else (none))) := rfl
attribute [irreducible] tab
/-- r is how many bits x has. -/
def IsLen (x r : Int) : Prop := 0 ≤ r ∧ r ≤ 64 ∧ x < 2 ^ r.toNat ∧ (r = 0 ∨ 2 ^ (r.toNat - 1) ≤ x)
theorem tab_len {y : Int} (h0 : 0 ≤ y) (h1 : y < 256) : IsLen y (bt tab y) ∧ bt tab y ≤ 8 ∧ (0 < y → 0 < bt tab y) := by
  obtain ⟨n, rfl⟩ := Int.eq_ofNat_of_zero_le h0
  have hn : n < 256 := by omega
  obtain ⟨a, b, c⟩ := tab_tells n hn
  have hb : bt tab (n : Int) = ((tab.data[n]!).toNat : Int) := by
    have hs : (n : Int).toNat < tab.size := by rw [tab_size]; omega
    rw [← bt_at tab n hs]
    simp only [Int.toNat_natCast]
    rw [getElem!_pos tab.data n (by rw [show tab.data.size = 256 from tab_size]; exact hn)]
    rfl
  rw [hb]
  refine ⟨⟨by omega, by omega, ?_, ?_⟩, by omega, fun hp => ?_⟩
  · rw [Int.toNat_natCast]; exact_mod_cast a
  · rcases b with b | b
    · left; rw [b]; rfl
    · right; rw [Int.toNat_natCast]; exact_mod_cast b
  · have : (tab.data[n]!).toNat ≠ 0 := fun e => by rw [e] at a; omega
    omega
theorem IsLen.shift {x t : Int} {s : Nat} (h : IsLen (x / 2 ^ s) t) (ht : 0 < t ∨ s = 0) (hb : s + t ≤ 64) : IsLen x (s + t) := by
  obtain ⟨h0, h1, h2, h3⟩ := h
  have hp : (0 : Int) < 2 ^ s := Int.pow_pos (by omega)
  have e : ((s : Int) + t).toNat = s + t.toNat := by omega
  refine ⟨by omega, hb, ?_, ?_⟩
  · rw [e, Int.pow_add, Int.mul_comm]
    exact (Int.ediv_lt_iff_lt_mul hp).1 h2
  · rcases h3 with h3 | h3
    · rcases ht with ht | ht
      · omega
      · left; omega
    · by_cases ht0 : t = 0
      · rcases ht with ht | ht
        · omega
        · left; omega
      · right
        rw [e, show s + t.toNat - 1 = (t.toNat - 1) + s by omega, Int.pow_add]
        exact (Int.le_ediv_iff_mul_le hp).1 h3
theorem len_j {k : Nat} {x b : Int} (h0 : 0 ≤ x) (h1 : x < 4294967296) (hb : 0 ≤ b) (hb2 : b ≤ 32) : ∃ r, bits_Len64.j0 (k + 1) x b = some (b + r) ∧ IsLen x r ∧ r ≤ 32 ∧ (0 < x → 0 < r) := by
  have key : ∀ (s : Nat) (y : Int), s ≤ 24 → x / 2 ^ s = y → 0 ≤ y → y < 256 → (0 < y ∨ s = 0) → IsLen x (s + bt tab y) ∧ (s : Int) + bt tab y ≤ 32 ∧ (0 < x → 0 < (s : Int) + bt tab y) := by
    intro s y hs hy y0 y1 hys
    obtain ⟨a, c, d⟩ := tab_len y0 y1
    refine ⟨IsLen.shift (by rw [hy]; exact a) (hys.imp d id) (by omega), by omega, fun hx => ?_⟩
    rcases hys with h | h
    · have := d h; omega
    · subst h
      rw [Int.pow_zero, Int.ediv_one] at hy
      have := d (by omega); omega
  rw [j0_eq]
  by_cases c1 : x ≥ 65536
  · rw [if_pos c1]
    by_cases c2 : x / 65536 ≥ 256
    · rw [if_pos c2, if_pos (by omega), if_pos (by omega)]
      have hk := key 24 (x / 65536 / 256 % 256) (by omega) (by omega) (by omega) (by omega) (by omega)
      refine ⟨24 + bt tab (x / 65536 / 256 % 256), ?_, hk⟩
      have hr := bt_range tab (x / 65536 / 256 % 256)
      congr 1
      show wrap64 (wrap64 (wrap64 (b + 16) + 8) + wrap64 (bt tab (x / 65536 / 256 % 256))) = _
      unfold wrap64; omega
    · rw [if_neg c2, if_pos (by omega), if_pos (by omega)]
      have hk := key 16 (x / 65536 % 256) (by omega) (by omega) (by omega) (by omega) (by omega)
      refine ⟨16 + bt tab (x / 65536 % 256), ?_, hk⟩
      have hr := bt_range tab (x / 65536 % 256)
      congr 1
      show wrap64 (wrap64 (b + 16) + wrap64 (bt tab (x / 65536 % 256))) = _
      unfold wrap64; omega
  · rw [if_neg c1]
    by_cases c2 : x ≥ 256
    · rw [if_pos c2, if_pos (by omega), if_pos (by omega)]
      have hk := key 8 (x / 256 % 256) (by omega) (by omega) (by omega) (by omega) (by omega)
      refine ⟨8 + bt tab (x / 256 % 256), ?_, hk⟩
      have hr := bt_range tab (x / 256 % 256)
      congr 1
      show wrap64 (wrap64 (b + 8) + wrap64 (bt tab (x / 256 % 256))) = _
      unfold wrap64; omega
    · rw [if_neg c2, if_pos (by omega), if_pos (by omega)]
      have hk := key 0 (x % 256) (by omega) (by omega) (by omega) (by omega) (by omega)
      refine ⟨0 + bt tab (x % 256), ?_, hk⟩
      have hr := bt_range tab (x % 256)
      congr 1
      show wrap64 (b + wrap64 (bt tab (x % 256))) = _
      unfold wrap64; omega
theorem len64 {k : Nat} (hk : 0 < k) {x : Int} (h0 : 0 ≤ x) (h1 : x < 18446744073709551616) : ∃ r, bits_Len64.f k x = some r ∧ IsLen x r := by
  obtain ⟨k, rfl⟩ : ∃ m, k = m + 1 := ⟨k - 1, by omega⟩
  unfold bits_Len64.f
  by_cases c : x ≥ 4294967296
  · rw [if_pos c]
    obtain ⟨r, hr, hl, hr2, hp⟩ := len_j (k := k) (x := x / 4294967296) (b := 32) (by omega) (by omega) (by omega) (by omega)
    exact ⟨_, hr, IsLen.shift (s := 32) hl (.inl (hp (by omega))) (by omega)⟩
  · rw [if_neg c]
    obtain ⟨r, hr, hl, hr2, hp⟩ := len_j (k := k) (x := x) (b := 0) (by omega) (by omega) (by omega) (by omega)
    exact ⟨_, hr, by rw [Int.zero_add]; exact hl⟩

/-! pack.Width, and the document's -/
def Least (l : List Int) (r : Int) : Prop := 0 ≤ r ∧ r ≤ 32 ∧ M.Fit r.toNat l ∧ ∀ w : Nat, (w : Int) < r → ¬ M.Fit w l
def IsWidth (l : List Int) (r : Int) : Prop := (r = -1 ∧ ¬ M.Fit 32 l) ∨ Least l r
theorem fit_mono {a b : Nat} {l : List Int} (h : M.Fit a l) (hab : a ≤ b) : M.Fit b l := fun n hn =>
  ⟨(h n hn).1, Int.lt_of_lt_of_le (h n hn).2 (by exact_mod_cast Nat.pow_le_pow_right (by omega) hab)⟩
theorem IsWidth.unique {l : List Int} {r s : Int} (h : IsWidth l r) (k : IsWidth l s) : r = s := by
  rcases h with ⟨rfl, h⟩ | ⟨h0, h1, h2, h3⟩ <;> rcases k with ⟨rfl, k⟩ | ⟨k0, k1, k2, k3⟩
  · rfl
  · exact absurd (fit_mono k2 (by omega)) h
  · exact absurd (fit_mono h2 (by omega)) k
  · rcases Int.lt_trichotomy r s with c | c | c
    · exact absurd h2 (k3 r.toNat (by omega))
    · exact c
    · exact absurd k2 (h3 s.toNat (by omega))
theorem rd_at {l : List Int} {i : Nat} (h : i < l.length) : rd l i = l[i] := by simp [rd, List.getD_eq_getElem?_getD, List.getElem?_eq_getElem h]
theorem fit_snoc {w : Nat} {l : List Int} {i : Nat} (h : i < l.length) : M.Fit w (l.take (i + 1)) ↔ M.Fit w (l.take i) ∧ 0 ≤ l[i] ∧ l[i] < ((2 ^ w : Nat) : Int) := by
  rw [List.take_succ_eq_append_getElem h]
  constructor
  · intro hf
    exact ⟨fun n hn => hf n (List.mem_append_left _ hn), hf _ (List.mem_append_right _ (List.mem_singleton.2 rfl))⟩
  · rintro ⟨hf, hx⟩ n hn
    rcases List.mem_append.1 hn with hn | hn
    · exact hf n hn
    · simp at hn; subst hn; exact hx
theorem width_loop (l : List Int) (hl : ∀ x ∈ l, -9223372036854775808 ≤ x ∧ x ≤ 9223372036854775807) (hlen : l.length ≤ 4611686018427387904) (d : Nat) : ∀ (k i : Nat) (cur : Int), i + d = l.length → d < k → Least (l.take i) cur →
    ∃ r, pack_Width.l0 k cur l l.length i = some r ∧ IsWidth l r := by
  induction d with
  | zero =>
    intro k i cur hi hk hc
    obtain ⟨k, rfl⟩ : ∃ m, k = m + 1 := ⟨k - 1, by omega⟩
    refine ⟨cur, by rw [pack_Width.l0, if_neg (by omega)], .inr ?_⟩
    rwa [List.take_of_length_le (by omega)] at hc
  | succ d ih =>
    intro k i cur hi hk hc
    obtain ⟨k, rfl⟩ : ∃ m, k = m + 1 := ⟨k - 1, by omega⟩
    have hlt : i < l.length := by omega
    have hb := hl _ (List.getElem_mem hlt)
    obtain ⟨n, hn⟩ : ∃ n, l[i] = n := ⟨_, rfl⟩
    have hmem : n ∈ l := hn ▸ List.getElem_mem hlt
    rw [hn] at hb
    have hw0 : 0 ≤ IntKind.u64.wrap n ∧ IntKind.u64.wrap n < 18446744073709551616 := by rw [IntKind.wrap_u64]; omega
    obtain ⟨t, ht, hl1, hl2, hl3, hl4⟩ := len64 (k := k) (by omega) hw0.1 hw0.2
    rw [pack_Width.l0, if_pos (by omega), if_pos (by omega), if_pos (by omega), rd_at hlt, hn, ht]
    simp only [Option.bind_some]
    by_cases hneg : n < 0
    · rw [if_pos hneg]
      exact ⟨-1, rfl, .inl ⟨rfl, fun hf => by have := (hf n hmem).1; omega⟩⟩
    · rw [if_neg hneg]
      have hwn : IntKind.u64.wrap n = n := by rw [IntKind.wrap_u64]; omega
      rw [hwn] at hl3 hl4
      by_cases hbig : t > 32
      · rw [if_pos hbig]
        refine ⟨-1, rfl, .inl ⟨rfl, fun hf => ?_⟩⟩
        have h1 := (hf n hmem).2
        rcases hl4 with h | h
        · omega
        · have h2 : (2 : Nat) ^ 32 ≤ 2 ^ (t.toNat - 1) := Nat.pow_le_pow_right (by omega) (by omega)
          have h3 : ((2 ^ 32 : Nat) : Int) ≤ ((2 ^ (t.toNat - 1) : Nat) : Int) := by exact_mod_cast h2
          have h4 : ((2 ^ (t.toNat - 1) : Nat) : Int) ≤ n := by exact_mod_cast h
          omega
      · rw [if_neg hbig, w64 (by omega) (by omega)]
        have hcast : (i : Int) + 1 = ((i + 1 : Nat) : Int) := by omega
        rw [hcast]
        refine ih k (i + 1) (mx cur t) (by omega) (by omega) ?_
        obtain ⟨c0, c1, c2, c3⟩ := hc
        have ht2 : n < ((2 ^ t.toNat : Nat) : Int) := by exact_mod_cast hl3
        unfold mx
        by_cases hm : cur < t
        · rw [if_pos hm]
          refine ⟨by omega, by omega, (fit_snoc hlt).2 ⟨fit_mono c2 (by omega), by omega, by rw [hn]; exact ht2⟩, fun w hw hf => ?_⟩
          have h1 := ((fit_snoc hlt).1 hf).2.2
          rw [hn] at h1
          rcases hl4 with h | h
          · omega
          · have h2 : (2 : Nat) ^ w ≤ 2 ^ (t.toNat - 1) := Nat.pow_le_pow_right (by omega) (by omega)
            have h3 : ((2 ^ w : Nat) : Int) ≤ ((2 ^ (t.toNat - 1) : Nat) : Int) := by exact_mod_cast h2
            have h4 : ((2 ^ (t.toNat - 1) : Nat) : Int) ≤ n := by exact_mod_cast h
            omega
        · rw [if_neg hm]
          have h2 : (2 : Nat) ^ t.toNat ≤ 2 ^ cur.toNat := Nat.pow_le_pow_right (by omega) (by omega)
          have h3 : ((2 ^ t.toNat : Nat) : Int) ≤ ((2 ^ cur.toNat : Nat) : Int) := by exact_mod_cast h2
          exact ⟨c0, c1, (fit_snoc hlt).2 ⟨c2, by omega, by rw [hn]; omega⟩, fun w hw hf => c3 w hw ((fit_snoc hlt).1 hf).1⟩
theorem width (l : List Int) (hl : ∀ x ∈ l, -9223372036854775808 ≤ x ∧ x ≤ 9223372036854775807) (hlen : l.length ≤ 4611686018427387904) {k : Nat} (hk : l.length < k) : ∃ r, pack_Width.f k l = some r ∧ IsWidth l r := by
  unfold pack_Width.f
  exact width_loop l hl hlen l.length k 0 0 (by omega) hk ⟨by omega, by omega, by intro n hn; simp at hn, fun w hw => by omega⟩

/-! the document's numbers -/
theorem pow_loop (w : Nat) (hw : w ≤ 62) (d : Nat) : ∀ (k i : Nat), i + d = w → d < k → mooringsref03_pow.l0 k w ((2 ^ i : Nat) : Int) i = some ((2 ^ w : Nat) : Int) := by
  induction d with
  | zero =>
    intro k i hi hk
    obtain ⟨k, rfl⟩ : ∃ m, k = m + 1 := ⟨k - 1, by omega⟩
    obtain rfl : i = w := by omega
    rw [mooringsref03_pow.l0, if_neg (by omega)]
  | succ d ih =>
    intro k i hi hk
    obtain ⟨k, rfl⟩ : ∃ m, k = m + 1 := ⟨k - 1, by omega⟩
    have h2 : (2 : Nat) ^ (i + 1) ≤ 2 ^ 62 := Nat.pow_le_pow_right (by omega) (by omega)
    have := ih k (i + 1) (by omega) (by omega)
    rw [Nat.pow_succ] at h2 this
    generalize 2 ^ i = p at h2 this ⊢
    rw [mooringsref03_pow.l0, if_pos (by omega), w64 (x := 2 * _) (by omega) (by omega), w64 (by omega) (by omega)]
    rw [show ((p * 2 : Nat) : Int) = 2 * (p : Int) by omega, show ((i + 1 : Nat) : Int) = (i : Int) + 1 by omega] at this
    exact this
theorem pow {w : Nat} (hw : w ≤ 62) {k : Nat} (hk : w < k) : mooringsref03_pow.f k w = some ((2 ^ w : Nat) : Int) := by
  unfold mooringsref03_pow.f
  have := pow_loop w hw w k 0 (by omega) hk
  exact this
theorem fits_loop (l : List Int) (w : Nat) (hw : w ≤ 32) (hlen : l.length ≤ 4611686018427387904) (d : Nat) : ∀ (k i : Nat), i + d = l.length → d + 64 < k → M.Fit w (l.take i) → mooringsref03_Fits.l0 k l w i = some (decide (M.Fit w l)) := by
  induction d with
  | zero =>
    intro k i hi hk hf
    obtain ⟨k, rfl⟩ : ∃ m, k = m + 1 := ⟨k - 1, by omega⟩
    rw [mooringsref03_Fits.l0, if_neg (by omega)]
    rw [List.take_of_length_le (by omega)] at hf
    rw [decide_eq_true hf]
  | succ d ih =>
    intro k i hi hk hf
    obtain ⟨k, rfl⟩ : ∃ m, k = m + 1 := ⟨k - 1, by omega⟩
    have hlt : i < l.length := by omega
    rw [mooringsref03_Fits.l0, if_pos (by omega), if_pos (by omega), rd_at hlt]
    have hmem := List.getElem_mem hlt
    by_cases h0 : l[i] < 0
    · rw [if_pos h0, decide_eq_false (fun hf => by have := (hf _ hmem).1; omega)]
    · rw [if_neg h0, pow (by omega) (by omega)]
      simp only [Option.bind_some]
      by_cases h1 : l[i] ≥ ((2 ^ w : Nat) : Int)
      · rw [if_pos h1, decide_eq_false (fun hf => by have := (hf _ hmem).2; omega)]
      · rw [if_neg h1, w64 (by omega) (by omega)]
        have := ih k (i + 1) (by omega) (by omega) ((fit_snoc hlt).2 ⟨hf, by omega, by omega⟩)
        push_cast at this
        exact this
theorem fits (l : List Int) (w : Int) (hlen : l.length ≤ 4611686018427387904) {k : Nat} (hk : l.length + 70 < k) : mooringsref03_Fits.f k l w = some (decide (0 ≤ w ∧ w ≤ 32 ∧ M.Fit w.toNat l)) := by
  obtain ⟨k, rfl⟩ : ∃ m, k = m + 1 := ⟨k - 1, by omega⟩
  unfold mooringsref03_Fits.f
  by_cases c1 : w < 0
  · rw [if_pos c1, mooringsref03_Fits.j0, if_pos rfl, decide_eq_false (by omega)]
  · rw [if_neg c1]
    by_cases c2 : w > 32
    · rw [decide_eq_true c2, mooringsref03_Fits.j0, if_pos rfl, decide_eq_false (by omega)]
    · obtain ⟨n, rfl⟩ := Int.eq_ofNat_of_zero_le (by omega : 0 ≤ w)
      rw [decide_eq_false c2, mooringsref03_Fits.j0, if_neg (by decide), Int.toNat_natCast]
      have := fits_loop l n (by omega) hlen l.length k 0 (by omega) (by omega) (by intro n hn; simp at hn)
      rw [show ((0 : Nat) : Int) = 0 from rfl] at this
      rw [this]
      congr 1
      rw [decide_eq_decide]
      exact ⟨fun h => ⟨by omega, by omega, h⟩, fun h => h.2.2⟩
theorem rwidth_loop (l : List Int) (hlen : l.length ≤ 4611686018427387904) (d : Nat) : ∀ (k w : Nat), w + d = 33 → l.length + 70 + d < k → (∀ v : Nat, v < w → ¬ M.Fit v l) → ∃ r, mooringsref03_Width.l0 k l w = some r ∧ IsWidth l r := by
  induction d with
  | zero =>
    intro k w hw hk hv
    obtain ⟨k, rfl⟩ : ∃ m, k = m + 1 := ⟨k - 1, by omega⟩
    exact ⟨-1, by rw [mooringsref03_Width.l0, if_neg (by omega)], .inl ⟨rfl, hv 32 (by omega)⟩⟩
  | succ d ih =>
    intro k w hw hk hv
    obtain ⟨k, rfl⟩ : ∃ m, k = m + 1 := ⟨k - 1, by omega⟩
    rw [mooringsref03_Width.l0, if_pos (by omega), fits l w hlen (by omega)]
    simp only [Option.bind_some]
    rw [Int.toNat_natCast]
    by_cases hf : M.Fit w l
    · rw [decide_eq_true ⟨by omega, by omega, hf⟩, if_pos rfl]
      exact ⟨w, rfl, .inr ⟨by omega, by omega, by rwa [Int.toNat_natCast], fun v hvw => hv v (by omega)⟩⟩
    · rw [decide_eq_false (fun h => hf h.2.2), if_neg (by decide), w64 (by omega) (by omega)]
      have := ih k (w + 1) (by omega) (by omega) (fun v hvw => by
        by_cases e : v = w
        · subst e; exact hf
        · exact hv v (by omega))
      push_cast at this
      exact this
theorem rwidth (l : List Int) (hlen : l.length ≤ 4611686018427387904) {k : Nat} (hk : l.length + 110 < k) : ∃ r, mooringsref03_Width.f k l = some r ∧ IsWidth l r := by
  unfold mooringsref03_Width.f
  exact rwidth_loop l hlen 33 k 0 (by omega) (by omega) (fun v hv => by omega)
end Go.Proofs.Ytikmbpkakpbjlaa.A
