/-
  Plain facts on packing and unpacking, and on lists compared: no memory and no Go here.
-/
import Derived.Test.YtikmbpkakpbjlaaA
namespace Go.Proofs.Ytikmbpkakpbjlaa.B
open Go.RowKit Go.Proofs.Ytikmbpkakpbjlaa.P Go.Proofs.YtikmbpkakpbjlaaW.PrintWords Go.Proofs.YtikmbpkakpbjlaaW.PrintLast Go.Proofs.Ytikmbpkakpbjlaa.A

theorem ints_loop (a b : List Int) (he : a.length = b.length) (hlen : a.length ≤ 4611686018427387904) (d : Nat) : ∀ (k i : Nat), i + d = a.length → d < k → mooringsref01_Ints.l0 k a b i = some (decide (a.drop i = b.drop i)) := by
  induction d with
  | zero =>
    intro k i hi hk
    obtain ⟨k, rfl⟩ : ∃ m, k = m + 1 := ⟨k - 1, by omega⟩
    rw [mooringsref01_Ints.l0, if_neg (by omega), List.drop_of_length_le (by omega), List.drop_of_length_le (by omega), decide_eq_true rfl]
  | succ d ih =>
    intro k i hi hk
    obtain ⟨k, rfl⟩ : ∃ m, k = m + 1 := ⟨k - 1, by omega⟩
    have h1 : i < a.length := by omega
    have h2 : i < b.length := by omega
    rw [mooringsref01_Ints.l0, if_pos (by omega), if_pos (by omega), if_pos (by omega), rd_at h1, rd_at h2, List.drop_eq_getElem_cons h1, List.drop_eq_getElem_cons h2]
    by_cases e : a[i] = b[i]
    · rw [if_pos e, w64 (by omega) (by omega), show (i : Int) + 1 = ((i + 1 : Nat) : Int) by omega, ih k (i + 1) (by omega) (by omega)]
      congr 1
      rw [decide_eq_decide, List.cons.injEq]
      exact ⟨fun h => ⟨e, h⟩, fun h => h.2⟩
    · rw [if_neg e, decide_eq_false (fun h => e (List.cons.inj h).1)]
theorem ints (a b : List Int) (hlen : a.length ≤ 4611686018427387904) {k : Nat} (hk : a.length < k) : mooringsref01_Ints.f k a b = some (decide (a = b)) := by
  unfold mooringsref01_Ints.f
  by_cases e : a.length = b.length
  · rw [if_pos (by omega)]
    have := ints_loop a b e hlen a.length k 0 (by omega) hk
    exact this
  · rw [if_neg (by omega), decide_eq_false (fun h => e (by rw [h]))]
theorem str_inj {a b : List Int} (ha : M.Fit 8 a) (hb : M.Fit 8 b) : (strOfNums a).toList = (strOfNums b).toList ↔ a = b := by
  constructor
  · intro h
    have h2 : (strOfNums a).data.toList = (strOfNums b).data.toList := by rw [← ByteArray.toList_eq, ← ByteArray.toList_eq]; exact h
    rw [strOfNums_data, strOfNums_data] at h2
    have key : ∀ l : List Int, M.Fit 8 l → (l.map fun n => UInt8.ofNat n.toNat).map (fun u : UInt8 => (u.toNat : Int)) = l := by
      intro l hl
      rw [List.map_map]
      refine (List.map_congr_left (fun n hn => ?_)).trans (List.map_id l)
      obtain ⟨h0, h1⟩ := hl n hn
      simp only [Function.comp, UInt8.toNat_ofNat', id]
      have : n.toNat < 256 := by omega
      rw [Nat.mod_eq_of_lt (by omega)]
      omega
    rw [← key a ha, ← key b hb, h2]
  · rintro rfl; rfl

/-! packing -/
/-- Can numbers be packed by this width? -/
def Ok (l : List Int) (w : Int) : Prop := l.length ≤ 400 ∧ 0 ≤ w ∧ w ≤ 32 ∧ M.Fit w.toNat l
def bytes (l : List Int) (w : Int) : List Int := M.digits 8 ((l.length * w.toNat + 7) / 8) (M.packNum w.toNat l)
theorem pack_yes {l : List Int} {w : Int} (h : Ok l w) : pack_Pack.f l w = some (bytes l w, true) := by unfold Ok at h; unfold pack_Pack.f; rw [if_pos h]; rfl
theorem pack_no {l : List Int} {w : Int} (h : ¬ Ok l w) : pack_Pack.f l w = some ([], false) := by unfold Ok at h; unfold pack_Pack.f; rw [if_neg h]
theorem bytes_fit (l : List Int) (w : Int) : M.Fit 8 (bytes l w) := M.digits_fit _ _ _
theorem bytes_length (l : List Int) (w : Int) : (bytes l w).length = (l.length * w.toNat + 7) / 8 := M.digits_length _ _ _
theorem fit_nil (w : Nat) : M.Fit w [] := fun n hn => by simp at hn
theorem packNum_bytes {l : List Int} {w : Int} (h : Ok l w) : M.packNum 8 (bytes l w) = M.packNum w.toNat l := by
  unfold bytes
  rw [M.packNum_digits, Nat.mod_eq_of_lt]
  have := M.packNum_lt h.2.2.2
  refine Nat.lt_of_lt_of_le this (Nat.pow_le_pow_right (by omega) ?_)
  rw [Nat.mul_comm w.toNat]
  omega
/-- Does a list of bytes hold n numbers of w bits? -/
def Un (b : List Int) (n w : Int) : Prop := Dev.sizeOf n w = b.length ∧ M.packNum 8 b < 2 ^ (w.toNat * n.toNat)
theorem unpack_yes {b : List Int} {n w : Int} (hb : M.Fit 8 b) (h : Un b n w) : pack_Unpack.f b n w = some (M.digits w.toNat n.toNat (M.packNum 8 b), true) := by
  unfold Un at h; unfold pack_Unpack.f; rw [if_pos hb, if_pos h]
theorem unpack_no {b : List Int} {n w : Int} (hb : M.Fit 8 b) (h : ¬ Un b n w) : pack_Unpack.f b n w = some ([], false) := by
  unfold Un at h; unfold pack_Unpack.f; rw [if_pos hb, if_neg h]
theorem size_range {n w : Int} {b : List Int} (h : Dev.sizeOf n w = b.length) : 0 ≤ n ∧ n ≤ 400 ∧ 0 ≤ w ∧ w ≤ 32 ∧ (n.toNat * w.toNat + 7) / 8 = b.length := by
  unfold Dev.sizeOf at h
  split at h
  · rename_i hr
    obtain ⟨a, rfl⟩ := Int.eq_ofNat_of_zero_le hr.1
    obtain ⟨c, rfl⟩ := Int.eq_ofNat_of_zero_le hr.2.2.1
    refine ⟨hr.1, hr.2.1, hr.2.2.1, hr.2.2.2, ?_⟩
    rw [Int.toNat_natCast, Int.toNat_natCast]
    exact_mod_cast h
  · omega
theorem size_of_ok {n w : Int} (h : 0 ≤ n ∧ n ≤ 400 ∧ 0 ≤ w ∧ w ≤ 32) : Dev.sizeOf n w = (((n.toNat * w.toNat + 7) / 8 : Nat) : Int) := by
  obtain ⟨a, rfl⟩ := Int.eq_ofNat_of_zero_le h.1
  obtain ⟨c, rfl⟩ := Int.eq_ofNat_of_zero_le h.2.2.1
  unfold Dev.sizeOf
  rw [if_pos h, Int.toNat_natCast, Int.toNat_natCast]
  push_cast; rfl
/-- What is packed holds the numbers. -/
theorem un_bytes {l : List Int} {w : Int} (h : Ok l w) : Un (bytes l w) l.length w := by
  refine ⟨?_, ?_⟩
  · rw [size_of_ok ⟨by omega, by have := h.1; omega, h.2.1, h.2.2.1⟩, bytes_length, Int.toNat_natCast]
  · rw [packNum_bytes h, Int.toNat_natCast]
    exact M.packNum_lt h.2.2.2
theorem unpack_bytes {l : List Int} {w : Int} (h : Ok l w) : pack_Unpack.f (bytes l w) l.length w = some (l, true) := by
  rw [unpack_yes (bytes_fit l w) (un_bytes h), packNum_bytes h, Int.toNat_natCast, M.digits_packNum' h.2.2.2]
/-- What is unpacked is packed as the same bytes. -/
theorem ok_un {b : List Int} {n w : Int} (h : Un b n w) : Ok (M.digits w.toNat n.toNat (M.packNum 8 b)) w := by
  have hr := size_range h.1
  exact ⟨by rw [M.digits_length]; omega, hr.2.2.1, hr.2.2.2.1, M.digits_fit _ _ _⟩
theorem bytes_un {b : List Int} {n w : Int} (hb : M.Fit 8 b) (h : Un b n w) : bytes (M.digits w.toNat n.toNat (M.packNum 8 b)) w = b := by
  have hr := size_range h.1
  unfold bytes
  rw [M.digits_length, hr.2.2.2.2, M.packNum_digits, Nat.mod_eq_of_lt h.2, M.digits_packNum' hb]
theorem bytes_inj {l m : List Int} {w : Int} (hl : Ok l w) (hm : Ok m w) (he : l.length = m.length) (h : bytes l w = bytes m w) : l = m := by
  have h1 := unpack_bytes hl
  have h2 := unpack_bytes hm
  rw [h, he, h2] at h1
  exact (Prod.mk.inj (Option.some.inj h1)).1.symm
end Go.Proofs.Ytikmbpkakpbjlaa.B
