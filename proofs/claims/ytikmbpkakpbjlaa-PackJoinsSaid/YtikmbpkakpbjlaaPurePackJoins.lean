/- The law PackJoins of package pack: the bytes of eight times k numbers and some behind are those of the first and those of the others, one behind the other; noughts of no bits take no byte. For every list and integers (beyond 300 numbers, or k outside 0 to 30 and the list, the law asks nothing). -/
import Derived.Test.YtikmbpkakpbjlaaP8
import Derived.Test.YtikmbpkakpbjlaaB
namespace Go.Proofs.Ytikmbpkakpbjlaa.Pure
open Go.RowKit Go.Proofs.Ytikmbpkakpbjlaa.P Go.Proofs.YtikmbpkakpbjlaaW.PrintWords Go.Proofs.YtikmbpkakpbjlaaW.PrintLast Go.Proofs.Ytikmbpkakpbjlaa.A Go.Proofs.Ytikmbpkakpbjlaa.B

theorem digits_append (w a b N : Nat) : M.digits w (a + b) N = M.digits w a N ++ M.digits w b (N / 2 ^ (w * a)) := by
  induction a generalizing N with
  | zero => simp [M.digits]
  | succ a ih =>
    rw [Nat.succ_add, M.digits, ih, M.digits, List.cons_append, Nat.div_div_eq_div_mul, ← Nat.pow_add, Nat.mul_succ, Nat.add_comm w]
theorem ok_take {l : List Int} {w : Int} (h : Ok l w) (m : Nat) : Ok (l.take m) w ∧ Ok (l.drop m) w :=
  ⟨⟨by rw [List.length_take]; have := h.1; omega, h.2.1, h.2.2.1, fun n hn => h.2.2.2 n (List.mem_of_mem_take hn)⟩,
   ⟨by rw [List.length_drop]; have := h.1; omega, h.2.1, h.2.2.1, fun n hn => h.2.2.2 n (List.mem_of_mem_drop hn)⟩⟩
theorem bytes_join {l : List Int} {w : Int} (h : Ok l w) (k : Nat) (hk : 8 * k ≤ l.length) : B.bytes l w = B.bytes (l.take (8 * k)) w ++ B.bytes (l.drop (8 * k)) w := by
  obtain ⟨h1, h2⟩ := ok_take h (8 * k)
  obtain ⟨v, hv⟩ : ∃ v, w.toNat = v := ⟨_, rfl⟩
  have hlen : (l.take (8 * k)).length = 8 * k := by rw [List.length_take]; omega
  have hp := M.packNum_append v (l.take (8 * k)) (l.drop (8 * k))
  rw [List.take_append_drop, hlen] at hp
  have hlt := M.packNum_lt h1.2.2.2
  rw [hlen] at hlt
  unfold B.bytes
  rw [hv] at hlt ⊢
  rw [hlen, List.length_drop]
  have e1 : (8 * k * v + 7) / 8 = v * k := by rw [Nat.mul_assoc, Nat.mul_comm k]; omega
  have e2 : (l.length * v + 7) / 8 = v * k + ((l.length - 8 * k) * v + 7) / 8 := by
    have : l.length * v = (l.length - 8 * k) * v + 8 * (v * k) := by
      rw [Nat.sub_mul, Nat.mul_assoc 8, Nat.mul_comm k]
      have : 8 * (v * k) ≤ l.length * v := by rw [Nat.mul_comm v k, ← Nat.mul_assoc]; exact Nat.mul_le_mul_right v hk
      omega
    omega
  have e3 : v * (8 * k) = 8 * (v * k) := by rw [Nat.mul_left_comm]
  rw [e3] at hp hlt
  rw [e1, e2, digits_append, hp, Nat.add_mul_div_left _ _ (Nat.two_pow_pos _), Nat.div_eq_of_lt hlt, Nat.zero_add]
  congr 1
  have := M.digits_low 8 (v * k) (M.packNum v (l.take (8 * k))) (M.packNum v (l.drop (8 * k))) 0
  rw [Nat.zero_add] at this
  rw [Nat.mul_comm (2 ^ _), this]
theorem str_append (a b : List Int) : strOfNums (a ++ b) = strOfNums a ++ strOfNums b := by
  have h : (strOfNums a ++ strOfNums b).data.toList = (strOfNums (a ++ b)).data.toList := by
    rw [ByteArray.data_append, Array.toList_append, strOfNums_data, strOfNums_data, strOfNums_data, List.map_append]
  exact (ByteArray.ext (Array.ext' h)).symm
theorem str_size (a : List Int) : (strOfNums a).size = a.length := by
  show (strOfNums a).data.size = _
  rw [← Array.length_toList, strOfNums_data, List.length_map]
theorem PackJoins : mooringslaw03_PackJoins.Pure := by
  intro l w k hl1 hl2 hl3 hw hk
  have hw := wf64 hw
  have hk := wf64 hk
  refine ⟨1000, ?_⟩
  unfold mooringslaw03_PackJoins.f
  rw [awake (by omega)]
  simp only [Option.bind_some, if_true]
  have stop : mooringslaw03_PackJoins.j0 1000 l w k true true = some true := by rw [mooringslaw03_PackJoins.j0, if_pos rfl]
  simp only [stop]
  by_cases hlen : l.length ≤ 300
  · rw [if_neg (by omega)]
    by_cases hk0 : k < 0
    · rw [if_pos hk0]
    · rw [if_neg hk0]
      by_cases hk1 : k > 30
      · rw [if_pos hk1]
      · rw [if_neg hk1, w64 (by omega) (by omega)]
        by_cases hk2 : 8 * k > l.length
        · rw [decide_eq_true hk2, stop]
        · rw [decide_eq_false hk2, mooringslaw03_PackJoins.j0, if_neg (by decide)]
          by_cases ho : Ok l w
          · obtain ⟨m, rfl⟩ := Int.eq_ofNat_of_zero_le (by omega : 0 ≤ k)
            have e : (8 * (m : Int)).toNat = 8 * m := by omega
            obtain ⟨h1, h2⟩ := ok_take ho (8 * m)
            have hw8 : wrap64 (8 * (m : Int)) = 8 * (m : Int) := w64 (by omega) (by omega)
            rw [pack_yes ho, Option.bind_some, if_pos (show (B.bytes l w, true).2 = true from rfl), hw8, if_pos (by omega), if_pos (by omega), e, pack_yes h1, Option.bind_some, pack_yes h2, Option.bind_some,
              if_pos (show (B.bytes (l.take (8 * m)) w, true).2 = true from rfl), if_pos (show (B.bytes (l.drop (8 * m)) w, true).2 = true from rfl)]
            rw [str_size, str_size, if_pos, ← str_append, ← bytes_join ho m (by omega), if_pos (show (strOfNums (B.bytes l w, true).1).toList = _ from rfl)]
            · by_cases c : w > 0
              · rw [if_pos c]
              · rw [if_neg c, bytes_length]
                have : w = 0 := by have := ho.2.1; omega
                subst this
                simp
            · have a1 := ho.1
              have a2 := ho.2.2.1
              rw [bytes_length, bytes_length]
              have b1 : (l.take (8 * m)).length * w.toNat ≤ 400 * 32 := Nat.mul_le_mul h1.1 (by omega)
              have b2 : (l.drop (8 * m)).length * w.toNat ≤ 400 * 32 := Nat.mul_le_mul h2.1 (by omega)
              omega
          · rw [pack_no ho]
            simp only [Option.bind_some, Bool.false_eq_true, if_false]
  · rw [if_pos (by omega)]

end Go.Proofs.Ytikmbpkakpbjlaa.Pure
