/-
  Numbers of few bits as one natural number: what a list of numbers of w bits is, and its digits back. No Go here.
-/
namespace Go.Proofs.Ytikmbpkakpbjlaa.M

/-- The number whose digits, of w bits each and the lowest first, a list holds. -/
def packNum (w : Nat) : List Int → Nat
  | [] => 0
  | n :: l => n.toNat + 2 ^ w * packNum w l
/-- k digits of w bits each of a number, the lowest first. -/
def digits (w : Nat) : Nat → Nat → List Int
  | 0, _ => []
  | k + 1, N => ((N % 2 ^ w : Nat) : Int) :: digits w k (N / 2 ^ w)
/-- Has each number w bits? -/
def Fit (w : Nat) (l : List Int) : Prop := ∀ n ∈ l, 0 ≤ n ∧ n < ((2 ^ w : Nat) : Int)

theorem digits_length (w k N : Nat) : (digits w k N).length = k := by
  induction k generalizing N with
  | zero => rfl
  | succ k ih => simp [digits, ih]
theorem digits_fit (w k N : Nat) : Fit w (digits w k N) := by
  induction k generalizing N with
  | zero => intro n h; simp [digits] at h
  | succ k ih =>
    intro n h
    simp only [digits, List.mem_cons] at h
    rcases h with rfl | h
    · exact ⟨by omega, by have := Nat.mod_lt N (Nat.two_pow_pos w); omega⟩
    · exact ih _ n h
theorem digits_snoc (w k N : Nat) : digits w (k + 1) N = digits w k N ++ [((N / 2 ^ (w * k) % 2 ^ w : Nat) : Int)] := by
  induction k generalizing N with
  | zero => simp [digits]
  | succ k ih =>
    rw [digits, ih, digits, List.cons_append, Nat.div_div_eq_div_mul, ← Nat.pow_add, Nat.mul_succ, Nat.add_comm w]
theorem packNum_snoc (w : Nat) (l : List Int) (n : Int) : packNum w (l ++ [n]) = packNum w l + n.toNat * 2 ^ (w * l.length) := by
  induction l with
  | nil => simp [packNum]
  | cons a l ih =>
    simp only [List.cons_append, packNum, ih, List.length_cons, Nat.mul_succ, Nat.pow_add]
    rw [Nat.mul_add, Nat.add_assoc, Nat.mul_left_comm, Nat.mul_comm (2 ^ (w * l.length))]
theorem packNum_append (w : Nat) (l m : List Int) : packNum w (l ++ m) = packNum w l + 2 ^ (w * l.length) * packNum w m := by
  induction l with
  | nil => simp [packNum]
  | cons a l ih =>
    simp only [List.cons_append, packNum, ih, List.length_cons, Nat.mul_succ, Nat.pow_add]
    rw [Nat.mul_add, Nat.add_assoc, ← Nat.mul_assoc, Nat.mul_comm (2 ^ w) (2 ^ (w * l.length))]
theorem packNum_lt {w : Nat} {l : List Int} (h : Fit w l) : packNum w l < 2 ^ (w * l.length) := by
  induction l with
  | nil => simp [packNum]
  | cons a l ih =>
    have ha := h a (by simp)
    have hl := ih (fun n hn => h n (by simp [hn]))
    simp only [packNum, List.length_cons, Nat.mul_succ, Nat.pow_add]
    have h1 : packNum w l + 1 ≤ 2 ^ (w * l.length) := hl
    have h2 := Nat.mul_le_mul_left (2 ^ w) h1
    rw [Nat.mul_comm (2 ^ (w * l.length))]
    have : a.toNat < 2 ^ w := by omega
    rw [Nat.mul_add] at h2
    omega
theorem packNum_digits (w k N : Nat) : packNum w (digits w k N) = N % 2 ^ (w * k) := by
  induction k generalizing N with
  | zero => simp [digits, packNum, Nat.mod_one]
  | succ k ih =>
    simp only [digits, packNum, ih, Int.toNat_natCast, Nat.mul_succ, Nat.pow_add]
    rw [Nat.mul_comm (2 ^ (w * k)), Nat.mod_mul]
theorem digits_packNum {w : Nat} {l : List Int} (h : Fit w l) (q : Nat) : digits w l.length (packNum w l + 2 ^ (w * l.length) * q) = l := by
  induction l with
  | nil => rfl
  | cons a l ih =>
    have ha := h a (by simp)
    have hl := ih (fun n hn => h n (by simp [hn]))
    have e : packNum w (a :: l) + 2 ^ (w * (a :: l).length) * q = a.toNat + 2 ^ w * (packNum w l + 2 ^ (w * l.length) * q) := by
      simp only [packNum, List.length_cons, Nat.mul_succ, Nat.pow_add]
      rw [Nat.mul_add, Nat.add_assoc, ← Nat.mul_assoc, Nat.mul_comm (2 ^ w) (2 ^ (w * l.length))]
    have hlt : a.toNat < 2 ^ w := by omega
    rw [List.length_cons] at e ⊢
    rw [e, digits, Nat.add_mul_mod_self_left, Nat.mod_eq_of_lt hlt, Nat.add_mul_div_left _ _ (Nat.two_pow_pos w), Nat.div_eq_of_lt hlt, Nat.zero_add, hl]
    congr 1
    omega
theorem digits_packNum' {w : Nat} {l : List Int} (h : Fit w l) : digits w l.length (packNum w l) = l := by
  have := digits_packNum h 0
  simpa using this
theorem digits_mod (w k N : Nat) : digits w k (N % 2 ^ (w * k)) = digits w k N := by
  rw [← packNum_digits]
  have := digits_packNum' (digits_fit w k N)
  rwa [digits_length] at this
end Go.Proofs.Ytikmbpkakpbjlaa.M
namespace Go.Proofs.Ytikmbpkakpbjlaa.M
theorem fill_div (P b h q : Nat) : (P + b * 2 ^ (h + q)) / 2 ^ q = P / 2 ^ q + b * 2 ^ h := by
  rw [Nat.pow_add, ← Nat.mul_assoc, Nat.add_mul_div_right _ _ (Nat.two_pow_pos q)]
theorem fill_lt {P h q : Nat} (hP : P < 2 ^ (h + q)) : P / 2 ^ q < 2 ^ h := by
  rw [Nat.pow_add] at hP
  exact (Nat.div_lt_iff_lt_mul (Nat.two_pow_pos q)).2 hP
theorem take_step (l : List Int) (j : Nat) (hj : j < l.length) : packNum 8 (l.take (j + 1)) = packNum 8 (l.take j) + (l.getD j 0).toNat * 2 ^ (8 * j) := by
  rw [List.take_succ_eq_append_getElem hj, packNum_snoc, List.length_take, Nat.min_eq_left (by omega)]
  simp [List.getD_eq_getElem?_getD, List.getElem?_eq_getElem hj]
theorem take_lt {l : List Int} (h : Fit 8 l) (j : Nat) (hj : j ≤ l.length) : packNum 8 (l.take j) < 2 ^ (8 * j) := by
  have := packNum_lt (w := 8) (l := l.take j) (fun n hn => h n (List.mem_of_mem_take hn))
  rwa [List.length_take, Nat.min_eq_left hj] at this
/-- The next number of w bits, when enough bytes are read. -/
theorem next_num (l : List Int) (w kk j : Nat) (hw : w * (kk + 1) ≤ 8 * j) (hj : j ≤ l.length) :
    packNum 8 l / 2 ^ (w * kk) % 2 ^ w = packNum 8 (l.take j) / 2 ^ (w * kk) % 2 ^ w := by
  obtain ⟨d, hd⟩ : ∃ d, 8 * j = d + w + w * kk := ⟨8 * j - w * (kk + 1), by rw [Nat.mul_succ] at hw ⊢; omega⟩
  have e : packNum 8 l = packNum 8 (l.take j) + (packNum 8 (l.drop j) * 2 ^ d) * 2 ^ (w + w * kk) := by
    have h := packNum_append 8 (l.take j) (l.drop j)
    rw [List.take_append_drop, List.length_take, Nat.min_eq_left hj] at h
    rw [h, hd, Nat.mul_assoc, ← Nat.pow_add, Nat.mul_comm, Nat.add_assoc]
  rw [e, fill_div]
  rw [Nat.add_mul_mod_self_right]
theorem whole_num (l : List Int) (j : Nat) (hj : l.length ≤ j) : packNum 8 (l.take j) = packNum 8 l := by rw [List.take_of_length_le hj]
end Go.Proofs.Ytikmbpkakpbjlaa.M
namespace Go.Proofs.Ytikmbpkakpbjlaa.M
theorem take_step' (w : Nat) (l : List Int) (j : Nat) (hj : j < l.length) : packNum w (l.take (j + 1)) = packNum w (l.take j) + (l.getD j 0).toNat * 2 ^ (w * j) := by
  rw [List.take_succ_eq_append_getElem hj, packNum_snoc, List.length_take, Nat.min_eq_left (by omega)]
  simp [List.getD_eq_getElem?_getD, List.getElem?_eq_getElem hj]
theorem take_lt' {w : Nat} {l : List Int} (h : Fit w l) (j : Nat) (hj : j ≤ l.length) : packNum w (l.take j) < 2 ^ (w * j) := by
  have := packNum_lt (w := w) (l := l.take j) (fun n hn => h n (List.mem_of_mem_take hn))
  rwa [List.length_take, Nat.min_eq_left hj] at this
theorem digits_low (w j P a h : Nat) : digits w j (P + a * 2 ^ (h + w * j)) = digits w j P := by
  rw [← digits_mod w j (P + _), Nat.pow_add, ← Nat.mul_assoc, Nat.add_mul_mod_self_right, digits_mod]
end Go.Proofs.Ytikmbpkakpbjlaa.M
