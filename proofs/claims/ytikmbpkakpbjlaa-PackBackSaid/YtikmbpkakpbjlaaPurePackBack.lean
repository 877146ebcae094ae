/- The law PackBack of package pack: what is packed is unpacked, what is unpacked is packed as the same bytes, and bytes that hold some numbers of a byte or more hold not one number more. For every list, bytes and integers (beyond 400 numbers or 1700 bytes the law asks nothing). -/
import Derived.Test.YtikmbpkakpbjlaaP7
import Derived.Test.YtikmbpkakpbjlaaB
namespace Go.Proofs.Ytikmbpkakpbjlaa.Pure
open Go.RowKit Go.Proofs.Ytikmbpkakpbjlaa.P Go.Proofs.YtikmbpkakpbjlaaW.PrintWords Go.Proofs.YtikmbpkakpbjlaaW.PrintLast Go.Proofs.Ytikmbpkakpbjlaa.A Go.Proofs.Ytikmbpkakpbjlaa.B

theorem PackBack : mooringslaw03_PackBack.Pure := by
  intro l w b n hl1 hl2 hl3 hw hb1 hb2 hb3 hn
  have hw := wf64 hw
  have hn := wf64 hn
  have hb : M.Fit 8 b := fun x hx => by have := wf8 (hb3 x hx); exact ⟨this.1, by omega⟩
  refine ⟨3000, ?_⟩
  unfold mooringslaw03_PackBack.f
  rw [awake (by omega)]
  simp only [Option.bind_some, if_true]
  by_cases hlen : l.length ≤ 400
  · rw [if_neg (by omega)]
    by_cases hblen : b.length ≤ 1700
    · rw [decide_eq_false (by omega)]
      have last : ∀ (is : Bool), (is = true → Ok l w) → mooringslaw03_PackBack.j2 2997 l w (if is = true then B.bytes l w else []) is false = some true := by
        intro is hi
        rw [mooringslaw03_PackBack.j2, if_neg (by decide)]
        cases is with
        | false => rfl
        | true =>
          rw [if_pos rfl, if_pos rfl]
          by_cases c : w < 8
          · rw [if_pos c]
          · have hk := hi rfl
            rw [if_neg c, w64 (by omega) (by omega), unpack_no (bytes_fit l w)]
            · rfl
            · intro hu
              have h1 := size_range hu.1
              have h2 := bytes_length l w
              have e : ((l.length : Int) + 1).toNat = l.length + 1 := by omega
              rw [e, Nat.add_mul] at h1
              omega
      have mid : ∀ (is : Bool), (is = true → Ok l w) → mooringslaw03_PackBack.j1 2998 l w b n (if is = true then B.bytes l w else []) is false = some true := by
        intro is hi
        rw [mooringslaw03_PackBack.j1, if_neg (by decide)]
        by_cases hu : Un b n w
        · have hr := size_range hu.1
          rw [unpack_yes hb hu]
          simp only [Option.bind_some]
          rw [pack_yes (ok_un hu)]
          simp only [Option.bind_some, if_true]
          rw [bytes_un hb hu, if_pos rfl, M.digits_length]
          have : (((n.toNat : Nat) : Int) != n) = false := by simp; omega
          rw [this]
          exact last is hi
        · rw [unpack_no hb hu]
          simp only [Option.bind_some]
          by_cases c : Ok [] w
          · rw [pack_yes c]
            simp only [Option.bind_some]
            rw [if_neg (by decide)]
            exact last is hi
          · rw [pack_no c]
            simp only [Option.bind_some]
            rw [if_neg (by decide)]
            exact last is hi
      rw [mooringslaw03_PackBack.j0, if_neg (by decide)]
      by_cases hk : Ok l w
      · rw [pack_yes hk]
        simp only [Option.bind_some]
        rw [unpack_bytes hk]
        simp only [Option.bind_some]
        rw [ints l l (by omega) (by omega), decide_eq_true rfl]
        simp only [Option.bind_some, if_true]
        rw [Dev.size_eq]
        simp only [Option.bind_some]
        have : (((B.bytes l w).length : Int) != Dev.sizeOf l.length w) = false := by
          rw [bne_eq_false_iff_eq, (un_bytes hk).1]
        rw [this]
        exact mid true (fun _ => hk)
      · rw [pack_no hk]
        simp only [Option.bind_some]
        have hu : ∃ x c, pack_Unpack.f [] l.length w = some (x, c) ∧ x.length ≤ 400 := by
          by_cases c : Un [] l.length w
          · exact ⟨_, _, unpack_yes (fit_nil 8) c, by rw [M.digits_length]; omega⟩
          · exact ⟨_, _, unpack_no (fit_nil 8) c, by simp⟩
        obtain ⟨x, c, hx, hxl⟩ := hu
        rw [hx]
        simp only [Option.bind_some]
        rw [ints x l (by omega) (by omega)]
        simp only [Option.bind_some]
        rw [if_neg (by decide)]
        exact mid false (fun h => by cases h)
    · rw [decide_eq_true (by omega), mooringslaw03_PackBack.j0, if_pos rfl]
  · rw [if_pos (by omega), mooringslaw03_PackBack.j0, if_pos rfl]

end Go.Proofs.Ytikmbpkakpbjlaa.Pure
