/- More of bridges' messages: what is parsed may be; what is cut short is none. No program in sight. -/
import Derived.Test.YtbfjlhjfpmgplaaDoorBpduN
namespace Go.Proofs.YtbfjlhjfpmgplaaDoor.P
set_option linter.unusedSimpArgs false
set_option linter.unusedVariables false
open Go Go.RowKit Go.Proofs.YtbfjlhjfpmgplaaDoorW.PrintWords Go.Proofs.YtbfjlhjfpmgplaaDoorW.PrintLast Go.Proofs.YtbfjlhjfpmgplaaDoorW.PrintMore Go.Proofs.YtbfjlhjfpmgplaaDoor.L

theorem told_right {l : List Nat} (hb : Byt l) : (told l).right = true ∧ (told l).root < 18446744073709551616 ∧ (told l).bridge < 18446744073709551616 := by
  have e2 : (256 : Nat) ^ 2 = 65536 := by decide
  have e4 : (256 : Nat) ^ 4 = 4294967296 := by decide
  have e8 : (256 : Nat) ^ 8 = 18446744073709551616 := by decide
  have h1 := numAt_lt hb 8 8
  have h2 := numAt_lt hb 16 4
  have h3 := numAt_lt hb 20 8
  have h4 := numAt_lt hb 28 2
  have h5 := numAt_lt hb 30 2
  have h6 := numAt_lt hb 32 2
  have h7 := numAt_lt hb 34 2
  have h8 := numAt_lt hb 36 2
  refine ⟨Msg.right_iff.2 ?_, by show numAt l 8 8 < _; omega, by show numAt l 20 8 < _; omega⟩
  simp only [told]
  omega
theorem quick_right {m : Msg} (h : m.right = true) (f : Nat) : (quick m f).right = true := by
  obtain ⟨_, h2⟩ := Msg.right_iff.1 h
  refine Msg.right_iff.2 ⟨?_, h2⟩
  simp only [quick]
  omega
/-- What is parsed may be, and has no more bytes. -/
theorem parsed_ok {l : List Nat} (hb : Byt l) {m : Msg} (h : bparse l = (m, 0)) : m.ok = true ∧ m.root < 18446744073709551616 ∧ m.bridge < 18446744073709551616 ∧ m.bytes.length ≤ l.length := by
  unfold bparse at h
  obtain ⟨q1, q2, q3⟩ := told_right hb
  by_cases c1 : l.length < 7
  · rw [if_pos c1] at h
    simp at h
  rw [if_neg c1] at h
  by_cases c2 : l.take 5 ≠ bhead
  · rw [if_pos c2] at h
    simp at h
  rw [if_neg c2] at h
  by_cases c3 : (l.drop 5).take 2 = [0, 128]
  · rw [if_pos c3] at h
    obtain rfl := (Prod.mk.inj h).1
    rw [Msg.bytes_len]
    refine ⟨by decide, by decide, by decide, ?_⟩
    rw [if_pos (show mchange.kind = 128 from rfl)]
    omega
  rw [if_neg c3] at h
  by_cases c4 : (l.drop 5).take 2 = [0, 0]
  · rw [if_pos c4] at h
    by_cases c5 : l.length < 38
    · rw [if_pos c5] at h
      simp at h
    rw [if_neg c5] at h
    obtain rfl := (Prod.mk.inj h).1
    rw [Msg.bytes_len]
    refine ⟨?_, q2, q3, ?_⟩
    · unfold Msg.ok
      rw [if_neg (by simp [told]), if_pos (by simp [told]), q1]
      rfl
    · rw [if_neg (by simp [told]), if_neg (by simp [told])]
      omega
  rw [if_neg c4] at h
  by_cases c6 : (l.drop 5).take 2 = [2, 2]
  · rw [if_pos c6] at h
    by_cases c5 : l.length < 39
    · rw [if_pos c5] at h
      simp at h
    rw [if_neg c5] at h
    obtain rfl := (Prod.mk.inj h).1
    rw [Msg.bytes_len]
    refine ⟨?_, q2, q3, ?_⟩
    · unfold Msg.ok
      rw [if_neg (by simp [quick]), if_neg (by simp [quick]), if_pos (by simp [quick])]
      exact quick_right q1 _
    · rw [if_neg (by simp [quick]), if_pos (by simp [quick])]
      omega
  rw [if_neg c6] at h
  simp at h
/-- What is wrong is told beside no message. -/
theorem parsed_bad {l : List Nat} {m : Msg} {e : Int} (h : bparse l = (m, e)) (he : e ≠ 0) : m = mzero := by
  unfold bparse at h
  repeat' split at h
  all_goals
    obtain ⟨rfl, rfl⟩ := Prod.mk.inj h
    first | rfl | exact absurd rfl he
/-- What is cut short is none. -/
theorem short_msg {m : Msg} (hok : m.ok = true) {k : Nat} (hk : k < m.bytes.length) : bparse (m.bytes.take k) = (mzero, 90) := by
  have hl := Msg.bytes_len (m := m)
  have hlen : (m.bytes.take k).length = k := by
    rw [List.length_take]
    omega
  unfold bparse
  rw [hlen]
  by_cases c1 : k < 7
  · rw [if_pos c1]
  rw [if_neg c1]
  rcases Msg.ok_right hok with ⟨hk1, _⟩ | ⟨hk1, _, _⟩
  · rw [if_pos hk1] at hl
    omega
  · rw [if_neg hk1] at hl
    by_cases h2 : m.kind = 2
    · rw [if_pos h2] at hl
      have e : m.bytes = bhead ++ ([2, 2] ++ ([m.flags] ++ (m.nums ++ [0]))) := by
        unfold Msg.bytes
        rw [if_neg hk1, if_pos h2]
      have t5 : (m.bytes.take k).take 5 = bhead := by
        rw [List.take_take, Nat.min_eq_left (by omega), e]
        rfl
      have t2 : ((m.bytes.take k).drop 5).take 2 = [2, 2] := by
        rw [List.drop_take, List.take_take, Nat.min_eq_left (by omega), e]
        rfl
      rw [if_neg (by simp [t5]), t2, if_neg (by decide), if_neg (by decide), if_pos rfl, if_pos (by omega)]
    · rw [if_neg h2] at hl
      have e : m.bytes = bhead ++ ([0, 0] ++ ([m.flags] ++ m.nums)) := by
        unfold Msg.bytes
        rw [if_neg hk1, if_neg h2]
      have t5 : (m.bytes.take k).take 5 = bhead := by
        rw [List.take_take, Nat.min_eq_left (by omega), e]
        rfl
      have t2 : ((m.bytes.take k).drop 5).take 2 = [0, 0] := by
        rw [List.drop_take, List.take_take, Nat.min_eq_left (by omega), e]
        rfl
      rw [if_neg (by simp [t5]), t2, if_neg (by decide), if_pos rfl, if_pos (by omega)]
end Go.Proofs.YtbfjlhjfpmgplaaDoor.P
