/- What the document's functions of bpdu compute: the same as the program's. -/
import Derived.Test.YtbfjlhjfpmgplaaDoorPx9
import Derived.Test.YtbfjlhjfpmgplaaDoorPx10
import Derived.Test.YtbfjlhjfpmgplaaDoorPx11
import Derived.Test.YtbfjlhjfpmgplaaDoorPx12
import Derived.Test.YtbfjlhjfpmgplaaDoorBpduFixed
namespace Go.Proofs.YtbfjlhjfpmgplaaDoor.P
set_option linter.unusedSimpArgs false
set_option linter.unusedVariables false
open Go Go.RowKit Go.Proofs.YtbfjlhjfpmgplaaDoorW.PrintWords Go.Proofs.YtbfjlhjfpmgplaaDoorW.PrintLast Go.Proofs.YtbfjlhjfpmgplaaDoorW.PrintMore Go.Proofs.YtbfjlhjfpmgplaaDoor.L

theorem word_eq (a : Int) : gangwayref09_word.f a = some (decide (0 ≤ a ∧ a ≤ 65535)) := by
  unfold gangwayref09_word.f
  by_cases h : 0 ≤ a
  · rw [if_pos h]
    congr 1
    rw [Bool.eq_iff_iff, decide_eq_true_eq, decide_eq_true_eq]
    omega
  · rw [if_neg (by omega), decide_eq_false (by omega)]
theorem rcheck_j1 {x : Bool} {m : Msg} (hx : x = m.ok) : Ev (fun k => gangwayref09_Check.j1 k x) (if m.ok = true then 0 else 91) := by
  refine ev_succ ?_
  simp only [gangwayref09_Check.j1]
  rw [hx]
  refine ev_known ?_
  split <;> rfl
theorem is_plain (m : Msg) : ((m.kind == m.kind && (m.ch == m.ch && (m.pr == false && (m.le == false && (m.fo == false && (m.ag == false && (m.ac == m.ac && (m.role == 0 && ((m.root : Int) == (m.root : Int) && (m.cost == m.cost && ((m.bridge : Int) == (m.bridge : Int) && (m.port == m.port && (m.age == m.age && (m.mage == m.mage && (m.hello == m.hello && (m.delay == m.delay)))))))))))))))) = true) ↔ m.slow = true := by
  cases m
  simp [Msg.slow, and_assoc]
theorem rcheck_j0 (m : Msg) {x : Bool} (hx : x = m.right) : Ev (fun k => gangwayref09_Check.j0 k x m.kind m.ch m.pr m.le m.fo m.ag m.ac m.role (m.root : Int) m.cost (m.bridge : Int) m.port m.age m.mage m.hello m.delay m.kind m.ch false false false false m.ac 0 (m.root : Int) m.cost (m.bridge : Int) m.port m.age m.mage m.hello m.delay) (if m.ok = true then 0 else 91) := by
  refine ev_succ ?_
  simp only [gangwayref09_Check.j0]
  have k1 : m.kind = 128 → m.ok = decide (m = mchange) := fun h => by
    unfold Msg.ok
    rw [if_pos h]
  have k2 : m.kind ≠ 128 → m.kind = 0 → m.ok = (m.right && m.slow) := fun h1 h2 => by
    unfold Msg.ok
    rw [if_neg h1, if_pos h2]
  have k3 : m.kind ≠ 128 → m.kind ≠ 0 → m.kind = 2 → m.ok = m.right := fun h1 h2 h3 => by
    unfold Msg.ok
    rw [if_neg h1, if_neg h2, if_pos h3]
  have k4 : m.kind ≠ 128 → m.kind ≠ 0 → m.kind ≠ 2 → m.ok = false := fun h1 h2 h3 => by
    unfold Msg.ok
    rw [if_neg h1, if_neg h2, if_neg h3]
  by_cases h1 : m.kind = 128
  · refine ev_pos h1 ?_
    by_cases h2 : m = mchange
    · exact ev_pos ((is_change m).2 h2) (rcheck_j1 (by rw [k1 h1, decide_eq_true h2]))
    · exact ev_neg (fun h => h2 ((is_change m).1 h)) (ev_neg (by omega) (ev_neg (by omega) (rcheck_j1 (by rw [k1 h1, decide_eq_false h2]))))
  · refine ev_neg h1 ?_
    by_cases h2 : m.kind = 0
    · refine ev_pos h2 ?_
      by_cases h3 : x = true
      · refine ev_pos h3 ?_
        by_cases h4 : m.slow = true
        · exact ev_pos ((is_plain m).2 h4) (rcheck_j1 (by rw [k2 h1 h2, ← hx, h3, h4]; rfl))
        · exact ev_neg (fun h => h4 ((is_plain m).1 h)) (ev_neg (by omega) (rcheck_j1 (by rw [k2 h1 h2, Bool.eq_false_iff.2 h4, Bool.and_false])))
      · exact ev_neg h3 (ev_neg (by omega) (rcheck_j1 (by rw [k2 h1 h2, ← hx, Bool.eq_false_iff.2 h3, Bool.false_and])))
    · refine ev_neg h2 ?_
      by_cases h3 : m.kind = 2
      · exact ev_pos h3 (rcheck_j1 (by rw [k3 h1 h2 h3, hx]))
      · exact ev_neg h3 (rcheck_j1 (by rw [k4 h1 h2 h3]))
theorem rcheck_ev (m : Msg) : Ev (fun k => gangwayref09_Check.f k m.kind m.ch m.pr m.le m.fo m.ag m.ac m.role (m.root : Int) m.cost (m.bridge : Int) m.port m.age m.mage m.hello m.delay) (if m.ok = true then 0 else 91) := by
  unfold gangwayref09_Check.f
  simp only [word_eq]
  have no : ∀ {c : Prop}, ¬ c → (m.right = true → c) → false = m.right := fun h k => not_right h k
  have R := fun (h : m.right = true) => Msg.right_iff.1 h
  by_cases r0 : m.role ≥ 0
  rotate_left
  · exact ev_neg r0 (rcheck_j0 m (no r0 (fun h => (R h).1.1)))
  refine ev_pos r0 ?_
  by_cases r1 : m.role ≤ 3
  rotate_left
  · exact ev_neg r1 (rcheck_j0 m (no r1 (fun h => (R h).1.2)))
  refine ev_pos r1 ?_
  by_cases c0 : m.cost ≥ 0
  rotate_left
  · exact ev_neg c0 (rcheck_j0 m (no c0 (fun h => (R h).2.1.1)))
  refine ev_pos c0 ?_
  by_cases c1 : m.cost ≤ 4294967295
  rotate_left
  · exact ev_neg c1 (rcheck_j0 m (no c1 (fun h => (R h).2.1.2)))
  refine ev_pos c1 (ev_some ?_)
  by_cases p : 0 ≤ m.port ∧ m.port ≤ 65535
  rotate_left
  · exact ev_neg (by rw [decide_eq_false p]; decide) (rcheck_j0 m (no p (fun h => (R h).2.2.1)))
  refine ev_pos (decide_eq_true p) (ev_some ?_)
  by_cases a : 0 ≤ m.age ∧ m.age ≤ 65535
  rotate_left
  · exact ev_neg (by rw [decide_eq_false a]; decide) (rcheck_j0 m (no a (fun h => (R h).2.2.2.1)))
  refine ev_pos (decide_eq_true a) (ev_some ?_)
  by_cases g : 0 ≤ m.mage ∧ m.mage ≤ 65535
  rotate_left
  · exact ev_neg (by rw [decide_eq_false g]; decide) (rcheck_j0 m (no g (fun h => (R h).2.2.2.2.1)))
  refine ev_pos (decide_eq_true g) (ev_some ?_)
  by_cases e : 0 ≤ m.hello ∧ m.hello ≤ 65535
  rotate_left
  · exact ev_neg (by rw [decide_eq_false e]; decide) (rcheck_j0 m (no e (fun h => (R h).2.2.2.2.2.1)))
  refine ev_pos (decide_eq_true e) (ev_some (rcheck_j0 m ?_))
  rw [Bool.eq_iff_iff, decide_eq_true_eq, Msg.right_iff]
  exact ⟨fun d => ⟨⟨r0, r1⟩, ⟨c0, c1⟩, p, a, g, e, d⟩, fun h => h.2.2.2.2.2.2⟩
theorem rbytesW {x : Int} {n : Nat} (hn : n ≤ 8) (h0 : 0 ≤ x) (h1 : x ≤ 4294967295) : Ev (fun k => gangwayref01_Bytes.f k (IntKind.u64.wrap x) (n : Int)) (bs (be n x.toNat)) := by
  have h := bytes_ev (v := x.toNat) (n := n) (by omega) (by omega)
  rw [u64w h0 (by omega)]
  rw [Int.toNat_of_nonneg h0] at h
  exact h
theorem be_one {n : Nat} (h : n < 256) : be 1 n = [n] := by
  show [n % 256] = [n]
  rw [Nat.mod_eq_of_lt h]
theorem rflags {m : Msg} (hr : m.right = true) : IntKind.u64.wrap (wrap64 ((wrap64 ((wrap64 ((wrap64 ((wrap64 ((wrap64 (((bitN m.ch 1 : Nat) : Int) + ((bitN m.pr 2 : Nat) : Int))) + (wrap64 (4 * m.role)))) + ((bitN m.le 16 : Nat) : Int))) + ((bitN m.fo 32 : Nat) : Int))) + ((bitN m.ag 64 : Nat) : Int))) + ((bitN m.ac 128 : Nat) : Int))) = ((m.flags : Nat) : Int) := by
  obtain ⟨r0, r3⟩ := (Msg.right_iff.1 hr).1
  have a1 := bitN_le m.ch 1
  have a2 := bitN_le m.pr 2
  have a3 := bitN_le m.le 16
  have a4 := bitN_le m.fo 32
  have a5 := bitN_le m.ag 64
  have a6 := bitN_le m.ac 128
  unfold Msg.flags
  generalize bitN m.ch 1 = b1 at *
  generalize bitN m.pr 2 = b2 at *
  generalize bitN m.le 16 = b3 at *
  generalize bitN m.fo 32 = b4 at *
  generalize bitN m.ag 64 = b5 at *
  generalize bitN m.ac 128 = b6 at *
  obtain ⟨r, hr'⟩ := Int.eq_ofNat_of_zero_le r0
  rw [hr'] at r3 ⊢
  have p1 : 0 ≤ 4 * (r : Int) ∧ 4 * (r : Int) ≤ 1000 := by omega
  have p2 : 0 ≤ (b1 : Int) + (b2 : Int) ∧ (b1 : Int) + (b2 : Int) ≤ 1000 := by omega
  have p3 : 0 ≤ (b1 : Int) + (b2 : Int) + 4 * (r : Int) ∧ (b1 : Int) + (b2 : Int) + 4 * (r : Int) ≤ 1000 := by omega
  have p4 : 0 ≤ (b1 : Int) + (b2 : Int) + 4 * (r : Int) + (b3 : Int) ∧ (b1 : Int) + (b2 : Int) + 4 * (r : Int) + (b3 : Int) ≤ 1000 := by omega
  have p5 : 0 ≤ (b1 : Int) + (b2 : Int) + 4 * (r : Int) + (b3 : Int) + (b4 : Int) ∧ (b1 : Int) + (b2 : Int) + 4 * (r : Int) + (b3 : Int) + (b4 : Int) ≤ 1000 := by omega
  have p6 : 0 ≤ (b1 : Int) + (b2 : Int) + 4 * (r : Int) + (b3 : Int) + (b4 : Int) + (b5 : Int) ∧ (b1 : Int) + (b2 : Int) + 4 * (r : Int) + (b3 : Int) + (b4 : Int) + (b5 : Int) ≤ 1000 := by omega
  have p7 : 0 ≤ (b1 : Int) + (b2 : Int) + 4 * (r : Int) + (b3 : Int) + (b4 : Int) + (b5 : Int) + (b6 : Int) ∧ (b1 : Int) + (b2 : Int) + 4 * (r : Int) + (b3 : Int) + (b4 : Int) + (b5 : Int) + (b6 : Int) ≤ 1000 := by omega
  have q1 : (-9223372036854775808 : Int) ≤ 0 := by decide
  have q2 : (1000 : Int) ≤ 9223372036854775807 := by decide
  have q3 : (1000 : Int) ≤ 18446744073709551615 := by decide
  have e1 : wrap64 (4 * (r : Int)) = 4 * (r : Int) := w64 (Int.le_trans q1 p1.1) (Int.le_trans p1.2 q2)
  have e2 : wrap64 ((b1 : Int) + (b2 : Int)) = (b1 : Int) + (b2 : Int) := w64 (Int.le_trans q1 p2.1) (Int.le_trans p2.2 q2)
  have e3 : wrap64 ((b1 : Int) + (b2 : Int) + 4 * (r : Int)) = (b1 : Int) + (b2 : Int) + 4 * (r : Int) := w64 (Int.le_trans q1 p3.1) (Int.le_trans p3.2 q2)
  have e4 : wrap64 ((b1 : Int) + (b2 : Int) + 4 * (r : Int) + (b3 : Int)) = (b1 : Int) + (b2 : Int) + 4 * (r : Int) + (b3 : Int) := w64 (Int.le_trans q1 p4.1) (Int.le_trans p4.2 q2)
  have e5 : wrap64 ((b1 : Int) + (b2 : Int) + 4 * (r : Int) + (b3 : Int) + (b4 : Int)) = (b1 : Int) + (b2 : Int) + 4 * (r : Int) + (b3 : Int) + (b4 : Int) := w64 (Int.le_trans q1 p5.1) (Int.le_trans p5.2 q2)
  have e6 : wrap64 ((b1 : Int) + (b2 : Int) + 4 * (r : Int) + (b3 : Int) + (b4 : Int) + (b5 : Int)) = (b1 : Int) + (b2 : Int) + 4 * (r : Int) + (b3 : Int) + (b4 : Int) + (b5 : Int) := w64 (Int.le_trans q1 p6.1) (Int.le_trans p6.2 q2)
  have e7 : wrap64 ((b1 : Int) + (b2 : Int) + 4 * (r : Int) + (b3 : Int) + (b4 : Int) + (b5 : Int) + (b6 : Int)) = (b1 : Int) + (b2 : Int) + 4 * (r : Int) + (b3 : Int) + (b4 : Int) + (b5 : Int) + (b6 : Int) := w64 (Int.le_trans q1 p7.1) (Int.le_trans p7.2 q2)
  have e8 : IntKind.u64.wrap ((b1 : Int) + (b2 : Int) + 4 * (r : Int) + (b3 : Int) + (b4 : Int) + (b5 : Int) + (b6 : Int)) = (b1 : Int) + (b2 : Int) + 4 * (r : Int) + (b3 : Int) + (b4 : Int) + (b5 : Int) + (b6 : Int) := u64w p7.1 (Int.le_trans p7.2 q3)
  rw [e1, e2, e3, e4, e5, e6, e7, e8]
  clear e1 e2 e3 e4 e5 e6 e7 e8
  omega
theorem rbuild_ev {m : Msg} (h1 : m.root < 18446744073709551616) (h2 : m.bridge < 18446744073709551616) : Ev (fun k => gangwayref09_Build.f k m.kind m.ch m.pr m.le m.fo m.ag m.ac m.role (m.root : Int) m.cost (m.bridge : Int) m.port m.age m.mage m.hello m.delay) (bbuild m) := by
  unfold gangwayref09_Build.f
  refine Ev.bind (rcheck_ev m) ?_
  unfold bbuild
  by_cases hok : m.ok = true
  rotate_left
  · rw [if_neg hok, if_neg hok]
    exact ev_neg (by decide) (ev_now rfl)
  rw [if_pos hok, if_pos hok]
  refine ev_pos rfl ?_
  unfold Msg.bytes
  rcases Msg.ok_right hok with ⟨hk, _⟩ | ⟨hk, hr, _⟩
  · rw [if_pos hk]
    exact ev_pos hk (ev_pos (by decide) (ev_now rfl))
  rw [if_neg hk]
  refine ev_neg hk ?_
  obtain ⟨⟨r0, r1⟩, ⟨c0, c1⟩, ⟨p0, p1⟩, ⟨a0, a1⟩, ⟨m0, m1⟩, ⟨e0, e1⟩, ⟨d0, d1⟩⟩ := Msg.right_iff.1 hr
  have b1 : gangwayref09_bit.f m.ch 1 = some ((bitN m.ch 1 : Nat) : Int) := by cases m.ch <;> rfl
  have b2 : gangwayref09_bit.f m.pr 2 = some ((bitN m.pr 2 : Nat) : Int) := by cases m.pr <;> rfl
  have b3 : gangwayref09_bit.f m.le 16 = some ((bitN m.le 16 : Nat) : Int) := by cases m.le <;> rfl
  have b4 : gangwayref09_bit.f m.fo 32 = some ((bitN m.fo 32 : Nat) : Int) := by cases m.fo <;> rfl
  have b5 : gangwayref09_bit.f m.ag 64 = some ((bitN m.ag 64 : Nat) : Int) := by cases m.ag <;> rfl
  have b6 : gangwayref09_bit.f m.ac 128 = some ((bitN m.ac 128 : Nat) : Int) := by cases m.ac <;> rfl
  rw [b1, b2, b3, b4, b5, b6]
  refine ev_some (ev_some (ev_some (ev_some (ev_some (ev_some ?_)))))
  rw [rflags hr]
  have hf := Msg.flags_lt hr
  have s2 : ∀ n x : Nat, (bs (be n x)).size = n := fun n x => by rw [bs_size, be_len]
  have q1 : Ev (fun k => gangwayref01_Bytes.f k ((m.flags : Nat) : Int) 1) (bs (be 1 m.flags)) := bytes_ev (n := 1) (by decide) (by omega)
  have q2 : Ev (fun k => gangwayref01_Bytes.f k ((m.root : Nat) : Int) 8) (bs (be 8 m.root)) := bytes_ev (n := 8) (by decide) h1
  have q3 : Ev (fun k => gangwayref01_Bytes.f k (IntKind.u64.wrap m.cost) 4) (bs (be 4 m.cost.toNat)) := rbytesW (n := 4) (by decide) c0 c1
  have q4 : Ev (fun k => gangwayref01_Bytes.f k ((m.bridge : Nat) : Int) 8) (bs (be 8 m.bridge)) := bytes_ev (n := 8) (by decide) h2
  have q5 : Ev (fun k => gangwayref01_Bytes.f k (IntKind.u64.wrap m.port) 2) (bs (be 2 m.port.toNat)) := rbytesW (n := 2) (by decide) p0 (by omega)
  have q6 : Ev (fun k => gangwayref01_Bytes.f k (IntKind.u64.wrap m.age) 2) (bs (be 2 m.age.toNat)) := rbytesW (n := 2) (by decide) a0 (by omega)
  have q7 : Ev (fun k => gangwayref01_Bytes.f k (IntKind.u64.wrap m.mage) 2) (bs (be 2 m.mage.toNat)) := rbytesW (n := 2) (by decide) m0 (by omega)
  have q8 : Ev (fun k => gangwayref01_Bytes.f k (IntKind.u64.wrap m.hello) 2) (bs (be 2 m.hello.toNat)) := rbytesW (n := 2) (by decide) e0 (by omega)
  have q9 : Ev (fun k => gangwayref01_Bytes.f k (IntKind.u64.wrap m.delay) 2) (bs (be 2 m.delay.toNat)) := rbytesW (n := 2) (by decide) d0 (by omega)
  have ec : bs [m.flags] ++ bs m.nums = bs (be 1 m.flags) ++ bs (be 8 m.root) ++ bs (be 4 m.cost.toNat) ++ bs (be 8 m.bridge) ++ bs (be 2 m.port.toNat) ++ bs (be 2 m.age.toNat) ++ bs (be 2 m.mage.toNat) ++ bs (be 2 m.hello.toNat) ++ bs (be 2 m.delay.toNat) := by
    rw [be_one hf]
    unfold Msg.nums
    simp only [← bs_append, List.append_assoc]
  refine Ev.bind q1 (Ev.bind q2 (ev_pos (by simp only [ByteArray.size_append, s2]; decide) (Ev.bind q3 (ev_pos (by simp only [ByteArray.size_append, s2]; decide) (Ev.bind q4 (ev_pos (by simp only [ByteArray.size_append, s2]; decide) (Ev.bind q5 (ev_pos (by simp only [ByteArray.size_append, s2]; decide) (Ev.bind q6 (ev_pos (by simp only [ByteArray.size_append, s2]; decide) (Ev.bind q7 (ev_pos (by simp only [ByteArray.size_append, s2]; decide) (Ev.bind q8 (ev_pos (by simp only [ByteArray.size_append, s2]; decide) (Ev.bind q9 (ev_pos (by simp only [ByteArray.size_append, s2]; decide) ?_))))))))))))))))
  rw [← ec]
  have z : (bs [m.flags] ++ bs m.nums).size = 31 := by rw [ByteArray.size_append, bs_size, bs_size, Msg.nums_len]; rfl
  by_cases h0 : m.kind = 2
  · refine ev_pos h0 (ev_pos (by decide) (ev_pos (by omega) (ev_pos ?_ (ev_now ?_))))
    · rw [ByteArray.size_append, z]
      decide
    · rw [if_pos h0]
      refine congrArg (fun x => (x, (0 : Int))) ?_
      rw [bs_append, bs_append, bs_append, bs_append, ← ByteArray.append_assoc, ← ByteArray.append_assoc, ← ByteArray.append_assoc, ← ByteArray.append_assoc]
      rfl
  · refine ev_neg h0 (ev_pos (by decide) (ev_pos (by omega) (ev_now ?_)))
    rw [if_neg h0]
    refine congrArg (fun x => (x, (0 : Int))) ?_
    rw [bs_append, bs_append, bs_append, ← ByteArray.append_assoc]
    rfl
end Go.Proofs.YtbfjlhjfpmgplaaDoor.P
