/- Bridges' messages as numbers: may one be, its bytes, what bytes tell. No program in sight. -/
import Derived.Test.YtbfjlhjfpmgplaaDoorPut
import Derived.Test.YtbfjlhjfpmgplaaDoorGet
namespace Go.Proofs.YtbfjlhjfpmgplaaDoor.P
set_option linter.unusedSimpArgs false
set_option linter.unusedVariables false
open Go Go.RowKit Go.Proofs.YtbfjlhjfpmgplaaDoorW.PrintWords Go.Proofs.YtbfjlhjfpmgplaaDoorW.PrintLast Go.Proofs.YtbfjlhjfpmgplaaDoorW.PrintMore Go.Proofs.YtbfjlhjfpmgplaaDoor.L

/-- A message: its kind, flags, role, root, cost, bridge, port, times. -/
structure Msg where
  kind : Int
  ch : Bool
  pr : Bool
  le : Bool
  fo : Bool
  ag : Bool
  ac : Bool
  role : Int
  root : Nat
  cost : Int
  bridge : Nat
  port : Int
  age : Int
  mage : Int
  hello : Int
  delay : Int
deriving DecidableEq
/-- The message of BpduChange. -/
def mchange : Msg := ⟨128, false, false, false, false, false, false, 0, 0, 0, 0, 0, 0, 0, 0, 0⟩
def mzero : Msg := ⟨0, false, false, false, false, false, false, 0, 0, 0, 0, 0, 0, 0, 0, 0⟩
/-- Are the numbers right? -/
def Msg.right (m : Msg) : Bool := decide (0 ≤ m.role) && decide (m.role ≤ 3) && (decide (0 ≤ m.cost) && decide (m.cost ≤ 4294967295)) && (decide (0 ≤ m.port) && decide (m.port ≤ 65535)) && (decide (0 ≤ m.age) && decide (m.age ≤ 65535)) && (decide (0 ≤ m.mage) && decide (m.mage ≤ 65535)) && (decide (0 ≤ m.hello) && decide (m.hello ≤ 65535)) && (decide (0 ≤ m.delay) && decide (m.delay ≤ 65535))
def Msg.slow (m : Msg) : Bool := !m.pr && !m.le && !m.fo && !m.ag && decide (m.role = 0)
/-- May a message be? -/
def Msg.ok (m : Msg) : Bool := if m.kind = 128 then decide (m = mchange) else if m.kind = 0 then m.right && m.slow else if m.kind = 2 then m.right else false
def bitN (b : Bool) (n : Nat) : Nat := if b = true then n else 0
/-- The flags' byte. -/
def Msg.flags (m : Msg) : Nat := bitN m.ch 1 + bitN m.pr 2 + 4 * m.role.toNat + bitN m.le 16 + bitN m.fo 32 + bitN m.ag 64 + bitN m.ac 128
/-- The bytes of the numbers. -/
def Msg.nums (m : Msg) : List Nat := be 8 m.root ++ (be 4 m.cost.toNat ++ (be 8 m.bridge ++ (be 2 m.port.toNat ++ (be 2 m.age.toNat ++ (be 2 m.mage.toNat ++ (be 2 m.hello.toNat ++ be 2 m.delay.toNat))))))
def bhead : List Nat := [66, 66, 3, 0, 0]
/-- A message's bytes. -/
def Msg.bytes (m : Msg) : List Nat := if m.kind = 128 then bhead ++ [0, 128] else if m.kind = 2 then bhead ++ ([2, 2] ++ ([m.flags] ++ (m.nums ++ [0]))) else bhead ++ ([0, 0] ++ ([m.flags] ++ m.nums))
theorem Msg.right_iff {m : Msg} : m.right = true ↔ (0 ≤ m.role ∧ m.role ≤ 3) ∧ (0 ≤ m.cost ∧ m.cost ≤ 4294967295) ∧ (0 ≤ m.port ∧ m.port ≤ 65535) ∧ (0 ≤ m.age ∧ m.age ≤ 65535) ∧ (0 ≤ m.mage ∧ m.mage ≤ 65535) ∧ (0 ≤ m.hello ∧ m.hello ≤ 65535) ∧ (0 ≤ m.delay ∧ m.delay ≤ 65535) := by
  unfold Msg.right
  simp [and_assoc]
theorem bitN_le (b : Bool) (n : Nat) : bitN b n ≤ n := by
  unfold bitN
  split <;> omega
theorem Msg.flags_lt {m : Msg} (h : m.right = true) : m.flags < 256 := by
  have h1 := (Msg.right_iff.1 h).1
  have a1 := bitN_le m.ch 1
  have a2 := bitN_le m.pr 2
  have a3 := bitN_le m.le 16
  have a4 := bitN_le m.fo 32
  have a5 := bitN_le m.ag 64
  have a6 := bitN_le m.ac 128
  unfold Msg.flags
  omega
theorem Msg.nums_len (m : Msg) : m.nums.length = 30 := by simp [Msg.nums, be_len]
theorem Msg.nums_byt (m : Msg) : Byt m.nums := (be_byt _ _).append ((be_byt _ _).append ((be_byt _ _).append ((be_byt _ _).append ((be_byt _ _).append ((be_byt _ _).append ((be_byt _ _).append (be_byt _ _)))))))
theorem bhead_byt : Byt bhead := by
  intro x hx
  simp [bhead] at hx
  omega
theorem Msg.bytes_byt {m : Msg} (h : m.kind = 128 ∨ m.right = true) : Byt m.bytes := by
  unfold Msg.bytes
  by_cases h1 : m.kind = 128
  · rw [if_pos h1]
    exact bhead_byt.append (Byt.cons (by decide) (Byt.cons (by decide) Byt.nil))
  · rw [if_neg h1]
    have hf := Msg.flags_lt (h.resolve_left h1)
    split
    · exact bhead_byt.append ((Byt.cons (by decide) (Byt.cons (by decide) Byt.nil)).append ((Byt.cons hf Byt.nil).append (m.nums_byt.append (Byt.cons (by decide) Byt.nil))))
    · exact bhead_byt.append ((Byt.cons (by decide) (Byt.cons (by decide) Byt.nil)).append ((Byt.cons hf Byt.nil).append m.nums_byt))
theorem Msg.ok_right {m : Msg} (h : m.ok = true) : m.kind = 128 ∧ m = mchange ∨ m.kind ≠ 128 ∧ m.right = true ∧ (m.kind = 0 ∧ m.slow = true ∨ m.kind = 2) := by
  unfold Msg.ok at h
  by_cases h1 : m.kind = 128
  · rw [if_pos h1] at h
    exact Or.inl ⟨h1, of_decide_eq_true h⟩
  · rw [if_neg h1] at h
    by_cases h2 : m.kind = 0
    · rw [if_pos h2] at h
      obtain ⟨h3, h4⟩ := Bool.and_eq_true_iff.1 h
      exact Or.inr ⟨h1, h3, Or.inl ⟨h2, h4⟩⟩
    · rw [if_neg h2] at h
      by_cases h3 : m.kind = 2
      · rw [if_pos h3] at h
        exact Or.inr ⟨h1, h, Or.inr h3⟩
      · rw [if_neg h3] at h
        cases h
theorem Msg.bytes_len {m : Msg} : m.bytes.length = if m.kind = 128 then 7 else if m.kind = 2 then 39 else 38 := by
  unfold Msg.bytes
  split
  · rfl
  · split
    · simp [bhead, Msg.nums_len]
    · simp [bhead, Msg.nums_len]
/-- The numbers that bytes tell, with a kind's flags. -/
def told (l : List Nat) : Msg := ⟨0, decide (l.getD 7 0 % 2 = 1), false, false, false, false, decide (l.getD 7 0 / 128 % 2 = 1), 0, numAt l 8 8, ((numAt l 16 4 : Nat) : Int), numAt l 20 8, ((numAt l 28 2 : Nat) : Int), ((numAt l 30 2 : Nat) : Int), ((numAt l 32 2 : Nat) : Int), ((numAt l 34 2 : Nat) : Int), ((numAt l 36 2 : Nat) : Int)⟩
def quick (m : Msg) (f : Nat) : Msg := { m with kind := 2, pr := decide (f / 2 % 2 = 1), le := decide (f / 16 % 2 = 1), fo := decide (f / 32 % 2 = 1), ag := decide (f / 64 % 2 = 1), role := ((f / 4 % 4 : Nat) : Int) }
/-- What bytes tell. -/
def bparse (l : List Nat) : Msg × Int :=
  if l.length < 7 then (mzero, 90)
  else if l.take 5 ≠ bhead then (mzero, 91)
  else if (l.drop 5).take 2 = [0, 128] then (mchange, 0)
  else if (l.drop 5).take 2 = [0, 0] then (if l.length < 38 then (mzero, 90) else (told l, 0))
  else if (l.drop 5).take 2 = [2, 2] then (if l.length < 39 then (mzero, 90) else (quick (told l) (l.getD 7 0), 0))
  else (mzero, 91)
theorem b_numAt_be {p : List Nat} (q : List Nat) {n v i : Nat} (hp : p.length = i) (hv : v < 256 ^ n) : numAt (p ++ (be n v ++ q)) i n = v := by
  unfold numAt
  rw [List.drop_append_of_le_length (by rw [hp]; exact Nat.le_refl _), List.drop_of_length_le (by rw [hp]; exact Nat.le_refl _), List.nil_append, List.take_append_of_le_length (by rw [be_len]; exact Nat.le_refl _), List.take_of_length_le (by rw [be_len]; exact Nat.le_refl _), num_be]
  exact Nat.mod_eq_of_lt hv
theorem told_bytes {m : Msg} (k f : List Nat) (x : Nat) (more : List Nat) (hk : k.length = 7) (hr : m.right = true) (h1 : m.root < 18446744073709551616) (h2 : m.bridge < 18446744073709551616) :
    told (k ++ ([x] ++ (m.nums ++ more))) = ⟨0, decide (x % 2 = 1), false, false, false, false, decide (x / 128 % 2 = 1), 0, m.root, m.cost, m.bridge, m.port, m.age, m.mage, m.hello, m.delay⟩ := by
  obtain ⟨_, ⟨c0, c1⟩, ⟨p0, p1⟩, ⟨a0, a1⟩, ⟨m0, m1⟩, ⟨e0, e1⟩, ⟨d0, d1⟩⟩ := Msg.right_iff.1 hr
  have e2 : (256 : Nat) ^ 2 = 65536 := by decide
  have e4 : (256 : Nat) ^ 4 = 4294967296 := by decide
  have e8 : (256 : Nat) ^ 8 = 18446744073709551616 := by decide
  have g7 : (k ++ ([x] ++ (m.nums ++ more))).getD 7 0 = x := by
    rw [List.getD_eq_getElem?_getD, List.getElem?_append_right (by omega), hk]
    rfl
  have fl : k ++ ([x] ++ (m.nums ++ more)) = (k ++ [x]) ++ (be 8 m.root ++ (be 4 m.cost.toNat ++ (be 8 m.bridge ++ (be 2 m.port.toNat ++ (be 2 m.age.toNat ++ (be 2 m.mage.toNat ++ (be 2 m.hello.toNat ++ (be 2 m.delay.toNat ++ more)))))))) := by
    unfold Msg.nums
    simp only [List.append_assoc]
  have n1 : numAt (k ++ ([x] ++ (m.nums ++ more))) 8 8 = m.root := by
    rw [fl]
    exact b_numAt_be _ (by simp [hk]) (by omega)
  have n2 : numAt (k ++ ([x] ++ (m.nums ++ more))) 16 4 = m.cost.toNat := by
    rw [fl, ← List.append_assoc]
    exact b_numAt_be _ (by simp [hk, be_len]) (by omega)
  have n3 : numAt (k ++ ([x] ++ (m.nums ++ more))) 20 8 = m.bridge := by
    rw [fl, ← List.append_assoc, ← List.append_assoc]
    exact b_numAt_be _ (by simp [hk, be_len]) (by omega)
  have n4 : numAt (k ++ ([x] ++ (m.nums ++ more))) 28 2 = m.port.toNat := by
    rw [fl, ← List.append_assoc, ← List.append_assoc, ← List.append_assoc]
    exact b_numAt_be _ (by simp [hk, be_len]) (by omega)
  have n5 : numAt (k ++ ([x] ++ (m.nums ++ more))) 30 2 = m.age.toNat := by
    rw [fl, ← List.append_assoc, ← List.append_assoc, ← List.append_assoc, ← List.append_assoc]
    exact b_numAt_be _ (by simp [hk, be_len]) (by omega)
  have n6 : numAt (k ++ ([x] ++ (m.nums ++ more))) 32 2 = m.mage.toNat := by
    rw [fl, ← List.append_assoc, ← List.append_assoc, ← List.append_assoc, ← List.append_assoc, ← List.append_assoc]
    exact b_numAt_be _ (by simp [hk, be_len]) (by omega)
  have n7 : numAt (k ++ ([x] ++ (m.nums ++ more))) 34 2 = m.hello.toNat := by
    rw [fl, ← List.append_assoc, ← List.append_assoc, ← List.append_assoc, ← List.append_assoc, ← List.append_assoc, ← List.append_assoc]
    exact b_numAt_be _ (by simp [hk, be_len]) (by omega)
  have n8 : numAt (k ++ ([x] ++ (m.nums ++ more))) 36 2 = m.delay.toNat := by
    rw [fl, ← List.append_assoc, ← List.append_assoc, ← List.append_assoc, ← List.append_assoc, ← List.append_assoc, ← List.append_assoc, ← List.append_assoc]
    exact b_numAt_be _ (by simp [hk, be_len]) (by omega)
  unfold told
  rw [g7, n1, n2, n3, n4, n5, n6, n7, n8, Int.toNat_of_nonneg c0, Int.toNat_of_nonneg p0, Int.toNat_of_nonneg a0, Int.toNat_of_nonneg m0, Int.toNat_of_nonneg e0, Int.toNat_of_nonneg d0]
theorem flags_tell {ch pr le fo ag ac : Bool} {r : Nat} (hr : r ≤ 3) (f : Nat) (hf : f = bitN ch 1 + bitN pr 2 + 4 * r + bitN le 16 + bitN fo 32 + bitN ag 64 + bitN ac 128) :
    decide (f % 2 = 1) = ch ∧ decide (f / 128 % 2 = 1) = ac ∧ decide (f / 2 % 2 = 1) = pr ∧ decide (f / 16 % 2 = 1) = le ∧ decide (f / 32 % 2 = 1) = fo ∧ decide (f / 64 % 2 = 1) = ag ∧ f / 4 % 4 = r := by
  subst hf
  match r, hr with
  | 0, _ => cases ch <;> cases pr <;> cases le <;> cases fo <;> cases ag <;> cases ac <;> decide
  | 1, _ => cases ch <;> cases pr <;> cases le <;> cases fo <;> cases ag <;> cases ac <;> decide
  | 2, _ => cases ch <;> cases pr <;> cases le <;> cases fo <;> cases ag <;> cases ac <;> decide
  | 3, _ => cases ch <;> cases pr <;> cases le <;> cases fo <;> cases ag <;> cases ac <;> decide
/-- What is built is parsed as it was, whatever stands behind. -/
theorem built_msg {m : Msg} (hok : m.ok = true) (h1 : m.root < 18446744073709551616) (h2 : m.bridge < 18446744073709551616) (more : List Nat) : bparse (m.bytes ++ more) = (m, 0) := by
  rcases Msg.ok_right hok with ⟨hk, hm⟩ | ⟨hk, hr, hs⟩
  · have e : m.bytes = bhead ++ [0, 128] := by
      unfold Msg.bytes
      rw [if_pos hk]
    rw [e]
    unfold bparse
    rw [if_neg (by simp [bhead]), if_neg (by simp [bhead]), if_pos (by simp [bhead]), hm]
  · obtain ⟨r0, r3⟩ := (Msg.right_iff.1 hr).1
    have ft := flags_tell (ch := m.ch) (pr := m.pr) (le := m.le) (fo := m.fo) (ag := m.ag) (ac := m.ac) (r := m.role.toNat) (by omega) m.flags rfl
    obtain ⟨f1, f2, f3, f4, f5, f6, f7⟩ := ft
    rcases hs with ⟨h0, hs⟩ | h0
    · have e : m.bytes ++ more = (bhead ++ [0, 0]) ++ ([m.flags] ++ (m.nums ++ more)) := by
        unfold Msg.bytes
        rw [if_neg hk, if_neg (by omega)]
        simp only [List.append_assoc]
      have t := told_bytes (m := m) (bhead ++ [0, 0]) [] m.flags more (by rfl) hr h1 h2
      rw [e]
      unfold bparse
      rw [if_neg (by simp [bhead]), if_neg (by simp [bhead]), if_neg (by simp [bhead]), if_pos (by simp [bhead]), if_neg (by simp [bhead, Msg.nums_len]), t, f1, f2]
      unfold Msg.slow at hs
      simp at hs
      obtain ⟨⟨⟨⟨s1, s2⟩, s3⟩, s4⟩, s5⟩ := hs
      cases m
      simp_all
    · have e : m.bytes ++ more = (bhead ++ [2, 2]) ++ ([m.flags] ++ (m.nums ++ ([0] ++ more))) := by
        unfold Msg.bytes
        rw [if_neg hk, if_pos h0]
        simp only [List.append_assoc]
      have t := told_bytes (m := m) (bhead ++ [2, 2]) [] m.flags ([0] ++ more) (by rfl) hr h1 h2
      have g7 : ((bhead ++ [2, 2]) ++ ([m.flags] ++ (m.nums ++ ([0] ++ more)))).getD 7 0 = m.flags := rfl
      rw [e]
      unfold bparse
      rw [if_neg (by simp [bhead]), if_neg (by simp [bhead]), if_neg (by simp [bhead]), if_neg (by simp [bhead]), if_pos (by simp [bhead]), if_neg (by simp [bhead, Msg.nums_len]; omega), t, g7]
      unfold quick
      rw [f1, f2, f3, f4, f5, f6, f7, Int.toNat_of_nonneg r0]
      cases m
      simp_all
end Go.Proofs.YtbfjlhjfpmgplaaDoor.P
