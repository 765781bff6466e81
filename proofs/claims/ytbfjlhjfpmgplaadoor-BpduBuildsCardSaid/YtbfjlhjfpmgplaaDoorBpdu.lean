/- What the printed functions of bpdu compute. -/
import Derived.Test.YtbfjlhjfpmgplaaDoorPx3
import Derived.Test.YtbfjlhjfpmgplaaDoorPx4
import Derived.Test.YtbfjlhjfpmgplaaDoorPx5
import Derived.Test.YtbfjlhjfpmgplaaDoorPx7
import Derived.Test.YtbfjlhjfpmgplaaDoorPx8
import Derived.Test.YtbfjlhjfpmgplaaDoorPx13
import Derived.Test.YtbfjlhjfpmgplaaDoorPx15
import Derived.Test.YtbfjlhjfpmgplaaDoorPx16
import Derived.Test.YtbfjlhjfpmgplaaDoorPut
import Derived.Test.YtbfjlhjfpmgplaaDoorGet
import Derived.Test.YtbfjlhjfpmgplaaDoorBpduN
namespace Go.Proofs.YtbfjlhjfpmgplaaDoor.P
set_option linter.unusedSimpArgs false
set_option linter.unusedVariables false
open Go Go.RowKit Go.Proofs.YtbfjlhjfpmgplaaDoorW.PrintWords Go.Proofs.YtbfjlhjfpmgplaaDoorW.PrintLast Go.Proofs.YtbfjlhjfpmgplaaDoorW.PrintMore Go.Proofs.YtbfjlhjfpmgplaaDoor.L

theorem below_eq (a b : Int) : bpdu_below.f a b = some (decide (0 ≤ a ∧ a < b)) := by
  unfold bpdu_below.f
  by_cases h : 0 ≤ a
  · rw [if_pos h]
    congr 1
    rw [Bool.eq_iff_iff, decide_eq_true_eq, decide_eq_true_eq]
    omega
  · rw [if_neg (by omega), decide_eq_false (by omega)]
theorem is_change (m : Msg) : ((m.kind == 128 && (!m.ch && (!m.pr && (!m.le && (!m.fo && (!m.ag && (!m.ac && (m.role == 0 && ((m.root : Int) == 0 && (m.cost == 0 && ((m.bridge : Int) == 0 && (m.port == 0 && (m.age == 0 && (m.mage == 0 && (m.hello == 0 && (m.delay == 0)))))))))))))))) = true) ↔ m = mchange := by
  cases m
  simp [mchange]
theorem check_j1 (m : Msg) {x : Bool} (hx : x = m.right) : Ev (fun k => bpdu_Check.j1 k x m.kind m.ch m.pr m.le m.fo m.ag m.ac m.role (m.root : Int) m.cost (m.bridge : Int) m.port m.age m.mage m.hello m.delay) (if m.ok = true then 0 else 91) := by
  refine ev_succ ?_
  simp only [bpdu_Check.j1]
  refine ev_known ?_
  unfold Msg.ok Msg.slow
  rw [← hx]
  clear hx
  by_cases h1 : m.kind = 128
  · rw [if_pos h1, if_pos h1]
    by_cases h2 : m = mchange
    · rw [if_pos ((is_change m).2 h2), if_pos (decide_eq_true h2)]
    · rw [if_neg (fun h => h2 ((is_change m).1 h)), if_neg (by simp [h2])]
  · rw [if_neg h1, if_neg h1]
    by_cases h2 : m.kind = 0
    · rw [if_pos h2, if_pos h2]
      by_cases h3 : m.role = 0
      · rw [if_pos h3, decide_eq_true h3]
        cases x <;> cases m.pr <;> cases m.le <;> cases m.fo <;> cases m.ag <;> rfl
      · rw [if_neg h3, decide_eq_false h3]
        cases x <;> cases m.pr <;> cases m.le <;> cases m.fo <;> cases m.ag <;> rfl
    · rw [if_neg h2, if_neg h2]
      by_cases h3 : m.kind = 2
      · rw [if_pos h3, if_pos h3]
        cases x <;> rfl
      · rw [if_neg h3, if_neg h3]
        rfl
def Msg.timed (m : Msg) : Prop := (0 ≤ m.age ∧ m.age < 65536) ∧ (0 ≤ m.mage ∧ m.mage < 65536) ∧ (0 ≤ m.hello ∧ m.hello < 65536) ∧ (0 ≤ m.delay ∧ m.delay < 65536)
theorem not_right {m : Msg} {c : Prop} (h : ¬ c) (k : m.right = true → c) : false = m.right := by
  cases hr : m.right
  · rfl
  · exact absurd (k hr) h
theorem check_j0 (m : Msg) {x : Bool} (hx : x = true ↔ m.timed) : Ev (fun k => bpdu_Check.j0 k x m.kind m.ch m.pr m.le m.fo m.ag m.ac m.role (m.root : Int) m.cost (m.bridge : Int) m.port m.age m.mage m.hello m.delay) (if m.ok = true then 0 else 91) := by
  refine ev_succ ?_
  simp only [bpdu_Check.j0, below_eq]
  have rt : m.right = true → m.timed := fun h => by
    have := Msg.right_iff.1 h
    unfold Msg.timed
    omega
  by_cases hx1 : x = true
  · refine ev_pos hx1 (ev_some ?_)
    by_cases h1 : 0 ≤ m.role ∧ m.role < 4
    · refine ev_pos (decide_eq_true h1) (ev_some ?_)
      by_cases h2 : 0 ≤ m.cost ∧ m.cost < 4294967296
      · refine ev_pos (decide_eq_true h2) (ev_some (check_j1 m ?_))
        have ht := hx.1 hx1
        unfold Msg.timed at ht
        rw [Bool.eq_iff_iff, decide_eq_true_eq, Msg.right_iff]
        omega
      · exact ev_neg (by rw [decide_eq_false h2]; decide) (check_j1 m (not_right h2 (fun h => by
          have := Msg.right_iff.1 h
          omega)))
    · exact ev_neg (by rw [decide_eq_false h1]; decide) (check_j1 m (not_right h1 (fun h => by
          have := Msg.right_iff.1 h
          omega)))
  · exact ev_neg hx1 (check_j1 m (not_right (fun h => hx1 (hx.2 h)) rt))
theorem check_ev (m : Msg) : Ev (fun k => bpdu_Check.f k m.kind m.ch m.pr m.le m.fo m.ag m.ac m.role (m.root : Int) m.cost (m.bridge : Int) m.port m.age m.mage m.hello m.delay) (if m.ok = true then 0 else 91) := by
  unfold bpdu_Check.f
  simp only [below_eq]
  refine ev_some ?_
  have no : ∀ {c : Prop}, ¬ c → (m.timed → c) → (false = true ↔ m.timed) := fun h k => ⟨fun h => (by cases h), fun t => absurd (k t) h⟩
  by_cases h1 : 0 ≤ m.age ∧ m.age < 65536
  · refine ev_pos (decide_eq_true h1) (ev_some ?_)
    by_cases h2 : 0 ≤ m.mage ∧ m.mage < 65536
    · refine ev_pos (decide_eq_true h2) (ev_some ?_)
      by_cases h3 : 0 ≤ m.hello ∧ m.hello < 65536
      · refine ev_pos (decide_eq_true h3) (ev_some (check_j0 m ?_))
        rw [decide_eq_true_eq]
        exact ⟨fun h => ⟨h1, h2, h3, h⟩, fun t => t.2.2.2⟩
      · exact ev_neg (by rw [decide_eq_false h3]; decide) (check_j0 m (no h3 (fun t => t.2.2.1)))
    · exact ev_neg (by rw [decide_eq_false h2]; decide) (check_j0 m (no h2 (fun t => t.2.1)))
  · exact ev_neg (by rw [decide_eq_false h1]; decide) (check_j0 m (no h1 (fun t => t.1)))

theorem flags_all : ∀ (r : Fin 4) (a b c d e f : Bool), bpdu_set f (bpdu_set e (bpdu_set d (bpdu_set c (bpdu_set b (bpdu_set a ((wrap64 (((r.val : Nat) : Int) * 4)) % 256) 1) 2) 16) 32) 64) 128 = ((bitN a 1 + bitN b 2 + 4 * r.val + bitN c 16 + bitN d 32 + bitN e 64 + bitN f 128 : Nat) : Int) := by decide +kernel
theorem flags_eq {m : Msg} (hr : m.right = true) : bpdu_flags.f m.kind m.ch m.pr m.le m.fo m.ag m.ac m.role (m.root : Int) m.cost (m.bridge : Int) m.port m.age m.mage m.hello m.delay = some ((m.flags : Nat) : Int) := by
  obtain ⟨r0, r3⟩ := (Msg.right_iff.1 hr).1
  have h := flags_all ⟨m.role.toNat, by omega⟩ m.ch m.pr m.le m.fo m.ag m.ac
  unfold bpdu_flags.f Msg.flags
  rw [← h]
  dsimp only
  rw [Int.toNat_of_nonneg r0]
theorem bput_ev {v n : Nat} (h1 : 1 ≤ n) (h8 : n ≤ 8) (hv : v < 256 ^ n) : Ev (fun k => bpdu_put.f k (v : Int) (n : Int)) (bs (be n v)) := by
  unfold bpdu_put.f
  exact Ev.bind (put_ev h1 h8 hv) (ev_now rfl)
theorem e256 : (256 : Nat) ^ 2 = 65536 ∧ (256 : Nat) ^ 4 = 4294967296 ∧ (256 : Nat) ^ 8 = 18446744073709551616 := by decide
theorem bput8 {v : Nat} (hv : v < 18446744073709551616) : Ev (fun k => bpdu_put.f k (v : Int) 8) (bs (be 8 v)) := bput_ev (n := 8) (by decide) (by decide) (by rw [e256.2.2]; exact hv)
theorem bput4 {x : Int} (h0 : 0 ≤ x) (h1 : x ≤ 4294967295) : Ev (fun k => bpdu_put.f k (IntKind.u64.wrap x) 4) (bs (be 4 x.toNat)) := by
  have h := bput_ev (v := x.toNat) (n := 4) (by decide) (by decide) (by rw [e256.2.1]; omega)
  rw [u64w h0 (by omega)]
  rw [Int.toNat_of_nonneg h0] at h
  exact h
theorem bput2 {x : Int} (h0 : 0 ≤ x) (h1 : x ≤ 65535) : Ev (fun k => bpdu_put.f k (IntKind.u64.wrap x) 2) (bs (be 2 x.toNat)) := by
  have h := bput_ev (v := x.toNat) (n := 2) (by decide) (by decide) (by rw [e256.1]; omega)
  rw [u64w h0 (by omega)]
  rw [Int.toNat_of_nonneg h0] at h
  exact h
theorem bl0_step {x6 x7 : ByteArray} {l : List Int} {i j : Int} {x : Int} {r : ByteArray × Int} (h0 : 0 ≤ i) (hi : i < (l.length : Int)) (hj : wrap64 (i + 1) = j) (hx : rd l i = x) (hx0 : 0 ≤ x) (hx1 : x ≤ 65535) (hs : x7.size ≤ 1000000)
    (h : Ev (fun k => bpdu_Build.l0 k x6 (x7 ++ bs (be 2 x.toNat)) l (l.length : Int) j) r) : Ev (fun k => bpdu_Build.l0 k x6 x7 l (l.length : Int) i) r := by
  refine ev_succ ?_
  simp only [bpdu_Build.l0]
  rw [hx, hj]
  exact ev_pos hi (ev_pos h0 (ev_pos hi (Ev.bind (bput2 hx0 hx1) (ev_pos (by rw [bs_size, be_len]; omega) h))))
theorem bl0_end {x6 x7 : ByteArray} {l : List Int} (h1 : x6.size ≤ 1000000) (h2 : x7.size ≤ 1000000) : Ev (fun k => bpdu_Build.l0 k x6 x7 l (l.length : Int) (l.length : Int)) (x7 ++ x6, 0) := by
  refine ev_succ ?_
  simp only [bpdu_Build.l0]
  exact ev_neg (by omega) (ev_pos (by omega) (ev_now rfl))
theorem nums_one {n : Nat} (h : n < 256) : strOfNums [(n : Int)] = bs [n] := nums_bs [(n : Int)] (fun x hx => by
  rw [List.mem_singleton] at hx
  omega)
theorem head_bs : (⟨#[66, 66, 3, 0, 0]⟩ : ByteArray) = bs bhead := rfl
theorem build_j0 {m : Msg} (hr : m.right = true) (h1 : m.root < 18446744073709551616) (h2 : m.bridge < 18446744073709551616) {K E : List Nat} (hK : K.length ≤ 10) (hE : E.length ≤ 10) :
    Ev (fun k => bpdu_Build.j0 k (bs K) (bs E) m.kind m.ch m.pr m.le m.fo m.ag m.ac m.role (m.root : Int) m.cost (m.bridge : Int) m.port m.age m.mage m.hello m.delay) (bs (bhead ++ (K ++ ([m.flags] ++ (m.nums ++ E)))), 0) := by
  obtain ⟨⟨r0, r1⟩, ⟨c0, c1⟩, ⟨p0, p1⟩, ⟨a0, a1⟩, ⟨m0, m1⟩, ⟨e0, e1⟩, ⟨d0, d1⟩⟩ := Msg.right_iff.1 hr
  have hK' : (bs K).size ≤ 10 := size_bs_le hK
  have hE' : (bs E).size ≤ 10 := size_bs_le hE
  have hh : (bs bhead).size = 5 := bs_size _
  refine ev_succ ?_
  simp only [bpdu_Build.j0, flags_eq hr, head_bs]
  refine ev_pos (by omega) (ev_some (ev_some ?_))
  rw [nums_one (Msg.flags_lt hr)]
  have hf : (bs [m.flags]).size = 1 := bs_size _
  refine ev_pos (by rw [ByteArray.size_append]; omega) (Ev.bind (bput8 h1) (ev_pos (by simp only [ByteArray.size_append, bs_size, be_len]; simp only [bs_size] at hK' hE' hh hf; omega) (Ev.bind (bput4 c0 c1) (ev_pos (by simp only [ByteArray.size_append, bs_size, be_len]; simp only [bs_size] at hK' hE' hh hf; omega) (Ev.bind (bput8 h2) (ev_pos (by simp only [ByteArray.size_append, bs_size, be_len]; simp only [bs_size] at hK' hE' hh hf; omega) (Ev.bind (bput2 p0 p1) (ev_pos (by simp only [ByteArray.size_append, bs_size, be_len]; simp only [bs_size] at hK' hE' hh hf; omega) (ev_some ?_)))))))))
  have e : bs (bhead ++ (K ++ ([m.flags] ++ (m.nums ++ E)))) = bs bhead ++ bs K ++ bs [m.flags] ++ bs (be 8 m.root) ++ bs (be 4 m.cost.toNat) ++ bs (be 8 m.bridge) ++ bs (be 2 m.port.toNat) ++ bs (be 2 m.age.toNat) ++ bs (be 2 m.mage.toNat) ++ bs (be 2 m.hello.toNat) ++ bs (be 2 m.delay.toNat) ++ bs E := by
    unfold Msg.nums
    simp only [← bs_append, List.append_assoc]
  rw [e]
  have z : (bs bhead ++ bs K ++ bs [m.flags] ++ bs (be 8 m.root) ++ bs (be 4 m.cost.toNat) ++ bs (be 8 m.bridge) ++ bs (be 2 m.port.toNat)).size ≤ 100 := by
    simp only [ByteArray.size_append, bs_size, be_len]
    simp only [bs_size] at hK' hE' hh hf
    omega
  have s2 : ∀ x : Nat, (bs (be 2 x)).size = 2 := fun x => by rw [bs_size, be_len]
  generalize bs bhead ++ bs K ++ bs [m.flags] ++ bs (be 8 m.root) ++ bs (be 4 m.cost.toNat) ++ bs (be 8 m.bridge) ++ bs (be 2 m.port.toNat) = t at *
  refine bl0_step (j := 1) (x := m.age) (by decide) (by simp only [List.length_cons, List.length_nil]; omega) (by unfold wrap64; omega) rfl a0 a1 (by omega) ?_
  refine bl0_step (j := 2) (x := m.mage) (by decide) (by simp only [List.length_cons, List.length_nil]; omega) (by unfold wrap64; omega) rfl m0 m1 (by simp only [ByteArray.size_append, s2]; omega) ?_
  refine bl0_step (j := 3) (x := m.hello) (by decide) (by simp only [List.length_cons, List.length_nil]; omega) (by unfold wrap64; omega) rfl e0 e1 (by simp only [ByteArray.size_append, s2]; omega) ?_
  refine bl0_step (j := 4) (x := m.delay) (by decide) (by simp only [List.length_cons, List.length_nil]; omega) (by unfold wrap64; omega) rfl d0 d1 (by simp only [ByteArray.size_append, s2]; omega) ?_
  exact bl0_end (by omega) (by simp only [ByteArray.size_append, s2]; omega)
/-- A message's bytes, or that it may not be. -/
def bbuild (m : Msg) : ByteArray × Int := if m.ok = true then (bs m.bytes, 0) else ((⟨#[]⟩ : ByteArray), 91)
theorem build_ev {m : Msg} (h1 : m.root < 18446744073709551616) (h2 : m.bridge < 18446744073709551616) : Ev (fun k => bpdu_Build.f k m.kind m.ch m.pr m.le m.fo m.ag m.ac m.role (m.root : Int) m.cost (m.bridge : Int) m.port m.age m.mage m.hello m.delay) (bbuild m) := by
  unfold bpdu_Build.f
  refine Ev.bind (check_ev m) ?_
  unfold bbuild
  by_cases hok : m.ok = true
  · rw [if_pos hok, if_pos hok]
    refine ev_pos rfl ?_
    unfold Msg.bytes
    rcases Msg.ok_right hok with ⟨hk, _⟩ | ⟨hk, hr, _⟩
    · rw [if_pos hk]
      exact ev_pos hk (ev_now rfl)
    · rw [if_neg hk]
      refine ev_neg hk ?_
      by_cases h0 : m.kind = 2
      · rw [if_pos h0]
        exact ev_pos h0 (build_j0 hr h1 h2 (K := [2, 2]) (E := [0]) (by decide) (by decide))
      · rw [if_neg h0]
        refine ev_neg h0 ?_
        have h := build_j0 hr h1 h2 (K := [0, 0]) (E := []) (by decide) (by decide)
        rw [List.append_nil] at h
        exact h
  · rw [if_neg hok, if_neg hok]
    exact ev_neg (by decide) (ev_now rfl)

theorem u8_one : ∀ b : Nat, b < 256 → ((Go.bits .and .u8 (b : Int) 1) != 0) = decide (b % 2 = 1) := by decide +kernel
theorem u8_two : ∀ b : Nat, b < 256 → ((Go.bits .and .u8 (b : Int) 2) != 0) = decide (b / 2 % 2 = 1) := by decide +kernel
theorem u8_16 : ∀ b : Nat, b < 256 → ((Go.bits .and .u8 (b : Int) 16) != 0) = decide (b / 16 % 2 = 1) := by decide +kernel
theorem u8_32 : ∀ b : Nat, b < 256 → ((Go.bits .and .u8 (b : Int) 32) != 0) = decide (b / 32 % 2 = 1) := by decide +kernel
theorem u8_64 : ∀ b : Nat, b < 256 → ((Go.bits .and .u8 (b : Int) 64) != 0) = decide (b / 64 % 2 = 1) := by decide +kernel
theorem u8_128 : ∀ b : Nat, b < 256 → ((Go.bits .and .u8 (b : Int) 128) != 0) = decide (b / 128 % 2 = 1) := by decide +kernel
/-- A message as the printed functions tell it. -/
def mrow (m : Msg) : Int × Bool × Bool × Bool × Bool × Bool × Bool × Int × Int × Int × Int × Int × Int × Int × Int × Int := (m.kind, m.ch, m.pr, m.le, m.fo, m.ag, m.ac, m.role, (m.root : Int), m.cost, (m.bridge : Int), m.port, m.age, m.mage, m.hello, m.delay)
def mtup {α : Type} (m : Msg) (e : α) : Int × Bool × Bool × Bool × Bool × Bool × Bool × Int × Int × Int × Int × Int × Int × Int × Int × Int × α := (m.kind, m.ch, m.pr, m.le, m.fo, m.ag, m.ac, m.role, (m.root : Int), m.cost, (m.bridge : Int), m.port, m.age, m.mage, m.hello, m.delay, e)
theorem told_ev {s : ByteArray} (h38 : 38 ≤ s.size) (hs : s.size ≤ 1000000) : Ev (fun k => bpdu_told.f k s) (mrow (told (nb s))) := by
  have l2 := fun i => numAt_lt (nb_byt s) i 2
  have l4 := numAt_lt (nb_byt s) 16 4
  rw [e256.2.1] at l4
  rw [e256.1] at l2
  have hb := getD_byte (nb_byt s) 7
  have w2 : ∀ i, wrap64 ((numAt (nb s) i 2 : Nat) : Int) = ((numAt (nb s) i 2 : Nat) : Int) := fun i => w64 (by omega) (by have := l2 i; omega)
  have w4 : wrap64 ((numAt (nb s) 16 4 : Nat) : Int) = ((numAt (nb s) 16 4 : Nat) : Int) := w64 (by omega) (by omega)
  unfold bpdu_told.f
  refine ev_pos (by omega) ?_
  refine Ev.bind (get_ev (i := 8) (n := 8) (by decide) (by decide) (by omega) (by omega)) ?_
  refine Ev.bind (get_ev (i := 16) (n := 4) (by decide) (by decide) (by omega) (by omega)) ?_
  refine Ev.bind (get_ev (i := 20) (n := 8) (by decide) (by decide) (by omega) (by omega)) ?_
  refine Ev.bind (get_ev (i := 28) (n := 2) (by decide) (by decide) (by omega) (by omega)) ?_
  refine Ev.bind (get_ev (i := 30) (n := 2) (by decide) (by decide) (by omega) (by omega)) ?_
  refine Ev.bind (get_ev (i := 32) (n := 2) (by decide) (by decide) (by omega) (by omega)) ?_
  refine Ev.bind (get_ev (i := 34) (n := 2) (by decide) (by decide) (by omega) (by omega)) ?_
  refine Ev.bind (get_ev (i := 36) (n := 2) (by decide) (by decide) (by omega) (by omega)) ?_
  refine ev_now ?_
  have e7 : bt s 7 = (((nb s).getD 7 0 : Nat) : Int) := bt_nb s 7
  rw [e7, u8_one _ hb, u8_128 _ hb, w4, w2, w2, w2, w2, w2]
  rfl
theorem quick_eq (m : Msg) {f : Nat} (hf : f < 256) : bpdu_quick.f m.kind m.ch m.pr m.le m.fo m.ag m.ac m.role (m.root : Int) m.cost (m.bridge : Int) m.port m.age m.mage m.hello m.delay (f : Int) = some (mrow (quick m f)) := by
  unfold bpdu_quick.f
  rw [u8_two _ hf, u8_16 _ hf, u8_32 _ hf, u8_64 _ hf]
  have e : Int.tdiv (f : Int) 4 % 4 = ((f / 4 % 4 : Nat) : Int) := by
    rw [Int.tdiv_eq_ediv_of_nonneg (by omega)]
    omega
  rw [e]
  rfl
theorem toList_nb (s : ByteArray) : s.toList.map UInt8.toNat = nb s := by
  rw [ByteArray.toList_eq]
  rfl
theorem list_nb (s : ByteArray) (l : List UInt8) : s.toList = l ↔ nb s = l.map UInt8.toNat := by
  rw [← toList_nb]
  constructor
  · intro h
    rw [h]
  · intro h
    have : Function.Injective UInt8.toNat := fun a b h => UInt8.toNat_inj.1 h
    exact List.map_inj_right (fun a b h => UInt8.toNat_inj.1 h) |>.1 h
theorem cut_list (s : ByteArray) (l : List UInt8) : (s.extract 5 7).toList = l ↔ ((nb s).drop 5).take 2 = l.map UInt8.toNat := by
  rw [list_nb, nb_extract, List.drop_take]
theorem head_eq {s : ByteArray} (h : 7 ≤ s.size) : strings_HasPrefix.f s (⟨#[66, 66, 3, 0, 0]⟩ : ByteArray) = some (decide ((nb s).take 5 = bhead)) := by
  unfold strings_HasPrefix.f stringslite_HasPrefix.f
  have z : (⟨#[66, 66, 3, 0, 0]⟩ : ByteArray).size = 5 := rfl
  rw [z, if_pos (by omega), if_pos (by omega), if_pos (by omega)]
  show some _ = _
  congr 1
  have e : (⟨#[66, 66, 3, 0, 0]⟩ : ByteArray).toList = ([66, 66, 3, 0, 0] : List UInt8) := by decide +kernel
  rw [e, Bool.eq_iff_iff, beq_iff_eq, decide_eq_true_eq]
  refine (list_nb _ _).trans ?_
  rw [nb_extract]
  exact Iff.rfl
theorem parse_j1 {s : ByteArray} (hs : s.size ≤ 1000000) {c : Bool} (h : c = true ↔ s.size < 38 ∨ ((nb s).drop 5).take 2 = [2, 2] ∧ s.size = 38) (h0 : ((nb s).drop 5).take 2 = [0, 0] ∨ ((nb s).drop 5).take 2 = [2, 2]) (h7 : 7 ≤ s.size) (hh : (nb s).take 5 = bhead) :
    Ev (fun k => bpdu_Parse.j1 k s (s.extract 5 7) c) (mtup (bparse (nb s)).1 (bparse (nb s)).2) := by
  have hl := nb_len s
  refine ev_succ ?_
  simp only [bpdu_Parse.j1, cut_list]
  unfold bparse
  rw [hl, if_neg (by omega), if_neg (by rw [hh]; exact fun h => h rfl)]
  by_cases hc : c = true
  · refine ev_pos hc ?_
    rcases h0 with h0 | h0
    · rw [h0, if_neg (by decide), if_pos rfl, if_pos (by
        rcases h.1 hc with h | h
        · exact h
        · rw [h0] at h
          exact absurd h.1 (by decide))]
      exact ev_now rfl
    · rw [h0, if_neg (by decide), if_neg (by decide), if_pos rfl, if_pos (by
        rcases h.1 hc with h | h <;> omega)]
      exact ev_now rfl
  · refine ev_neg hc ?_
    have h1 : ¬ s.size < 38 := fun k => hc (h.2 (Or.inl k))
    rcases h0 with h0 | h0
    · rw [h0, if_neg (by decide), if_pos rfl, if_neg h1]
      exact ev_neg (by decide) (Ev.bind (told_ev (by omega) hs) (ev_now rfl))
    · have h2 : ¬ s.size = 38 := fun k => hc (h.2 (Or.inr ⟨h0, k⟩))
      rw [h0, if_neg (by decide), if_neg (by decide), if_pos rfl, if_neg (by omega)]
      refine ev_pos rfl (Ev.bind (told_ev (by omega) hs) (ev_pos (by omega) ?_))
      have e7 : bt s 7 = (((nb s).getD 7 0 : Nat) : Int) := bt_nb s 7
      have q := quick_eq (told (nb s)) (getD_byte (nb_byt s) 7)
      rw [e7]
      unfold mrow at q ⊢
      dsimp only at q ⊢
      rw [q]
      exact ev_some (ev_now rfl)
theorem parse_ev {s : ByteArray} (hs : s.size ≤ 1000000) : Ev (fun k => bpdu_Parse.f k s) (mtup (bparse (nb s)).1 (bparse (nb s)).2) := by
  have hl := nb_len s
  unfold bpdu_Parse.f
  by_cases h7 : s.size < 7
  · refine ev_pos (by omega) ?_
    unfold bparse
    rw [hl, if_pos h7]
    exact ev_now rfl
  refine ev_neg (by omega) ?_
  rw [head_eq (by omega)]
  refine ev_some ?_
  by_cases hh : (nb s).take 5 = bhead
  rotate_left
  · refine ev_neg (by rw [decide_eq_false hh]; decide) ?_
    unfold bparse
    rw [hl, if_neg h7, if_pos hh]
    exact ev_now rfl
  refine ev_pos (decide_eq_true hh) (ev_pos (by decide) (ev_pos (by omega) ?_))
  simp only [cut_list]
  by_cases c1 : ((nb s).drop 5).take 2 = [0, 128]
  · refine ev_pos c1 ?_
    unfold bparse
    rw [hl, if_neg h7, if_neg (by rw [hh]; exact fun h => h rfl), if_pos c1]
    exact ev_now rfl
  refine ev_neg c1 ?_
  have go : ((nb s).drop 5).take 2 = [0, 0] ∨ ((nb s).drop 5).take 2 = [2, 2] → Ev (fun k => bpdu_Parse.j0 k s (s.extract 5 7) false) (mtup (bparse (nb s)).1 (bparse (nb s)).2) := by
    intro h0
    refine ev_succ ?_
    simp only [bpdu_Parse.j0, cut_list]
    refine ev_neg (by decide) ?_
    by_cases h38 : s.size < 38
    · exact ev_pos (by omega) (parse_j1 hs ⟨fun _ => Or.inl h38, fun _ => rfl⟩ h0 (by omega) hh)
    refine ev_neg (by omega) ?_
    by_cases h2 : ((nb s).drop 5).take 2 = [2, 2]
    · refine ev_pos h2 (parse_j1 hs ?_ h0 (by omega) hh)
      rw [beq_iff_eq]
      exact ⟨fun h => Or.inr ⟨h2, by omega⟩, fun h => by rcases h with h | h <;> omega⟩
    · exact ev_neg h2 (parse_j1 hs ⟨fun h => (by cases h), fun h => by
        rcases h with h | h
        · exact absurd h h38
        · exact absurd h.1 h2⟩ h0 (by omega) hh)
  by_cases c2 : ((nb s).drop 5).take 2 = [0, 0]
  · exact ev_pos c2 (go (Or.inl c2))
  refine ev_neg c2 ?_
  by_cases c3 : ((nb s).drop 5).take 2 = [2, 2]
  · have e : ((s.extract 5 7).toList != ([2, 2] : List UInt8)) = false := by
      rw [bne_eq_false_iff_eq, cut_list]
      exact c3
    rw [e]
    exact go (Or.inr c3)
  · have e : ((s.extract 5 7).toList != ([2, 2] : List UInt8)) = true := by
      rw [bne_iff_ne]
      exact fun h => c3 ((cut_list _ _).1 h)
    rw [e]
    unfold bparse
    rw [hl, if_neg h7, if_neg (by rw [hh]; exact fun h => h rfl), if_neg c1, if_neg c2, if_neg c3]
    refine ev_succ ?_
    simp only [bpdu_Parse.j0]
    first | exact ev_pos rfl (ev_now rfl) | exact ev_pos trivial (ev_now rfl) | exact ev_now rfl
end Go.Proofs.YtbfjlhjfpmgplaaDoor.P
