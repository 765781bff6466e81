/- What the printed functions of udp compute. -/
import Derived.Test.YtppaikjbafobbaaDoorPx2
import Derived.Test.YtppaikjbafobbaaDoorPx4
import Derived.Test.YtppaikjbafobbaaDoorPx7
import Derived.Test.YtppaikjbafobbaaDoorPx13
import Derived.Test.YtppaikjbafobbaaDoorPx14
import Derived.Test.YtppaikjbafobbaaDoorPx15
import Derived.Test.YtppaikjbafobbaaDoorCsumHead
import Derived.Test.YtppaikjbafobbaaDoorGet
namespace Go.Proofs.YtppaikjbafobbaaDoor.P
open Go Go.RowKit Go.Proofs.YtppaikjbafobbaaDoorW.PrintWords Go.Proofs.YtppaikjbafobbaaDoorW.PrintLast Go.Proofs.YtppaikjbafobbaaDoorW.PrintMore Go.Proofs.YtppaikjbafobbaaDoor.L

/-- May a datagram be? -/
def uok (src dst : Int) (body : ByteArray) : Bool := decide (0 ≤ src) && decide (src < 65536) && (decide (0 ≤ dst) && decide (dst < 65536)) && decide (body.size ≤ 65507)
theorem check_eq (src dst : Int) (nosum : Bool) (body : ByteArray) : udp_Check.f src dst nosum body = some (if uok src dst body = true then 0 else 71) := by
  unfold udp_Check.f udp_pt_ uok
  by_cases h1 : 0 ≤ src <;> by_cases h2 : src < 65536 <;> by_cases h3 : 0 ≤ dst <;> by_cases h4 : dst < 65536 <;> by_cases h5 : body.size ≤ 65507 <;> simp [h1, h2, h3, h4, h5]
theorem uok_iff {src dst : Int} {body : ByteArray} : uok src dst body = true ↔ (0 ≤ src ∧ src < 65536) ∧ (0 ≤ dst ∧ dst < 65536) ∧ body.size ≤ 65507 := by
  unfold uok
  simp
  omega
theorem word_ev {n : Nat} (h : n < 65536) : Ev (fun k => udp_word.f k (n : Int)) (bs (be 2 n)) := by
  unfold udp_word.f
  rw [u64w (by omega) (by omega)]
  exact Ev.bind (put_ev (n := 2) (by decide) (by decide) (by omega)) (ev_now rfl)
/-- The first six bytes. -/
def uhead (src dst n : Nat) : List Nat := be 2 src ++ be 2 dst ++ be 2 n
theorem uhead_len (src dst n : Nat) : (uhead src dst n).length = 6 := by simp [uhead, be_len]
theorem uhead_byt (src dst n : Nat) : Byt (uhead src dst n) := ((be_byt _ _).append (be_byt _ _)).append (be_byt _ _)
/-- The sum that is told. -/
def usum (a b src dst : Nat) (body : List Nat) : Nat :=
  if csumN (headL a b 17 ((body.length + 8 : Nat) : Int) ++ (uhead src dst (body.length + 8) ++ body)) = 0 then 65535 else csumN (headL a b 17 ((body.length + 8 : Nat) : Int) ++ (uhead src dst (body.length + 8) ++ body))
theorem csumN_le (l : List Nat) : csumN l ≤ 65535 := by
  unfold csumN
  omega
theorem usum_bound (a b src dst : Nat) (body : List Nat) : 1 ≤ usum a b src dst body ∧ usum a b src dst body ≤ 65535 := by
  unfold usum
  have := csumN_le (headL a b 17 ((body.length + 8 : Nat) : Int) ++ (uhead src dst (body.length + 8) ++ body))
  split <;> omega
/-- The bytes of a datagram that may be. -/
def ubytes (a b src dst : Nat) (nosum : Bool) (body : List Nat) : List Nat := uhead src dst (body.length + 8) ++ (be 2 (if nosum = true then 0 else usum a b src dst body) ++ body)
theorem ubytes_byt {a b src dst : Nat} {nosum : Bool} {body : List Nat} (h : Byt body) : Byt (ubytes a b src dst nosum body) := (uhead_byt _ _ _).append ((be_byt _ _).append h)
theorem ubytes_len (a b src dst : Nat) (nosum : Bool) (body : List Nat) : (ubytes a b src dst nosum body).length = body.length + 8 := by
  unfold ubytes
  rw [List.length_append, List.length_append, uhead_len, be_len]
  omega
def ubuild (a b : Nat) (src dst : Int) (nosum : Bool) (body : ByteArray) : ByteArray × Int :=
  if uok src dst body = true then (bs (ubytes a b src.toNat dst.toNat nosum (nb body)), 0) else ((⟨#[]⟩ : ByteArray), 71)
theorem ubs_eq (src dst n x : Nat) (body : ByteArray) : bs (be 2 src) ++ bs (be 2 dst) ++ bs (be 2 n) ++ bs (be 2 x) ++ body = bs (uhead src dst n ++ (be 2 x ++ nb body)) := by
  apply nb_inj
  rw [nb_bs ((uhead_byt _ _ _).append ((be_byt _ _).append (nb_byt body)))]
  simp only [nb_append, nb_bs (be_byt _ _), uhead, List.append_assoc]
theorem build_ev {a b : Nat} (ha : a < 4294967296) (hb : b < 4294967296) (src dst : Int) (nosum : Bool) (body : ByteArray) :
    Ev (fun k => udp_Build.f k (a : Int) (b : Int) src dst nosum body) (ubuild a b src dst nosum body) := by
  unfold udp_Build.f ubuild
  rw [check_eq]
  by_cases hok : uok src dst body = true
  · rw [if_pos hok, if_pos hok]
    refine ev_some (ev_pos rfl ?_)
    obtain ⟨⟨h1, h2⟩, ⟨h3, h4⟩, h5⟩ := uok_iff.1 hok
    obtain ⟨s, rfl⟩ := Int.eq_ofNat_of_zero_le h1
    obtain ⟨d, rfl⟩ := Int.eq_ofNat_of_zero_le h3
    have hl := nb_len body
    have hn : wrap64 (8 + (body.size : Int)) = ((body.size + 8 : Nat) : Int) := by
      rw [w64 (by omega) (by omega)]
      omega
    rw [hn]
    have z3 : (bs (be 2 s) ++ bs (be 2 d) ++ bs (be 2 (body.size + 8))).size = 6 := by simp [ByteArray.size_append, bs_size, be_len]
    have hu := usum_bound a b s d (nb body)
    have fin : ∀ x : Nat, Ev (fun _ : Nat => if (bs (be 2 s) ++ bs (be 2 d) ++ bs (be 2 (body.size + 8))).size + (bs (be 2 x)).size ≤ 9223372036854775807 then (if (bs (be 2 s) ++ bs (be 2 d) ++ bs (be 2 (body.size + 8)) ++ bs (be 2 x)).size + body.size ≤ 9223372036854775807 then some (bs (be 2 s) ++ bs (be 2 d) ++ bs (be 2 (body.size + 8)) ++ bs (be 2 x) ++ body, (0 : Int)) else none) else none) (bs (uhead s d (body.size + 8) ++ (be 2 x ++ nb body)), 0) := by
      intro x
      refine ev_pos (by rw [z3, bs_size, be_len]; decide) (ev_pos (by rw [ByteArray.size_append, z3, bs_size, be_len]; omega) (ev_now ?_))
      rw [ubs_eq]
    refine Ev.bind (word_ev (by omega)) (Ev.bind (word_ev (by omega)) (ev_pos (by simp [bs_size, be_len]) ?_))
    refine Ev.bind (word_ev (by omega)) (ev_pos (by simp [ByteArray.size_append, bs_size, be_len]) ?_)
    simp only [Int.toNat_natCast]
    unfold ubytes
    rw [hl]
    cases nosum with
    | true =>
      refine ev_pos rfl ?_
      rw [if_pos rfl]
      exact Ev.bind (word_ev (n := 0) (by omega)) (fin 0)
    | false =>
      refine ev_neg (by decide) ?_
      rw [if_neg (by decide)]
      refine Ev.bind (head_f_ev ha hb 17 _) ?_
      have c3 : cat [bs (headL a b 17 ((body.size + 8 : Nat) : Int)), bs (be 2 s) ++ bs (be 2 d) ++ bs (be 2 (body.size + 8)), body] = headL a b 17 (((nb body).length + 8 : Nat) : Int) ++ (uhead s d ((nb body).length + 8) ++ nb body) := by
        rw [cat_three, nb_bs (headL_byt _ _ _ _), nb_append, nb_append, nb_bs (be_byt _ _), nb_bs (be_byt _ _), nb_bs (be_byt _ _), hl]
        rfl
      have l3 : (cat [bs (headL a b 17 ((body.size + 8 : Nat) : Int)), bs (be 2 s) ++ bs (be 2 d) ++ bs (be 2 (body.size + 8)), body]).length ≤ 1099511627775 := by
        rw [c3, List.length_append, List.length_append, headL_len, uhead_len]
        omega
      refine Ev.bind (of_f_ev (by simp) l3) ?_
      rw [c3]
      have hc := csumN_le (headL a b 17 (((nb body).length + 8 : Nat) : Int) ++ (uhead s d ((nb body).length + 8) ++ nb body))
      unfold usum
      generalize csumN (headL a b 17 (((nb body).length + 8 : Nat) : Int) ++ (uhead s d ((nb body).length + 8) ++ nb body)) = c at *
      by_cases h0 : c = 0
      · rw [if_pos h0]
        exact ev_pos (by omega) (Ev.bind (word_ev (n := 65535) (by omega)) (fin 65535))
      · rw [if_neg h0]
        exact ev_neg (by omega) (Ev.bind (word_ev (by omega)) (fin c))
  · rw [if_neg hok, if_neg hok]
    exact ev_some (ev_neg (by decide) (ev_now rfl))
/-- What bytes tell: from and to which port, is no sum told, the body; or what is wrong. -/
def uparse (a b : Nat) (s : ByteArray) : Int × Int × Bool × ByteArray × Int :=
  if s.size < 8 then (0, 0, false, (⟨#[]⟩ : ByteArray), 70)
  else if numAt (nb s) 4 2 < 8 then (0, 0, false, (⟨#[]⟩ : ByteArray), 71)
  else if s.size < numAt (nb s) 4 2 then (0, 0, false, (⟨#[]⟩ : ByteArray), 70)
  else if numAt (nb s) 6 2 ≠ 0 ∧ foldN (wsum (headL a b 17 ((numAt (nb s) 4 2 : Nat) : Int) ++ (nb s).take (numAt (nb s) 4 2))) ≠ 65535 then (0, 0, false, (⟨#[]⟩ : ByteArray), 72)
  else (((numAt (nb s) 0 2 : Nat) : Int), ((numAt (nb s) 2 2 : Nat) : Int), decide (numAt (nb s) 6 2 = 0), s.extract 8 (numAt (nb s) 4 2), 0)
theorem two_zero {s : ByteArray} (h : 8 ≤ s.size) : ((s.extract 6 8).toList == ([0, 0] : List UInt8)) = decide (numAt (nb s) 6 2 = 0) := by
  have hl := nb_len s
  have hby := nb_byt s
  have e1 : nb (s.extract 6 8) = ((nb s).drop 6).take 2 := by rw [nb_extract, List.drop_take]
  have e2 : ((nb s).drop 6).take 2 = [(nb s).getD 6 0, (nb s).getD 7 0] := by
    rw [drop_two (by omega)]
    rfl
  have e3 : numAt (nb s) 6 2 = (nb s).getD 6 0 * 256 + (nb s).getD 7 0 := by
    unfold numAt
    rw [e2]
    simp [num]
  have e4 : (s.extract 6 8).toList = [0, 0] ↔ nb (s.extract 6 8) = [0, 0] := by
    rw [ByteArray.toList_eq]
    constructor
    · intro h
      unfold nb
      rw [h]
      rfl
    · intro h
      have : s.extract 6 8 = (⟨#[0, 0]⟩ : ByteArray) := nb_inj (by rw [h]; rfl)
      rw [this]
  rw [Bool.eq_iff_iff, beq_iff_eq, decide_eq_true_eq, e4, e1, e2, e3]
  simp
  omega
theorem wrong_ev {a b : Nat} (ha : a < 4294967296) (hb : b < 4294967296) {s : ByteArray} (hs : s.size ≤ 1000000) :
    Ev (fun k => udp_wrong.f k (a : Int) (b : Int) s) (if s.size < 8 then (0, 0) else if numAt (nb s) 4 2 < 8 then (1, 0) else if s.size < numAt (nb s) 4 2 then (2, 0) else if numAt (nb s) 6 2 ≠ 0 ∧ foldN (wsum (headL a b 17 ((numAt (nb s) 4 2 : Nat) : Int) ++ (nb s).take (numAt (nb s) 4 2))) ≠ 65535 then (3, 0) else (4, ((numAt (nb s) 4 2 : Nat) : Int))) := by
  have hl := nb_len s
  have hby := nb_byt s
  unfold udp_wrong.f
  by_cases h0 : s.size < 8
  · rw [if_pos h0]
    exact ev_pos (by omega) (ev_now rfl)
  · rw [if_neg h0]
    refine ev_neg (by omega) ?_
    have g1 := get_ev (s := s) (i := 4) (n := 2) (by decide) (by decide) (by omega) (by omega)
    have g2 := get_ev (s := s) (i := 6) (n := 2) (by decide) (by decide) (by omega) (by omega)
    refine Ev.bind g1 (Ev.bind g2 ?_)
    have hn := numAt_lt hby 4 2
    have hm := numAt_lt hby 6 2
    have h256 : (256 : Nat) ^ 2 = 65536 := by decide
    dsimp only
    generalize numAt (nb s) 4 2 = n at *
    generalize numAt (nb s) 6 2 = m at *
    rw [w64 (x := (n : Int)) (by omega) (by omega)]
    by_cases h1 : n < 8
    · rw [if_pos h1]
      exact ev_pos (by omega) (ev_now rfl)
    · rw [if_neg h1]
      refine ev_neg (by omega) ?_
      by_cases h2 : s.size < n
      · rw [if_pos h2]
        exact ev_pos (by omega) (ev_now rfl)
      · rw [if_neg h2]
        refine ev_neg (by omega) ?_
        by_cases h3 : m = 0
        · rw [if_neg (by omega)]
          exact ev_pos (by omega) (ev_now rfl)
        · refine ev_neg (by omega) (Ev.bind (head_f_ev ha hb 17 _) (ev_pos (by omega) (ev_pos (by omega) ?_)))
          have c2 : cat [bs (headL a b 17 (n : Int)), s.extract 0 (n : Int).toNat] = headL a b 17 (n : Int) ++ (nb s).take n := by
            rw [cat_two, nb_bs (headL_byt _ _ _ _), nb_extract, List.drop_zero, Int.toNat_natCast]
          refine Ev.bind (right_f_ev (by simp) (by rw [c2, List.length_append, headL_len, List.length_take]; omega)) ?_
          rw [c2]
          by_cases h4 : foldN (wsum (headL a b 17 (n : Int) ++ (nb s).take n)) = 65535
          · have hcond : ¬ (m ≠ 0 ∧ foldN (wsum (headL a b 17 (n : Int) ++ (nb s).take n)) ≠ 65535) := fun h => h.2 h4
            rw [if_neg hcond]
            exact ev_pos (decide_eq_true h4) (ev_now rfl)
          · have hcond : m ≠ 0 ∧ foldN (wsum (headL a b 17 (n : Int) ++ (nb s).take n)) ≠ 65535 := ⟨h3, h4⟩
            rw [if_pos hcond]
            exact ev_neg (fun h => h4 (of_decide_eq_true h)) (ev_now rfl)
theorem parse_ev {a b : Nat} (ha : a < 4294967296) (hb : b < 4294967296) {s : ByteArray} (hs : s.size ≤ 1000000) : Ev (fun k => udp_Parse.f k (a : Int) (b : Int) s) (uparse a b s) := by
  have hl := nb_len s
  have hby := nb_byt s
  unfold udp_Parse.f uparse
  refine Ev.bind (wrong_ev ha hb hs) ?_
  by_cases h0 : s.size < 8
  · rw [if_pos h0, if_pos h0]
    exact ev_pos rfl (ev_now rfl)
  · rw [if_neg h0, if_neg h0]
    by_cases h1 : numAt (nb s) 4 2 < 8
    · rw [if_pos h1, if_pos h1]
      exact ev_neg (by decide) (ev_neg (by decide) (ev_pos rfl (ev_now rfl)))
    · rw [if_neg h1, if_neg h1]
      by_cases h2 : s.size < numAt (nb s) 4 2
      · rw [if_pos h2, if_pos h2]
        exact ev_neg (by decide) (ev_pos rfl (ev_now rfl))
      · rw [if_neg h2, if_neg h2]
        by_cases h3 : numAt (nb s) 6 2 ≠ 0 ∧ foldN (wsum (headL a b 17 ((numAt (nb s) 4 2 : Nat) : Int) ++ (nb s).take (numAt (nb s) 4 2))) ≠ 65535
        · rw [if_pos h3, if_pos h3]
          exact ev_neg (by decide) (ev_neg (by decide) (ev_neg (by decide) (ev_pos rfl (ev_now rfl))))
        · rw [if_neg h3, if_neg h3]
          refine ev_neg (by dsimp only; decide) (ev_neg (by dsimp only; decide) (ev_neg (by dsimp only; decide) (ev_neg (by dsimp only; decide) ?_)))
          have g1 := get_ev (s := s) (i := 0) (n := 2) (by decide) (by decide) (by omega) (by omega)
          have g2 := get_ev (s := s) (i := 2) (n := 2) (by decide) (by decide) (by omega) (by omega)
          have hx := numAt_lt hby 0 2
          have hy := numAt_lt hby 2 2
          have h256 : (256 : Nat) ^ 2 = 65536 := by decide
          refine Ev.bind g1 (Ev.bind g2 (ev_pos (by decide) (ev_pos (by omega) (ev_pos (by dsimp only; omega) (ev_pos (by dsimp only; omega) (ev_now ?_))))))
          dsimp only
          rw [w64 (by omega) (by omega), w64 (by omega) (by omega), two_zero (by omega), Int.toNat_natCast]
theorem udp_fixed_ev : Ev (fun k => gangwaylaw07_fixed.f k) true := by
  unfold gangwaylaw07_fixed.f
  have b1 := build_ev (a := 1) (b := 2) (by decide) (by decide) 1 2 true (⟨#[104, 105]⟩ : ByteArray)
  have p1 := parse_ev (a := 3) (b := 4) (by decide) (by decide) (s := (⟨#[0, 1, 0, 2, 0, 10, 0, 0, 104, 105]⟩ : ByteArray)) (by decide)
  have p2 := parse_ev (a := 0) (b := 0) (by decide) (by decide) (s := (⟨#[0, 1, 0, 2, 0, 7, 0, 0, 104, 105]⟩ : ByteArray)) (by decide)
  have p3 := parse_ev (a := 0) (b := 0) (by decide) (by decide) (s := (⟨#[0, 1, 0, 2, 0, 10, 0, 1, 104, 105]⟩ : ByteArray)) (by decide)
  have p4 := parse_ev (a := 0) (b := 0) (by decide) (by decide) (s := (⟨#[115, 104, 111, 114, 116]⟩ : ByteArray)) (by decide)
  refine Ev.bind b1 (Ev.bind p1 (Ev.bind p2 (Ev.bind p3 (Ev.bind p4 ?_))))
  refine ev_pos (by decide +kernel) (ev_pos (by decide +kernel) (ev_pos (by decide +kernel) (ev_pos (by decide +kernel) (ev_pos (by decide +kernel) (ev_pos (by decide +kernel) (ev_pos (by decide +kernel) ?_))))))
  rw [check_eq]
  exact ev_some (ev_now (by decide +kernel))
end Go.Proofs.YtppaikjbafobbaaDoor.P
