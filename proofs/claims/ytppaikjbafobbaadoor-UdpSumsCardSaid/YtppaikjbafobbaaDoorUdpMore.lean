/- What a built datagram is parsed as. -/
import Derived.Test.YtppaikjbafobbaaDoorUdp
namespace Go.Proofs.YtppaikjbafobbaaDoor.P
open Go Go.RowKit Go.Proofs.YtppaikjbafobbaaDoorW.PrintWords Go.Proofs.YtppaikjbafobbaaDoorW.PrintLast Go.Proofs.YtppaikjbafobbaaDoorW.PrintMore Go.Proofs.YtppaikjbafobbaaDoor.L

theorem numAt_be {p : List Nat} (q : List Nat) {n v i : Nat} (hp : p.length = i) (hv : v < 256 ^ n) : numAt (p ++ (be n v ++ q)) i n = v := by
  unfold numAt
  rw [List.drop_append_of_le_length (by rw [hp]; exact Nat.le_refl _), List.drop_of_length_le (by rw [hp]; exact Nat.le_refl _), List.nil_append, List.take_append_of_le_length (by rw [be_len]; exact Nat.le_refl _), List.take_of_length_le (by rw [be_len]; exact Nat.le_refl _), num_be]
  exact Nat.mod_eq_of_lt hv
theorem wsum_two {x : Nat} (h : x < 65536) : wsum (be 2 x) = x := by
  simp only [be, List.nil_append, List.cons_append, wsum]
  omega
theorem empty_list : (⟨#[]⟩ : ByteArray).toList = [] := by decide +kernel
theorem cut_some (s d : Int) (n : Bool) (b : ByteArray) : ∃ c : ByteArray, gangwaylaw07_cut.f s d n b = some (s, d, n, c) ∧ c.size ≤ 1700 := by
  have h1 := mn_le (b.size : Int) 1700
  have h2 := mn_nonneg (size_nat b) (show (0 : Int) ≤ 1700 by decide)
  unfold gangwaylaw07_cut.f
  rw [if_pos h2, if_pos h1.1]
  exact ⟨_, rfl, cut_size b 1700⟩
/-- The sum that is told, behind the two heads. -/
def told (a b s d : Nat) (nosum : Bool) (body : List Nat) : Nat := if nosum = true then 0 else usum a b s d body
theorem told_false (a b s d : Nat) (body : List Nat) : told a b s d false body = usum a b s d body := by
  unfold told
  rw [if_neg (by decide)]
theorem told_lt (a b s d : Nat) (nosum : Bool) (body : List Nat) : told a b s d nosum body < 65536 := by
  have := usum_bound a b s d body
  unfold told
  split <;> omega
theorem built_size (a b s d : Nat) (nosum : Bool) (body more : ByteArray) : (bs (ubytes a b s d nosum (nb body)) ++ more).size = body.size + 8 + more.size := by
  rw [ByteArray.size_append, bs_size, ubytes_len, nb_len]
theorem built_nb (a b s d : Nat) (nosum : Bool) (body more : ByteArray) : nb (bs (ubytes a b s d nosum (nb body)) ++ more) = ubytes a b s d nosum (nb body) ++ nb more := by
  rw [nb_append, nb_bs (ubytes_byt (nb_byt body))]
theorem ubytes_flat (a b s d : Nat) (nosum : Bool) (body more : List Nat) : ubytes a b s d nosum body ++ more = be 2 s ++ (be 2 d ++ (be 2 (body.length + 8) ++ (be 2 (told a b s d nosum body) ++ (body ++ more)))) := by
  unfold ubytes uhead told
  simp only [List.append_assoc]
theorem built_at0 {a b s d : Nat} {nosum : Bool} {body more : List Nat} (hs : s < 65536) : numAt (ubytes a b s d nosum body ++ more) 0 2 = s := by
  rw [ubytes_flat]
  exact numAt_be (p := []) _ rfl (by omega)
theorem built_at2 {a b s d : Nat} {nosum : Bool} {body more : List Nat} (hd : d < 65536) : numAt (ubytes a b s d nosum body ++ more) 2 2 = d := by
  rw [ubytes_flat]
  exact numAt_be (p := be 2 s) _ (be_len _ _) (by omega)
theorem built_at4 {a b s d : Nat} {nosum : Bool} {body more : List Nat} (hb : body.length ≤ 65507) : numAt (ubytes a b s d nosum body ++ more) 4 2 = body.length + 8 := by
  rw [ubytes_flat, ← List.append_assoc (be 2 s)]
  exact numAt_be (p := be 2 s ++ be 2 d) _ (by simp [be_len]) (by omega)
theorem built_at6 {a b s d : Nat} {nosum : Bool} {body more : List Nat} : numAt (ubytes a b s d nosum body ++ more) 6 2 = told a b s d nosum body := by
  rw [ubytes_flat, ← List.append_assoc (be 2 s), ← List.append_assoc (be 2 s ++ be 2 d)]
  have := told_lt a b s d nosum body
  exact numAt_be (p := be 2 s ++ be 2 d ++ be 2 (body.length + 8)) _ (by simp [be_len]) (by omega)
theorem built_take (a b s d : Nat) (nosum : Bool) (body more : List Nat) : (ubytes a b s d nosum body ++ more).take (body.length + 8) = ubytes a b s d nosum body := by
  have h := ubytes_len a b s d nosum body
  rw [List.take_append_of_le_length (by omega), List.take_of_length_le (by omega)]
theorem built_body (a b s d : Nat) (nosum : Bool) (body more : ByteArray) : (bs (ubytes a b s d nosum (nb body)) ++ more).extract 8 (body.size + 8) = body := by
  apply nb_inj
  rw [nb_extract, built_nb, ← nb_len body, built_take]
  unfold ubytes
  rw [← List.append_assoc, List.drop_append_of_le_length (by rw [List.length_append, uhead_len, be_len]; exact Nat.le_refl _), List.drop_of_length_le (by rw [List.length_append, uhead_len, be_len]; exact Nat.le_refl _)]
  rfl
/-- The words' sum but for the addresses. -/
def rest (a b s d : Nat) (nosum : Bool) (body : List Nat) : Nat := wsum (uhead s d (body.length + 8)) + (told a b s d nosum body + wsum body)
theorem built_sum (a b a' b' s d : Nat) (nosum : Bool) (body : List Nat) : wsum (headL a' b' 17 ((body.length + 8 : Nat) : Int) ++ ubytes a b s d nosum body) = wsum (headL a' b' 17 ((body.length + 8 : Nat) : Int)) + rest a b s d nosum body := by
  have ht := told_lt a b s d nosum body
  unfold rest
  rw [wsum_append _ (by rw [headL_len])]
  have : ubytes a b s d nosum body = uhead s d (body.length + 8) ++ (be 2 (told a b s d nosum body) ++ body) := rfl
  rw [this, wsum_append _ (by rw [uhead_len]), wsum_append _ (by rw [be_len]), wsum_two ht]
theorem headL_wsum {a b : Nat} (ha : a < 4294967296) (hb : b < 4294967296) {n : Nat} (hn : n < 65536) : wsum (headL a b 17 (n : Int)) = a / 65536 + a % 65536 + (b / 65536 + b % 65536) + 17 + n := by
  have e : (((n : Nat) : Int) % 65536).toNat = n := by omega
  unfold headL
  rw [e]
  simp only [be, List.nil_append, List.cons_append, wsum]
  have : ((17 : Int) % 256).toNat = 17 := by decide
  rw [this]
  omega
theorem fold_iff (n : Nat) : foldN n = 65535 ↔ 0 < n ∧ n % 65535 = 0 := by
  unfold foldN
  split <;> omega
/-- With its sum a datagram's words, and its head's, come to 65535. -/
theorem sum_right {a b : Nat} (ha : a < 4294967296) (hb : b < 4294967296) (s d : Nat) (body : List Nat) (hl : body.length ≤ 65507) :
    (wsum (headL a b 17 ((body.length + 8 : Nat) : Int)) + rest a b s d false body) % 65535 = 0 := by
  have h1 := told_false a b s d body
  have h2 : wsum (headL a b 17 ((body.length + 8 : Nat) : Int) ++ (uhead s d (body.length + 8) ++ body)) = wsum (headL a b 17 ((body.length + 8 : Nat) : Int)) + (wsum (uhead s d (body.length + 8)) + wsum body) := by
    rw [wsum_append _ (by rw [headL_len]), wsum_append _ (by rw [uhead_len])]
  unfold rest
  rw [h1]
  unfold usum csumN foldN
  rw [h2]
  have h3 := headL_wsum ha hb (n := body.length + 8) (by omega)
  generalize wsum (headL a b 17 ((body.length + 8 : Nat) : Int)) = x at *
  generalize wsum (uhead s d (body.length + 8)) = y at *
  generalize wsum body = z at *
  rw [if_neg (show ¬ (x + (y + z) = 0) by omega)]
  split <;> omega
theorem swap_sum (a b : Nat) (n : Int) : wsum (headL a b 17 n) = wsum (headL b a 17 n) := by
  unfold headL
  simp only [List.append_assoc]
  have q1 : (be 4 a).length % 2 = 0 := by rw [be_len]
  have q2 : (be 4 b).length % 2 = 0 := by rw [be_len]
  rw [wsum_append _ q1, wsum_append _ q2, wsum_append _ q2, wsum_append _ q1]
  omega
theorem built_parse {a b a' b' s d : Nat} {nosum : Bool} {body : ByteArray} (more : ByteArray) (hs : s < 65536) (hd : d < 65536) (hb : body.size ≤ 65507)
    (hw : nosum = true ∨ foldN (wsum (headL a' b' 17 (((nb body).length + 8 : Nat) : Int)) + rest a b s d nosum (nb body)) = 65535) :
    uparse a' b' (bs (ubytes a b s d nosum (nb body)) ++ more) = ((s : Int), (d : Int), nosum, body, 0) := by
  have hz := built_size a b s d nosum body more
  have hl := nb_len body
  unfold uparse
  rw [built_nb, built_at4 (by omega), built_at0 hs, built_at2 hd, built_at6, built_take, built_sum]
  rw [if_neg (by omega), if_neg (by omega), if_neg (by omega)]
  have hc : ¬ (told a b s d nosum (nb body) ≠ 0 ∧ foldN (wsum (headL a' b' 17 (((nb body).length + 8 : Nat) : Int)) + rest a b s d nosum (nb body)) ≠ 65535) := by
    intro h
    rcases hw with hw | hw
    · exact h.1 (by unfold told; rw [if_pos hw])
    · exact h.2 hw
  rw [if_neg hc, hl, built_body]
  have ht : decide (told a b s d nosum (nb body) = 0) = nosum := by
    have := usum_bound a b s d (nb body)
    unfold told
    cases nosum with
    | true => rfl
    | false =>
      rw [if_neg (by decide)]
      exact decide_eq_false (by omega)
  rw [ht]
theorem spoilt_parse {a b a' b' s d : Nat} {body : ByteArray} (more : ByteArray) (hb : body.size ≤ 65507)
    (hw : foldN (wsum (headL a' b' 17 (((nb body).length + 8 : Nat) : Int)) + rest a b s d false (nb body)) ≠ 65535) :
    uparse a' b' (bs (ubytes a b s d false (nb body)) ++ more) = (0, 0, false, (⟨#[]⟩ : ByteArray), 72) := by
  have hz := built_size a b s d false body more
  have hl := nb_len body
  unfold uparse
  rw [built_nb, built_at4 (by omega), built_at6, built_take, built_sum]
  rw [if_neg (by omega), if_neg (by omega), if_neg (by omega)]
  have ht : told a b s d false (nb body) ≠ 0 := by
    have := usum_bound a b s d (nb body)
    rw [told_false]
    omega
  rw [if_pos ⟨ht, hw⟩]
theorem short_parse (a b a' b' s d : Nat) (nosum : Bool) (body : ByteArray) (hb : body.size ≤ 65507) :
    uparse a' b' ((bs (ubytes a b s d nosum (nb body))).extract 0 (body.size + 7)) = (0, 0, false, (⟨#[]⟩ : ByteArray), 70) := by
  have hl := nb_len body
  have hL := ubytes_len a b s d nosum (nb body)
  have hz : ((bs (ubytes a b s d nosum (nb body))).extract 0 (body.size + 7)).size = body.size + 7 := by
    rw [ByteArray.size_extract, bs_size, hL]
    omega
  unfold uparse
  rw [hz]
  by_cases h0 : body.size = 0
  · rw [if_pos (by omega)]
  · rw [if_neg (by omega)]
    have e : numAt (nb ((bs (ubytes a b s d nosum (nb body))).extract 0 (body.size + 7))) 4 2 = (nb body).length + 8 := by
      rw [nb_extract, nb_bs (ubytes_byt (nb_byt body)), List.drop_zero]
      have h4 : numAt (ubytes a b s d nosum (nb body) ++ []) 4 2 = (nb body).length + 8 := built_at4 (by omega)
      rw [List.append_nil] at h4
      rw [← h4]
      unfold numAt
      rw [List.drop_take, List.take_take]
      congr 2
    rw [e, if_neg (by omega), if_pos (by omega)]
end Go.Proofs.YtppaikjbafobbaaDoor.P
