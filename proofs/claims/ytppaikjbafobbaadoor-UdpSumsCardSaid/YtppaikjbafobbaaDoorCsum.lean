/- What the printed checksum functions compute: folded sums of words. -/
import Derived.Test.YtppaikjbafobbaaDoorPx4
import Derived.Test.YtppaikjbafobbaaDoorPx5
import Derived.Test.YtppaikjbafobbaaDoorPx6
import Derived.Test.YtppaikjbafobbaaDoorPx12
import Derived.Test.YtppaikjbafobbaaDoorLib
namespace Go.Proofs.YtppaikjbafobbaaDoor.P
open Go Go.RowKit Go.Proofs.YtppaikjbafobbaaDoorW.PrintWords Go.Proofs.YtppaikjbafobbaaDoorW.PrintLast Go.Proofs.YtppaikjbafobbaaDoorW.PrintMore Go.Proofs.YtppaikjbafobbaaDoor.L

/-- The sum of the words of bytes; a last single byte is a word's upper half. -/
def wsum : List Nat → Nat
  | [] => 0
  | [a] => 256 * a
  | a :: b :: r => 256 * a + b + wsum r
def foldN (n : Nat) : Nat := if n = 0 then 0 else (n - 1) % 65535 + 1
theorem foldN_le (n : Nat) : foldN n ≤ 65535 := by unfold foldN; split <;> omega
theorem foldN_add (a b : Nat) : foldN (foldN a + b) = foldN (a + b) := by
  unfold foldN
  by_cases ha : a = 0
  · simp [ha]
  · rw [if_neg ha]
    rw [if_neg (by omega), if_neg (by omega)]
    omega
theorem foldN_small {n : Nat} (h : n ≤ 65535) : foldN n = n := by
  unfold foldN
  split <;> omega
theorem wsum_le {l : List Nat} (h : Byt l) : wsum l ≤ 65535 * l.length := by
  suffices ∀ n (l : List Nat), l.length ≤ n → Byt l → wsum l ≤ 65535 * l.length from this _ l (Nat.le_refl _) h
  intro n
  induction n with
  | zero => intro l hl _; obtain rfl := List.eq_nil_of_length_eq_zero (show l.length = 0 by omega); simp [wsum]
  | succ n ih =>
    intro l hl hb
    match l, hl, hb with
    | [], _, _ => simp [wsum]
    | [a], _, hb =>
      have := hb a (by simp)
      simp only [wsum, List.length_singleton]
      omega
    | a :: b :: r, hl, hb =>
      have h1 := hb a (by simp)
      have h2 := hb b (by simp)
      have h3 := ih r (by simp at hl; omega) (fun x hx => hb x (by simp [hx]))
      simp only [wsum, List.length_cons]
      omega
theorem wsum_append {l : List Nat} (m : List Nat) (h : l.length % 2 = 0) : wsum (l ++ m) = wsum l + wsum m := by
  suffices ∀ n (l : List Nat), l.length ≤ n → l.length % 2 = 0 → wsum (l ++ m) = wsum l + wsum m from this _ l (Nat.le_refl _) h
  intro n
  induction n with
  | zero => intro l hl _; obtain rfl := List.eq_nil_of_length_eq_zero (show l.length = 0 by omega); simp [wsum]
  | succ n ih =>
    intro l hl he
    match l, hl, he with
    | [], _, _ => simp [wsum]
    | [a], _, he => simp at he
    | a :: b :: r, hl, he =>
      have h3 := ih r (by simp at hl; omega) (by simp at he; omega)
      simp only [wsum, List.cons_append]
      rw [h3]
      omega
theorem wsum_snoc (l : List Nat) (x : Nat) : wsum (l ++ [x]) = wsum l + (if l.length % 2 = 0 then 256 * x else x) := by
  suffices ∀ n (l : List Nat), l.length ≤ n → wsum (l ++ [x]) = wsum l + (if l.length % 2 = 0 then 256 * x else x) from this _ l (Nat.le_refl _)
  intro n
  induction n with
  | zero => intro l hl; obtain rfl := List.eq_nil_of_length_eq_zero (show l.length = 0 by omega); simp [wsum]
  | succ n ih =>
    intro l hl
    match l, hl with
    | [], _ => simp [wsum]
    | [a], _ => simp [wsum]
    | a :: b :: r, hl =>
      have h3 := ih r (by simp at hl; omega)
      simp only [wsum, List.cons_append]
      rw [h3]
      have : (a :: b :: r).length % 2 = r.length % 2 := by simp [Nat.add_assoc, Nat.add_mod_right]
      rw [this]
      omega
theorem drop_two {l : List Nat} {i : Nat} (h : i + 1 < l.length) : l.drop i = l.getD i 0 :: l.getD (i + 1) 0 :: l.drop (i + 2) := by
  rw [List.drop_eq_getElem_cons (by omega), List.drop_eq_getElem_cons (by omega)]
  simp [List.getD_eq_getElem?_getD, List.getElem?_eq_getElem (show i < l.length by omega), List.getElem?_eq_getElem h]
theorem getD_byt {l : List Nat} (h : Byt l) (i : Nat) : l.getD i 0 < 256 := by
  rw [List.getD_eq_getElem?_getD]
  by_cases hi : i < l.length
  · rw [List.getElem?_eq_getElem hi]
    exact h _ (List.getElem_mem hi)
  · rw [List.getElem?_eq_none (by omega)]
    decide

theorem fold_ev (n : Nat) (hn : n < 4611686018427387904) : Ev (fun k => csum_fold.l0 k (n : Int)) (foldN n : Int) := by
  induction n using Nat.strongRecOn with
  | _ n ih =>
    by_cases h : 65535 < n
    · have e : foldN n = foldN (n % 65536 + n / 65536) := by
        unfold foldN
        rw [if_neg (by omega), if_neg (by omega)]
        omega
      rw [e]
      refine Ev.step (f := fun k => csum_fold.l0 k ((n % 65536 + n / 65536 : Nat) : Int)) (fun k => ?_) (ih _ (by omega) (by omega))
      simp only [csum_fold.l0]
      rw [if_pos (by omega), mask16, w64 (by omega) (by omega)]
      congr 1
    · refine ⟨1, fun k hk => ?_⟩
      obtain ⟨m, rfl⟩ : ∃ m, k = m + 1 := ⟨k - 1, by omega⟩
      simp only [csum_fold.l0]
      rw [if_neg (by omega), foldN_small (by omega)]
theorem fold_f_ev (n : Nat) (hn : n < 4611686018427387904) : Ev (fun k => csum_fold.f k (n : Int)) (foldN n : Int) := fold_ev n hn

theorem total_l0_ev (s : ByteArray) (he : s.size % 2 = 0) (hs : s.size ≤ 1099511627776) (d : Nat) : ∀ (i a : Nat), i % 2 = 0 → i ≤ s.size → s.size - i = d →
    Ev (fun k => csum_total.l0 k s (foldN a : Int) (i : Int)) (foldN (a + wsum ((nb s).drop i)) : Int) := by
  have hl := nb_len s
  have hby := nb_byt s
  induction d using Nat.strongRecOn with
  | _ d ih =>
    intro i a hi hle hd
    by_cases h : i < s.size
    · have h1 : i + 1 < (nb s).length := by omega
      have e1 : foldN (a + wsum ((nb s).drop i)) = foldN ((a + (256 * (nb s).getD i 0 + (nb s).getD (i + 1) 0)) + wsum ((nb s).drop (i + 2))) := by
        rw [drop_two h1]
        simp only [wsum]
        congr 1
        omega
      have hb1 := getD_byt hby i
      have hb2 := getD_byt hby (i + 1)
      have hf := foldN_le a
      have hfold : foldN (foldN a + (256 * (nb s).getD i 0 + (nb s).getD (i + 1) 0)) = foldN (a + (256 * (nb s).getD i 0 + (nb s).getD (i + 1) 0)) := foldN_add _ _
      have hev := fold_f_ev (foldN a + (256 * (nb s).getD i 0 + (nb s).getD (i + 1) 0)) (by omega)
      have hrest := ih (s.size - (i + 2)) (by omega) (i + 2) (a + (256 * (nb s).getD i 0 + (nb s).getD (i + 1) 0)) (by omega) (by omega) rfl
      rw [e1]
      refine Ev.step (f := fun k => (csum_fold.f k ((foldN a + (256 * (nb s).getD i 0 + (nb s).getD (i + 1) 0) : Nat) : Int)).bind fun t => csum_total.l0 k s t ((i + 2 : Nat) : Int)) (fun k => ?_) ?_
      · simp only [csum_total.l0]
        rw [if_pos (by omega), if_pos (by omega), w64 (x := (i : Int) + 1) (by omega) (by omega), if_pos (by omega), if_pos (by omega)]
        rw [bt_nb, bt_nb, Int.toNat_natCast, show ((i : Int) + 1).toNat = i + 1 by omega]
        rw [w64 (x := (((nb s).getD i 0 : Nat) : Int)) (by omega) (by omega), w64 (x := (((nb s).getD (i + 1) 0 : Nat) : Int)) (by omega) (by omega)]
        rw [w64 (x := (((nb s).getD i 0 : Nat) : Int) * 256) (by omega) (by omega), w64 (x := (foldN a : Int) + _) (by omega) (by omega), w64 (x := _ + (((nb s).getD (i + 1) 0 : Nat) : Int)) (by omega) (by omega), w64 (x := (i : Int) + 2) (by omega) (by omega)]
        have ea : ((foldN a : Int) + ((nb s).getD i 0 : Int) * 256 + ((nb s).getD (i + 1) 0 : Int)) = ((foldN a + (256 * (nb s).getD i 0 + (nb s).getD (i + 1) 0) : Nat) : Int) := by omega
        rw [ea]
        rfl
      · refine Ev.bind hev ?_
        rw [hfold]
        exact hrest
    · refine ⟨1, fun k hk => ?_⟩
      obtain ⟨m, rfl⟩ : ∃ m, k = m + 1 := ⟨k - 1, by omega⟩
      simp only [csum_total.l0]
      rw [if_neg (by omega), List.drop_eq_nil_of_le (by omega)]
      rfl
theorem total_j0_ev (s : ByteArray) (he : s.size % 2 = 0) (hs : s.size ≤ 1099511627776) : Ev (fun k => csum_total.j0 k s) (foldN (wsum (nb s)) : Int) := by
  refine Ev.step (f := fun k => csum_total.l0 k s 0 0) (fun k => by simp only [csum_total.j0]) ?_
  have := total_l0_ev s he hs s.size 0 0 rfl (Nat.zero_le _) rfl
  simpa [show foldN 0 = 0 from rfl] using this

/-- All bytes of some texts, one behind the other. -/
def cat (l : List ByteArray) : List Nat := (l.map nb).flatten
theorem cat_byt (l : List ByteArray) : Byt (cat l) := by
  intro x hx
  obtain ⟨m, hm, hx⟩ := List.mem_flatten.1 hx
  obtain ⟨s, _, rfl⟩ := List.mem_map.1 hm
  exact nb_byt s x hx
theorem joined_nil (l : List ByteArray) : (joined_ l (⟨#[]⟩ : ByteArray)).map UInt8.toNat = cat l := by
  unfold joined_ cat
  show (Go.Lib.join (l.map (·.data.toList)) []).map UInt8.toNat = _
  have e : ∀ m : List (List UInt8), Go.Lib.join m [] = m.flatten := by
    intro m
    match m with
    | [] => rfl
    | x :: r => rw [Go.Lib.join_cons, Go.Lib.joinTail]; simp
  rw [e, List.map_flatten, List.map_map]
  rfl
theorem join_nil {l : List ByteArray} (h1 : l.length ≤ 1099511627776) (h2 : (cat l).length ≤ 1099511627776) : strings_Join.f l (⟨#[]⟩ : ByteArray) = some (bs (cat l)) := by
  have hj : (joined_ l (⟨#[]⟩ : ByteArray)).length = (cat l).length := by rw [← joined_nil, List.length_map]
  unfold strings_Join.f
  rw [if_pos (by omega), if_pos (by omega)]
  congr 1
  apply nb_inj
  rw [nb_bs (cat_byt l), ← joined_nil]
  simp [nb]
theorem total_f_ev {l : List ByteArray} (h1 : l.length ≤ 1099511627775) (h2 : (cat l).length ≤ 1099511627775) : Ev (fun k => csum_total.f k l) (foldN (wsum (cat l)) : Int) := by
  have hsz := bs_size (cat l)
  unfold csum_total.f
  rw [join_nil (by omega) (by omega)]
  simp only [Option.bind_some]
  by_cases ho : ((bs (cat l)).size : Int) % 2 = 1
  · simp only [if_pos ho, if_pos (show (bs (cat l)).size + 1 ≤ 9223372036854775807 by omega)]
    have hs2 : (bs (cat l) ++ (⟨#[0]⟩ : ByteArray)).size = (bs (cat l)).size + 1 := by rw [ByteArray.size_append]; rfl
    have := total_j0_ev (bs (cat l) ++ (⟨#[0]⟩ : ByteArray)) (by omega) (by omega)
    rw [nb_append, nb_bs (cat_byt l), show nb (⟨#[0]⟩ : ByteArray) = [0] from rfl, wsum_snoc] at this
    simpa using this
  · simp only [if_neg ho]
    have := total_j0_ev (bs (cat l)) (by omega) (by omega)
    rwa [nb_bs (cat_byt l)] at this
/-- The checksum of bytes. -/
def csumN (l : List Nat) : Nat := 65535 - foldN (wsum l)
theorem of_f_ev {l : List ByteArray} (h1 : l.length ≤ 1099511627775) (h2 : (cat l).length ≤ 1099511627775) : Ev (fun k => csum_Of.f k l) (csumN (cat l) : Int) := by
  unfold csum_Of.f
  have hf := foldN_le (wsum (cat l))
  refine Ev.bind (total_f_ev h1 h2) ?_
  have e : wrap64 (65535 - (foldN (wsum (cat l)) : Int)) = (csumN (cat l) : Int) := by
    unfold csumN
    rw [w64 (by omega) (by omega)]
    omega
  rw [e]
  exact Ev.now _
theorem right_f_ev {l : List ByteArray} (h1 : l.length ≤ 1099511627775) (h2 : (cat l).length ≤ 1099511627775) : Ev (fun k => csum_Right.f k l) (decide (foldN (wsum (cat l)) = 65535)) := by
  unfold csum_Right.f
  refine Ev.bind (total_f_ev h1 h2) ?_
  have e : (((foldN (wsum (cat l)) : Nat) : Int) == 65535) = decide (foldN (wsum (cat l)) = 65535) := by
    rw [Bool.eq_iff_iff]
    simp
    omega
  rw [e]
  exact Ev.now _
theorem cat_one (s : ByteArray) : cat [s] = nb s := by simp [cat]
theorem cat_two (s t : ByteArray) : cat [s, t] = nb s ++ nb t := by simp [cat]
theorem cat_three (s t u : ByteArray) : cat [s, t, u] = nb s ++ (nb t ++ nb u) := by simp [cat]

end Go.Proofs.YtppaikjbafobbaaDoor.P
