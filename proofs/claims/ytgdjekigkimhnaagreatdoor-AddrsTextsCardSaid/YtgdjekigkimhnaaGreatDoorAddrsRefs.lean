/- The plain laws of the seat and what its printed functions compute, in one text. -/
import Derived.Test.YtgdjekigkimhnaaGreatDoorPx3
import Derived.Test.YtgdjekigkimhnaaGreatDoorPx0
import Derived.Test.YtgdjekigkimhnaaGreatDoorPx9
import Derived.Test.YtgdjekigkimhnaaGreatDoorPx13
import Derived.Test.YtgdjekigkimhnaaGreatDoorAddrsPlain
import Derived.Test.YtgdjekigkimhnaaGreatDoorPx11
import Derived.Test.YtgdjekigkimhnaaGreatDoorPx23
namespace Go.Proofs.YtgdjekigkimhnaaGreatDoor.P
open Go Go.RowKit Go.Proofs.YtgdjekigkimhnaaGreatDoorW.PrintWords Go.Proofs.YtgdjekigkimhnaaGreatDoorW.PrintLast Go.Proofs.YtgdjekigkimhnaaGreatDoorW.PrintMore Go.Proofs.YtgdjekigkimhnaaGreatDoor.L

theorem digit_eq {n : Nat} (h : n < 16) : gangwayref01_digit.f (n : Int) = some ((hexD n : Nat) : Int) := by
  unfold gangwayref01_digit.f hexD
  by_cases h1 : n < 10
  · rw [if_pos (by omega), if_pos h1]
    congr 1
    omega
  · rw [if_neg (by omega), if_neg h1]
    congr 1
    omega
theorem o_take_succ {l : List Nat} {i : Nat} (h : i < l.length) : l.take (i + 1) = l.take i ++ [l.getD i 0] := by
  rw [List.take_succ_eq_append_getElem h]
  simp [List.getD_eq_getElem?_getD, List.getElem?_eq_getElem h]
theorem rhex_l0 (s : ByteArray) (hs : s.size ≤ 1000000) (d : Nat) : ∀ i : Nat, i ≤ s.size → s.size - i = d →
    Ev (fun k => gangwayref01_Hex.l0 k s ((hexN ((nb s).take i)).map fun (y : Nat) => (y : Int)) (i : Int)) (bs (hexN (nb s))) := by
  have hl := nb_len s
  have hby := nb_byt s
  induction d with
  | zero =>
    intro i hi hd
    refine ev_succ ?_
    simp only [gangwayref01_Hex.l0]
    refine ev_neg (by omega) (ev_now ?_)
    rw [List.take_of_length_le (by omega), nums_nat (hexN_byt hby)]
  | succ d ih =>
    intro i hi hd
    have hlt : i < (nb s).length := by omega
    have hb := getD_byte hby i
    refine Ev.step (f := fun k => gangwayref01_Hex.l0 k s ((hexN ((nb s).take (i + 1))).map fun (y : Nat) => (y : Int)) ((i + 1 : Nat) : Int)) (fun k => ?_) (ih (i + 1) (by omega) (by omega))
    simp only [gangwayref01_Hex.l0]
    rw [if_pos (by omega), if_pos (by omega), bt_nb, Int.toNat_natCast]
    have e1 : ((((nb s).getD i 0 : Nat) : Int).tdiv 16) % 256 = (((nb s).getD i 0 / 16 : Nat) : Int) := by
      rw [Int.tdiv_eq_ediv_of_nonneg (by omega)]
      omega
    have e2 : (((nb s).getD i 0 : Nat) : Int).tmod 16 = (((nb s).getD i 0 % 16 : Nat) : Int) := by
      rw [Int.tmod_eq_emod_of_nonneg (by omega)]
      omega
    rw [e1, e2, digit_eq (by omega), digit_eq (by omega), Option.bind_some]
    have hle : ((hexN ((nb s).take i)).map fun (y : Nat) => (y : Int)).length ≤ 2000000 := by
      rw [List.length_map, hexN_len, List.length_take]
      omega
    rw [if_pos (by omega), Option.bind_some, Option.bind_some, if_pos (by rw [List.length_append, List.length_singleton]; omega), w64 (x := (i : Int) + 1) (by omega) (by omega), o_take_succ hlt, hexN_snoc]
    rw [List.map_append]
    simp only [List.map_cons, List.map_nil, List.append_assoc, List.cons_append, List.nil_append]
    rfl
theorem rhex_ev {s : ByteArray} (hs : s.size ≤ 1000000) : Ev (fun k => gangwayref01_Hex.f k s) (bs (hexN (nb s))) := by
  unfold gangwayref01_Hex.f
  exact rhex_l0 s hs s.size 0 (Nat.zero_le _) rfl
theorem hal_dig {n : Nat} (h : 48 ≤ n ∧ n ≤ 57) : hal n = (n : Int) - 48 := if_pos h
theorem hal_let {n : Nat} (h1 : ¬ (48 ≤ n ∧ n ≤ 57)) (h : 97 ≤ n ∧ n ≤ 102) : hal n = (n : Int) - 87 := (if_neg h1).trans (if_pos h)
theorem hal_no {n : Nat} (h1 : ¬ (48 ≤ n ∧ n ≤ 57)) (h : ¬ (97 ≤ n ∧ n ≤ 102)) : hal n = -1 := (if_neg h1).trans (if_neg h)
theorem half_ev (n : Nat) (h : n < 256) : Ev (fun k => gangwayref01_half.f k (n : Int)) (if hal n < 0 then 16 else hal n) := by
  have g : ∀ b : Bool, b = decide (48 ≤ n ∧ n ≤ 57) → Ev (fun k => gangwayref01_half.j0 k (n : Int) b) (if hal n < 0 then 16 else hal n) := by
    intro b hb
    refine ev_succ ?_
    simp only [gangwayref01_half.j0]
    by_cases h1 : 48 ≤ n ∧ n ≤ 57
    · rw [decide_eq_true h1] at hb
      have e : (if hal n < 0 then (16 : Int) else hal n) = (n : Int) - 48 := by
        rw [hal_dig h1]
        exact if_neg (by omega)
      rw [e]
      exact ev_pos hb (ev_now (by omega))
    · rw [decide_eq_false h1] at hb
      refine ev_neg (by rw [hb]; decide) ?_
      by_cases h2 : 97 ≤ n ∧ n ≤ 102
      · have e : (if hal n < 0 then (16 : Int) else hal n) = (n : Int) - 87 := by
          rw [hal_let h1 h2]
          exact if_neg (by omega)
        rw [e]
        exact ev_pos (by omega) (ev_pos (by omega) (ev_now (by omega)))
      · have e : (if hal n < 0 then (16 : Int) else hal n) = 16 := by
          rw [hal_no h1 h2]
          exact if_pos (by decide)
        rw [e]
        by_cases h3 : 97 ≤ n
        · exact ev_pos (by omega) (ev_neg (by omega) (ev_now rfl))
        · exact ev_neg (by omega) (ev_now rfl)
  unfold gangwayref01_half.f
  by_cases h1 : 48 ≤ n
  · refine ev_pos (by omega) (g _ ?_)
    rw [decide_eq_decide]
    omega
  · refine ev_neg (by omega) (g _ ?_)
    rw [eq_comm, decide_eq_false_iff_not]
    omega
/-- The end of the document's Unhex. -/
def runhexEnd (s : ByteArray) (acc : List Nat) : Option (List Nat) → ByteArray × Int
  | none => (⟨#[]⟩, 11)
  | some l => if s.size % 2 = 1 then (⟨#[]⟩, 11) else (bs (acc ++ l), 0)
theorem drop_two_getD {l : List Nat} {i : Nat} (h : i + 1 < l.length) : l.drop i = l.getD i 0 :: l.getD (i + 1) 0 :: l.drop (i + 2) := by
  rw [List.drop_eq_getElem_cons (by omega), List.drop_eq_getElem_cons h]
  simp [List.getD_eq_getElem?_getD, List.getElem?_eq_getElem h, List.getElem?_eq_getElem (show i < l.length by omega)]
theorem runhex_l0 (s : ByteArray) (hs : s.size ≤ 1000000) (d : Nat) : ∀ (i : Nat) (acc : List Nat), Byt acc → acc.length ≤ i → i ≤ s.size → (s.size - i) / 2 = d →
    Ev (fun k => gangwayref01_Unhex.l0 k s (acc.map fun (y : Nat) => (y : Int)) (i : Int)) (runhexEnd s acc (unhexN ((nb s).drop i))) := by
  have hl := nb_len s
  have hby := nb_byt s
  induction d with
  | zero =>
    intro i acc ha hal_ hi hd
    have hu : unhexN ((nb s).drop i) = some [] := by
      have hlen : ((nb s).drop i).length ≤ 1 := by
        rw [List.length_drop]
        omega
      match (nb s).drop i, hlen with
      | [], _ => rfl
      | [_], _ => rfl
      | _ :: _ :: _, h => exact absurd h (by simp)
    rw [hu]
    refine ev_succ ?_
    simp only [gangwayref01_Unhex.l0, runhexEnd]
    rw [w64 (x := (i : Int) + 1) (by omega) (by omega)]
    refine ev_neg (by omega) ?_
    by_cases h : s.size % 2 = 1
    · rw [if_pos h]
      exact ev_pos (by omega) (ev_now rfl)
    · rw [if_neg h]
      refine ev_neg (by omega) (ev_now ?_)
      rw [nums_nat ha, List.append_nil]
  | succ d ih =>
    intro i acc ha hal_ hi hd
    have hlt : i + 1 < (nb s).length := by omega
    have b1 := getD_byte hby i
    have b2 := getD_byte hby (i + 1)
    rw [drop_two_getD hlt]
    simp only [unhexN]
    refine ev_succ ?_
    simp only [gangwayref01_Unhex.l0]
    rw [w64 (x := (i : Int) + 1) (by omega) (by omega)]
    refine ev_pos (by omega) (ev_pos (by omega) (ev_pos (by omega) ?_))
    have e1 : bt s (i : Int) = (((nb s).getD i 0 : Nat) : Int) := by rw [bt_nb, Int.toNat_natCast]
    have e2 : bt s ((i : Int) + 1) = (((nb s).getD (i + 1) 0 : Nat) : Int) := by
      rw [bt_nb]
      rfl
    rw [e1, e2]
    have H1 := half_ev _ b1
    have H2 := half_ev _ b2
    refine Ev.bind H1 ?_
    by_cases h1 : hal ((nb s).getD i 0) < 0
    · rw [if_pos h1, if_pos (Or.inl h1)]
      refine ev_pos (by decide) (ev_succ ?_)
      simp only [gangwayref01_Unhex.j1]
      exact ev_pos trivial (ev_now rfl)
    · rw [if_neg h1]
      obtain ⟨q1, g1⟩ := hal_nat h1
      refine ev_neg (by omega) (ev_pos (by omega) (Ev.bind H2 ?_))
      by_cases h2 : hal ((nb s).getD (i + 1) 0) < 0
      · rw [if_pos h2, if_pos (Or.inr h2)]
        refine ev_succ ?_
        simp only [gangwayref01_Unhex.j1]
        exact ev_pos (by decide) (ev_now rfl)
      · rw [if_neg h2, if_neg (fun h => h.elim h1 h2)]
        obtain ⟨q2, g2⟩ := hal_nat h2
        rw [if_neg h1] at H1
        rw [if_neg h2] at H2
        refine ev_succ ?_
        simp only [gangwayref01_Unhex.j1]
        rw [w64 (x := (i : Int) + 1) (by omega) (by omega), w64 (x := (i : Int) + 2) (by omega) (by omega)]
        have q3 : ¬ decide (hal ((nb s).getD (i + 1) 0) > 15) = true := by
          rw [decide_eq_true_eq]
          omega
        refine ev_neg q3 (ev_pos (by omega) (ev_pos (by omega) ?_))
        rw [e1, e2]
        refine Ev.bind H1 (ev_pos (by omega) (ev_pos (by omega) (Ev.bind H2 (ev_pos (by rw [List.length_map]; omega) ?_))))
        generalize hx : (hal ((nb s).getD i 0)).toNat = x at *
        generalize hy : (hal ((nb s).getD (i + 1) 0)).toNat = y at *
        rw [q1, q2]
        have e3 : (((x : Int) * 16 % 256) + (y : Int)) % 256 = ((x * 16 + y : Nat) : Int) := by omega
        rw [e3]
        have := ih (i + 2) (acc ++ [x * 16 + y]) (ha.append (Byt.cons (by omega) Byt.nil)) (by rw [List.length_append, List.length_singleton]; omega) (by omega) (by omega)
        rw [List.map_append] at this
        have e4 : runhexEnd s (acc ++ [x * 16 + y]) (unhexN ((nb s).drop (i + 2))) = runhexEnd s acc ((unhexN ((nb s).drop (i + 2))).map fun l => (x * 16 + y) :: l) := by
          cases unhexN ((nb s).drop (i + 2)) with
          | none => rfl
          | some l => simp [runhexEnd]
        rw [← e4]
        exact this
theorem runhex_ev {s : ByteArray} (hs : s.size ≤ 1000000) : Ev (fun k => gangwayref01_Unhex.f k s) (gunhex s) := by
  unfold gangwayref01_Unhex.f
  have h := runhex_l0 s hs (s.size / 2) 0 [] Byt.nil (by simp) (Nat.zero_le _) (by rw [Nat.sub_zero])
  rw [List.drop_zero] at h
  have e : runhexEnd s [] (unhexN (nb s)) = gunhex s := by
    unfold gunhex
    cases unhexN (nb s) with
    | none => simp [runhexEnd]
    | some l =>
      simp only [runhexEnd, List.nil_append]
      by_cases h1 : s.size % 2 = 0
      · rw [if_pos h1, if_neg (by omega)]
      · rw [if_neg h1, if_pos (by omega)]
  rw [e] at h
  exact h
end Go.Proofs.YtgdjekigkimhnaaGreatDoor.P
namespace Go.Proofs.YtgdjekigkimhnaaGreatDoor.P
open Go Go.RowKit Go.Proofs.YtgdjekigkimhnaaGreatDoorW.PrintWords Go.Proofs.YtgdjekigkimhnaaGreatDoorW.PrintLast Go.Proofs.YtgdjekigkimhnaaGreatDoorW.PrintMore Go.Proofs.YtgdjekigkimhnaaGreatDoor.L

theorem rnum_l0_ev (t : ByteArray) (ht : t.size ≤ 8) (d : Nat) : ∀ i : Nat, i ≤ t.size → t.size - i = d →
    Ev (fun k => gangwayref01_Num.l0 k t ((num ((nb t).take i) : Nat) : Int) (i : Int)) ((num (nb t) : Nat) : Int) := by
  have hl := nb_len t
  have hby := nb_byt t
  induction d with
  | zero =>
    intro i hi hd
    refine ev_succ ?_
    simp only [gangwayref01_Num.l0]
    rw [List.take_of_length_le (by omega)]
    exact ev_neg (by omega) (ev_now rfl)
  | succ d ih =>
    intro i hi hd
    have hlt : i < (nb t).length := by omega
    have hb := getD_byte hby i
    have hv := num_take_lt (m := i) hby (by omega)
    refine Ev.step (f := fun k => gangwayref01_Num.l0 k t ((num ((nb t).take (i + 1)) : Nat) : Int) ((i + 1 : Nat) : Int)) (fun k => ?_) (ih (i + 1) (by omega) (by omega))
    simp only [gangwayref01_Num.l0]
    rw [if_pos (by omega), if_pos (by omega), bt_nb, Int.toNat_natCast, u64w (x := ((num ((nb t).take i) : Nat) : Int) * 256) (by omega) (by omega), u64w (x := (((nb t).getD i 0 : Nat) : Int)) (by omega) (by omega), u64w (by omega) (by omega), w64 (x := (i : Int) + 1) (by omega) (by omega), take_succ_getD hlt, num_snoc]
    congr 1
theorem rnum_ev {t : ByteArray} (ht : t.size ≤ 8) : Ev (fun k => gangwayref01_Num.f k t) ((num (nb t) : Nat) : Int) := by
  have h2 := rnum_l0_ev t ht t.size 0 (Nat.zero_le _) rfl
  show Ev (fun k => gangwayref01_Num.l0 k t 0 0) _
  simpa [num] using h2
theorem bs_one58 : (⟨#[58]⟩ : ByteArray) = bs [58] := rfl
theorem rmac_l0 {l : List Nat} (hl : l.length = 6) (hb : Byt l) (d : Nat) : ∀ i : Nat, i ≤ 6 → 6 - i = d →
    Ev (fun k => gangwayref02_Mac.l0 k (bs l) (bs (macN (l.take i))) (i : Int)) (bs (macN l)) := by
  induction d with
  | zero =>
    intro i hi hd
    refine ev_succ ?_
    simp only [gangwayref02_Mac.l0]
    rw [List.take_of_length_le (by omega)]
    exact ev_neg (by omega) (ev_now rfl)
  | succ d ih =>
    intro i hi hd
    have hlt : i < l.length := by omega
    have hx := getD_byte hb i
    have hn := macN_len (l.take i)
    rw [List.length_take] at hn
    have hs := bs_size (macN (l.take i))
    have := ih (i + 1) (by omega) (by omega)
    rw [take_succ_getD hlt, macN_snoc] at this
    have hh := rhex_ev (s := bs [l.getD i 0]) (by rw [bs_size]; simp)
    rw [nb_bs (Byt.cons hx Byt.nil)] at hh
    have hz : (bs (hexN [l.getD i 0])).size = 2 := by rw [bs_size]; rfl
    refine ev_succ ?_
    simp only [gangwayref02_Mac.l0]
    rw [w64 (x := (i : Int) + 1) (by omega) (by omega)]
    refine ev_pos (by omega) ?_
    rw [Int.toNat_natCast, show ((i : Int) + 1).toNat = i + 1 by omega, one_at hlt, bs_one58, ← bs_append]
    by_cases h0 : i = 0
    · subst h0
      refine ev_neg (by decide) (ev_pos (by decide) (ev_pos (by decide) (ev_pos (by rw [bs_size]; omega) (Ev.bind hh (ev_pos (by omega) ?_)))))
      rw [← bs_append]
      exact this
    · refine ev_pos (by omega) (ev_pos (by omega) (ev_pos (by omega) (ev_pos (by omega) (ev_pos (by rw [bs_size]; omega) (Ev.bind hh (ev_pos (by rw [hz, bs_size, List.length_append, List.length_singleton]; omega) ?_))))))
      rw [← bs_append]
      unfold mac1 at this
      rw [macN_cons _ (by rw [ne_eq, ← List.length_eq_zero_iff, List.length_take]; omega)] at this
      exact this
theorem rmac_ev {m : Nat} (hm : m < 18446744073709551616) : Ev (fun k => gangwayref02_Mac.f k (m : Int)) (bs (macN (be 6 m))) := by
  unfold gangwayref02_Mac.f
  refine Ev.bind (bytes_ev (n := 6) (by decide) hm) ?_
  exact rmac_l0 (be_len 6 m) (be_byt 6 m) 6 0 (by decide) rfl
/-! ReadMac -/
theorem two_at {l : List Nat} {i : Nat} (h : i + 1 < l.length) : (bs l).extract i (i + 2) = bs [l.getD i 0, l.getD (i + 1) 0] := by
  rw [bs_extract, take_succ_getD h, take_succ_getD (show i < l.length by omega), List.append_assoc, List.drop_append, List.drop_of_length_le (by rw [List.length_take]; omega)]
  rw [List.length_take, Nat.min_eq_left (by omega), Nat.sub_self]
  rfl
theorem gunhex_two {a b : Nat} (ha : a < 256) (hb : b < 256) : gunhex (bs [a, b]) = if hal a < 0 ∨ hal b < 0 then (⟨#[]⟩, 11) else (bs [(hal a).toNat * 16 + (hal b).toNat], 0) := by
  unfold gunhex
  rw [if_pos (by rw [bs_size]; simp), nb_bs (Byt.cons ha (Byt.cons hb Byt.nil))]
  simp only [unhexN]
  split
  · rename_i l hl
    split at hl
    · cases hl
    · rename_i h
      rw [if_neg h]
      obtain rfl := Option.some.inj hl
      rfl
  · rename_i hl
    split at hl
    · rename_i h
      rw [if_pos h]
    · cases hl
theorem hal_back : ∀ n < 256, ¬ hal n < 0 → hexD (hal n).toNat = n := by decide +kernel
theorem hex_two {a b : Nat} (ha : a < 256) (hb : b < 256) (h : ¬ (hal a < 0 ∨ hal b < 0)) : hexN [(hal a).toNat * 16 + (hal b).toNat] = [a, b] ∧ (hal a).toNat * 16 + (hal b).toNat < 256 := by
  have h1 := hal_nat (n := a) (fun e => h (Or.inl e))
  have h2 := hal_nat (n := b) (fun e => h (Or.inr e))
  refine ⟨?_, by omega⟩
  rw [hexN_cons, hexN_nil, show ((hal a).toNat * 16 + (hal b).toNat) / 16 = (hal a).toNat by omega, show ((hal a).toNat * 16 + (hal b).toNat) % 16 = (hal b).toNat by omega, hal_back a ha (fun e => h (Or.inl e)), hal_back b hb (fun e => h (Or.inr e))]
/-- What a MAC address's text has at a byte's place. -/
theorem mac_text {s : ByteArray} {l : List Nat} (h : MacOf s l) {j : Nat} (hj : j < 6) : ∃ x, x < 256 ∧ (nb s).getD (3 * j) 0 = hexD (x / 16) ∧ (nb s).getD (3 * j + 1) 0 = hexD (x % 16) ∧ (0 < j → (nb s).getD (3 * j - 1) 0 = 58) := by
  obtain ⟨hb, h6, he⟩ := h
  obtain ⟨a, b, c, d, e, f, rfl⟩ := six_of h6
  rw [he, macN_six]
  have h6 : j = 0 ∨ j = 1 ∨ j = 2 ∨ j = 3 ∨ j = 4 ∨ j = 5 := by omega
  rcases h6 with rfl | rfl | rfl | rfl | rfl | rfl
  · exact ⟨a, hb a (by simp), rfl, rfl, fun h => absurd h (by decide)⟩
  · exact ⟨b, hb b (by simp), rfl, rfl, fun _ => rfl⟩
  · exact ⟨c, hb c (by simp), rfl, rfl, fun _ => rfl⟩
  · exact ⟨d, hb d (by simp), rfl, rfl, fun _ => rfl⟩
  · exact ⟨e, hb e (by simp), rfl, rfl, fun _ => rfl⟩
  · exact ⟨f, hb f (by simp), rfl, rfl, fun _ => rfl⟩
/-- The document's answer from a place on: the bytes read so far are the text's. -/
theorem rreadmac_l0 {s : ByteArray} (hs : s.size = 17) (r : Int × Int) (hok : ∀ l, MacOf s l → r = (((num l : Nat) : Int), 0)) (hno : (∀ l, ¬ MacOf s l) → r = (0, 20)) (d : Nat) : ∀ (j : Nat) (l : List Nat), j ≤ 6 → 6 - j = d → Byt l → l.length = j → (nb s).take (3 * j - 1) = macN l →
    Ev (fun k => gangwayref02_ReadMac.l0 k s (bs l) (((3 * j : Nat)) : Int)) r := by
  have hl := nb_len s
  have hby := nb_byt s
  induction d with
  | zero =>
    intro j l hj hd hb hlen hm
    have e : j = 6 := by omega
    subst e
    refine ev_succ ?_
    simp only [gangwayref02_ReadMac.l0]
    have hn := rnum_ev (t := bs l) (by rw [bs_size]; omega)
    rw [nb_bs hb] at hn
    refine ev_neg (by omega) (Ev.bind hn (ev_now ?_))
    rw [List.take_of_length_le (by omega)] at hm
    exact (hok l ⟨hb, hlen, hm⟩).symm
  | succ d ih =>
    intro j l hj hd hb hlen hm
    have hj6 : j < 6 := by omega
    have hlt : 3 * j + 1 < (nb s).length := by omega
    have b1 := getD_byte hby (3 * j)
    have b2 := getD_byte hby (3 * j + 1)
    have hx := two_at hlt
    rw [bs_nb] at hx
    have hu := runhex_ev (s := bs [(nb s).getD (3 * j) 0, (nb s).getD (3 * j + 1) 0]) (by rw [bs_size]; simp)
    rw [gunhex_two b1 b2] at hu
    have hz := bs_size l
    refine ev_succ ?_
    simp only [gangwayref02_ReadMac.l0]
    rw [w64 (x := (((3 * j : Nat)) : Int) + 2) (by omega) (by omega), w64 (x := (((3 * j : Nat)) : Int) + 3) (by omega) (by omega), w64 (x := (((3 * j : Nat)) : Int) - 1) (by omega) (by omega)]
    refine ev_pos (by omega) (ev_pos (by omega) (ev_pos (by omega) (ev_pos (by omega) ?_)))
    rw [Int.toNat_natCast, show ((((3 * j : Nat)) : Int) + 2).toNat = 3 * j + 2 by omega, hx]
    refine Ev.bind hu ?_
    have htext := fun l' (hm' : MacOf s l') => mac_text hm' hj6
    by_cases hbad : hal ((nb s).getD (3 * j) 0) < 0 ∨ hal ((nb s).getD (3 * j + 1) 0) < 0
    · rw [if_pos hbad]
      refine ev_neg (by decide) (ev_now (hno fun l' hm' => ?_).symm)
      obtain ⟨x, hx, e1, e2, _⟩ := htext l' hm'
      rw [e1, e2, hal_hexD _ (by omega), hal_hexD _ (by omega)] at hbad
      omega
    · rw [if_neg hbad]
      refine ev_pos rfl ?_
      obtain ⟨g1, g2⟩ := hex_two b1 b2 hbad
      have hstep : ∀ p : List Nat, (nb s).take (3 * j) = p → (nb s).take (3 * (j + 1) - 1) = p ++ hexN [(hal ((nb s).getD (3 * j) 0)).toNat * 16 + (hal ((nb s).getD (3 * j + 1) 0)).toNat] := by
        intro p hp
        rw [show 3 * (j + 1) - 1 = 3 * j + 1 + 1 by omega, take_succ_getD hlt, take_succ_getD (show 3 * j < (nb s).length by omega), hp, g1, List.append_assoc]
        rfl
      have hnext := fun hm' => ih (j + 1) (l ++ [(hal ((nb s).getD (3 * j) 0)).toNat * 16 + (hal ((nb s).getD (3 * j + 1) 0)).toNat]) (by omega) (by omega) (hb.append (Byt.cons g2 Byt.nil)) (by rw [List.length_append, hlen]; rfl) hm'
      rw [macN_snoc] at hnext
      rw [bs_append, show (((3 * (j + 1) : Nat)) : Int) = (((3 * j : Nat)) : Int) + 3 by omega] at hnext
      by_cases h0 : j = 0
      · subst h0
        refine ev_neg (by decide) (ev_pos (by rw [bs_size, bs_size]; simp [hlen]) ?_)
        refine hnext ?_
        have : l = [] := List.length_eq_zero_iff.1 hlen
        rw [hstep [] rfl, this]
        rfl
      · refine ev_pos (by omega) (ev_pos (by omega) (ev_pos (by omega) ?_))
        have eb : bt s ((((3 * j : Nat)) : Int) - 1) = (((nb s).getD (3 * j - 1) 0 : Nat) : Int) := by
          rw [bt_nb, show ((((3 * j : Nat)) : Int) - 1).toNat = 3 * j - 1 by omega]
        rw [eb]
        by_cases h58 : (nb s).getD (3 * j - 1) 0 = 58
        · refine ev_pos (by rw [h58]; rfl) (ev_pos (by rw [bs_size, bs_size]; simp [hlen]; omega) ?_)
          refine hnext ?_
          have e3 : (nb s).take (3 * j) = macN l ++ [58] := by
            have := take_succ_getD (l := nb s) (i := 3 * j - 1) (by omega)
            rw [show 3 * j - 1 + 1 = 3 * j by omega, hm, h58] at this
            exact this
          rw [hstep _ e3]
          unfold mac1
          rw [macN_cons l (by rw [ne_eq, ← List.length_eq_zero_iff]; omega)]
          rfl
        · refine ev_neg (by omega) (ev_now (hno fun l' hm' => ?_).symm)
          obtain ⟨_, _, _, _, e4⟩ := htext l' hm'
          exact h58 (e4 (by omega))
theorem rreadmac_ok {s : ByteArray} {l : List Nat} (h : MacOf s l) : Ev (fun k => gangwayref02_ReadMac.f k s) (((num l : Nat) : Int), 0) := by
  have hsz : s.size = 17 := by rw [← nb_len, h.2.2, macN_len, h.2.1]
  unfold gangwayref02_ReadMac.f
  refine ev_pos (by omega) ?_
  have := rreadmac_l0 hsz (((num l : Nat) : Int), 0) (fun l' h' => by
    have e := h.unhex.symm.trans h'.unhex
    rw [Option.some.inj e]) (fun hno => absurd h (hno l)) 6 0 [] (by decide) rfl Byt.nil rfl rfl
  exact this
theorem rreadmac_no {s : ByteArray} (h : ∀ l, ¬ MacOf s l) : Ev (fun k => gangwayref02_ReadMac.f k s) (0, 20) := by
  unfold gangwayref02_ReadMac.f
  by_cases hs : s.size = 17
  · refine ev_pos (by omega) ?_
    exact rreadmac_l0 hs (0, 20) (fun l' h' => absurd h' (h l')) (fun _ => rfl) 6 0 [] (by decide) rfl Byt.nil rfl rfl
  · exact ev_neg (by omega) (ev_now rfl)
end Go.Proofs.YtgdjekigkimhnaaGreatDoor.P
