/- What the document's answer for octets computes: digits. -/
import Derived.Test.YtclffgkefbdcpaaDoorPx5
import Derived.Test.YtclffgkefbdcpaaDoorPx9
import Derived.Test.YtclffgkefbdcpaaDoorPx10
import Derived.Test.YtclffgkefbdcpaaDoorPx11
import Derived.Test.YtclffgkefbdcpaaDoorOctets
namespace Go.Proofs.YtclffgkefbdcpaaDoor.P
open Go Go.RowKit Go.Proofs.YtclffgkefbdcpaaDoorW.PrintWords Go.Proofs.YtclffgkefbdcpaaDoorW.PrintLast Go.Proofs.YtclffgkefbdcpaaDoorW.PrintMore Go.Proofs.YtclffgkefbdcpaaDoor.L

theorem digit_eq {n : Nat} (h : n < 16) : gangwayref01_digit.f (n : Int) = some ((hexD n : Nat) : Int) := by
  unfold gangwayref01_digit.f hexD
  by_cases h1 : n < 10
  · rw [if_pos (by omega), if_pos h1]
    congr 1
    omega
  · rw [if_neg (by omega), if_neg h1]
    congr 1
    omega
theorem o_take_succ {l : List Nat} {i : Nat} (h : i < l.length) : l.take (i + 1) = l.take i ++ [l.getD i 0] := by
  rw [List.take_succ_eq_append_getElem h]
  simp [List.getD_eq_getElem?_getD, List.getElem?_eq_getElem h]
theorem rhex_l0 (s : ByteArray) (hs : s.size ≤ 1000000) (d : Nat) : ∀ i : Nat, i ≤ s.size → s.size - i = d →
    Ev (fun k => gangwayref01_Hex.l0 k s ((hexN ((nb s).take i)).map fun (y : Nat) => (y : Int)) (i : Int)) (bs (hexN (nb s))) := by
  have hl := nb_len s
  have hby := nb_byt s
  induction d with
  | zero =>
    intro i hi hd
    refine ev_succ ?_
    simp only [gangwayref01_Hex.l0]
    refine ev_neg (by omega) (ev_now ?_)
    rw [List.take_of_length_le (by omega), nums_nat (hexN_byt hby)]
  | succ d ih =>
    intro i hi hd
    have hlt : i < (nb s).length := by omega
    have hb := getD_byte hby i
    refine Ev.step (f := fun k => gangwayref01_Hex.l0 k s ((hexN ((nb s).take (i + 1))).map fun (y : Nat) => (y : Int)) ((i + 1 : Nat) : Int)) (fun k => ?_) (ih (i + 1) (by omega) (by omega))
    simp only [gangwayref01_Hex.l0]
    rw [if_pos (by omega), if_pos (by omega), bt_nb, Int.toNat_natCast]
    have e1 : ((((nb s).getD i 0 : Nat) : Int).tdiv 16) % 256 = (((nb s).getD i 0 / 16 : Nat) : Int) := by
      rw [Int.tdiv_eq_ediv_of_nonneg (by omega)]
      omega
    have e2 : (((nb s).getD i 0 : Nat) : Int).tmod 16 = (((nb s).getD i 0 % 16 : Nat) : Int) := by
      rw [Int.tmod_eq_emod_of_nonneg (by omega)]
      omega
    rw [e1, e2, digit_eq (by omega), digit_eq (by omega), Option.bind_some]
    have hle : ((hexN ((nb s).take i)).map fun (y : Nat) => (y : Int)).length ≤ 2000000 := by
      rw [List.length_map, hexN_len, List.length_take]
      omega
    rw [if_pos (by omega), Option.bind_some, Option.bind_some, if_pos (by rw [List.length_append, List.length_singleton]; omega), w64 (x := (i : Int) + 1) (by omega) (by omega), o_take_succ hlt, hexN_snoc]
    rw [List.map_append]
    simp only [List.map_cons, List.map_nil, List.append_assoc, List.cons_append, List.nil_append]
    rfl
theorem rhex_ev {s : ByteArray} (hs : s.size ≤ 1000000) : Ev (fun k => gangwayref01_Hex.f k s) (bs (hexN (nb s))) := by
  unfold gangwayref01_Hex.f
  exact rhex_l0 s hs s.size 0 (Nat.zero_le _) rfl
theorem hal_dig {n : Nat} (h : 48 ≤ n ∧ n ≤ 57) : hal n = (n : Int) - 48 := if_pos h
theorem hal_let {n : Nat} (h1 : ¬ (48 ≤ n ∧ n ≤ 57)) (h : 97 ≤ n ∧ n ≤ 102) : hal n = (n : Int) - 87 := (if_neg h1).trans (if_pos h)
theorem hal_no {n : Nat} (h1 : ¬ (48 ≤ n ∧ n ≤ 57)) (h : ¬ (97 ≤ n ∧ n ≤ 102)) : hal n = -1 := (if_neg h1).trans (if_neg h)
theorem half_ev (n : Nat) (h : n < 256) : Ev (fun k => gangwayref01_half.f k (n : Int)) (if hal n < 0 then 16 else hal n) := by
  have g : ∀ b : Bool, b = decide (48 ≤ n ∧ n ≤ 57) → Ev (fun k => gangwayref01_half.j0 k (n : Int) b) (if hal n < 0 then 16 else hal n) := by
    intro b hb
    refine ev_succ ?_
    simp only [gangwayref01_half.j0]
    by_cases h1 : 48 ≤ n ∧ n ≤ 57
    · rw [decide_eq_true h1] at hb
      have e : (if hal n < 0 then (16 : Int) else hal n) = (n : Int) - 48 := by
        rw [hal_dig h1]
        exact if_neg (by omega)
      rw [e]
      exact ev_pos hb (ev_now (by omega))
    · rw [decide_eq_false h1] at hb
      refine ev_neg (by rw [hb]; decide) ?_
      by_cases h2 : 97 ≤ n ∧ n ≤ 102
      · have e : (if hal n < 0 then (16 : Int) else hal n) = (n : Int) - 87 := by
          rw [hal_let h1 h2]
          exact if_neg (by omega)
        rw [e]
        exact ev_pos (by omega) (ev_pos (by omega) (ev_now (by omega)))
      · have e : (if hal n < 0 then (16 : Int) else hal n) = 16 := by
          rw [hal_no h1 h2]
          exact if_pos (by decide)
        rw [e]
        by_cases h3 : 97 ≤ n
        · exact ev_pos (by omega) (ev_neg (by omega) (ev_now rfl))
        · exact ev_neg (by omega) (ev_now rfl)
  unfold gangwayref01_half.f
  by_cases h1 : 48 ≤ n
  · refine ev_pos (by omega) (g _ ?_)
    rw [decide_eq_decide]
    omega
  · refine ev_neg (by omega) (g _ ?_)
    rw [eq_comm, decide_eq_false_iff_not]
    omega
/-- The end of the document's Unhex. -/
def runhexEnd (s : ByteArray) (acc : List Nat) : Option (List Nat) → ByteArray × Int
  | none => (⟨#[]⟩, 11)
  | some l => if s.size % 2 = 1 then (⟨#[]⟩, 11) else (bs (acc ++ l), 0)
theorem drop_two_getD {l : List Nat} {i : Nat} (h : i + 1 < l.length) : l.drop i = l.getD i 0 :: l.getD (i + 1) 0 :: l.drop (i + 2) := by
  rw [List.drop_eq_getElem_cons (by omega), List.drop_eq_getElem_cons h]
  simp [List.getD_eq_getElem?_getD, List.getElem?_eq_getElem h, List.getElem?_eq_getElem (show i < l.length by omega)]
theorem runhex_l0 (s : ByteArray) (hs : s.size ≤ 1000000) (d : Nat) : ∀ (i : Nat) (acc : List Nat), Byt acc → acc.length ≤ i → i ≤ s.size → (s.size - i) / 2 = d →
    Ev (fun k => gangwayref01_Unhex.l0 k s (acc.map fun (y : Nat) => (y : Int)) (i : Int)) (runhexEnd s acc (unhexN ((nb s).drop i))) := by
  have hl := nb_len s
  have hby := nb_byt s
  induction d with
  | zero =>
    intro i acc ha hal_ hi hd
    have hu : unhexN ((nb s).drop i) = some [] := by
      have hlen : ((nb s).drop i).length ≤ 1 := by
        rw [List.length_drop]
        omega
      match (nb s).drop i, hlen with
      | [], _ => rfl
      | [_], _ => rfl
      | _ :: _ :: _, h => exact absurd h (by simp)
    rw [hu]
    refine ev_succ ?_
    simp only [gangwayref01_Unhex.l0, runhexEnd]
    rw [w64 (x := (i : Int) + 1) (by omega) (by omega)]
    refine ev_neg (by omega) ?_
    by_cases h : s.size % 2 = 1
    · rw [if_pos h]
      exact ev_pos (by omega) (ev_now rfl)
    · rw [if_neg h]
      refine ev_neg (by omega) (ev_now ?_)
      rw [nums_nat ha, List.append_nil]
  | succ d ih =>
    intro i acc ha hal_ hi hd
    have hlt : i + 1 < (nb s).length := by omega
    have b1 := getD_byte hby i
    have b2 := getD_byte hby (i + 1)
    rw [drop_two_getD hlt]
    simp only [unhexN]
    refine ev_succ ?_
    simp only [gangwayref01_Unhex.l0]
    rw [w64 (x := (i : Int) + 1) (by omega) (by omega)]
    refine ev_pos (by omega) (ev_pos (by omega) (ev_pos (by omega) ?_))
    have e1 : bt s (i : Int) = (((nb s).getD i 0 : Nat) : Int) := by rw [bt_nb, Int.toNat_natCast]
    have e2 : bt s ((i : Int) + 1) = (((nb s).getD (i + 1) 0 : Nat) : Int) := by
      rw [bt_nb]
      rfl
    rw [e1, e2]
    have H1 := half_ev _ b1
    have H2 := half_ev _ b2
    refine Ev.bind H1 ?_
    by_cases h1 : hal ((nb s).getD i 0) < 0
    · rw [if_pos h1, if_pos (Or.inl h1)]
      refine ev_pos (by decide) (ev_succ ?_)
      simp only [gangwayref01_Unhex.j1]
      exact ev_pos trivial (ev_now rfl)
    · rw [if_neg h1]
      obtain ⟨q1, g1⟩ := hal_nat h1
      refine ev_neg (by omega) (ev_pos (by omega) (Ev.bind H2 ?_))
      by_cases h2 : hal ((nb s).getD (i + 1) 0) < 0
      · rw [if_pos h2, if_pos (Or.inr h2)]
        refine ev_succ ?_
        simp only [gangwayref01_Unhex.j1]
        exact ev_pos (by decide) (ev_now rfl)
      · rw [if_neg h2, if_neg (fun h => h.elim h1 h2)]
        obtain ⟨q2, g2⟩ := hal_nat h2
        rw [if_neg h1] at H1
        rw [if_neg h2] at H2
        refine ev_succ ?_
        simp only [gangwayref01_Unhex.j1]
        rw [w64 (x := (i : Int) + 1) (by omega) (by omega), w64 (x := (i : Int) + 2) (by omega) (by omega)]
        have q3 : ¬ decide (hal ((nb s).getD (i + 1) 0) > 15) = true := by
          rw [decide_eq_true_eq]
          omega
        refine ev_neg q3 (ev_pos (by omega) (ev_pos (by omega) ?_))
        rw [e1, e2]
        refine Ev.bind H1 (ev_pos (by omega) (ev_pos (by omega) (Ev.bind H2 (ev_pos (by rw [List.length_map]; omega) ?_))))
        generalize hx : (hal ((nb s).getD i 0)).toNat = x at *
        generalize hy : (hal ((nb s).getD (i + 1) 0)).toNat = y at *
        rw [q1, q2]
        have e3 : (((x : Int) * 16 % 256) + (y : Int)) % 256 = ((x * 16 + y : Nat) : Int) := by omega
        rw [e3]
        have := ih (i + 2) (acc ++ [x * 16 + y]) (ha.append (Byt.cons (by omega) Byt.nil)) (by rw [List.length_append, List.length_singleton]; omega) (by omega) (by omega)
        rw [List.map_append] at this
        have e4 : runhexEnd s (acc ++ [x * 16 + y]) (unhexN ((nb s).drop (i + 2))) = runhexEnd s acc ((unhexN ((nb s).drop (i + 2))).map fun l => (x * 16 + y) :: l) := by
          cases unhexN ((nb s).drop (i + 2)) with
          | none => rfl
          | some l => simp [runhexEnd]
        rw [← e4]
        exact this
theorem runhex_ev {s : ByteArray} (hs : s.size ≤ 1000000) : Ev (fun k => gangwayref01_Unhex.f k s) (gunhex s) := by
  unfold gangwayref01_Unhex.f
  have h := runhex_l0 s hs (s.size / 2) 0 [] Byt.nil (by simp) (Nat.zero_le _) (by rw [Nat.sub_zero])
  rw [List.drop_zero] at h
  have e : runhexEnd s [] (unhexN (nb s)) = gunhex s := by
    unfold gunhex
    cases unhexN (nb s) with
    | none => simp [runhexEnd]
    | some l =>
      simp only [runhexEnd, List.nil_append]
      by_cases h1 : s.size % 2 = 0
      · rw [if_pos h1, if_neg (by omega)]
      · rw [if_neg h1, if_pos (by omega)]
  rw [e] at h
  exact h
end Go.Proofs.YtclffgkefbdcpaaDoor.P
