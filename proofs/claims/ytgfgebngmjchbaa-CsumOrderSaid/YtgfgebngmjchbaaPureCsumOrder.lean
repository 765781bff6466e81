/- CsumOrder: words in another order have the same checksum; so have words 0 more: for every input (of at most 600 bytes, as the statement cuts them). -/
import Derived.Test.YtgfgebngmjchbaaCsumFix
import Derived.Test.YtgfgebngmjchbaaPx13
namespace Go.Proofs.Ytgfgebngmjchbaa.Pure
open Go Go.RowKit Go.Proofs.YtgfgebngmjchbaaW.PrintWords Go.Proofs.YtgfgebngmjchbaaW.PrintLast Go.Proofs.YtgfgebngmjchbaaW.PrintMore Go.Proofs.Ytgfgebngmjchbaa.L Go.Proofs.Ytgfgebngmjchbaa.P

theorem order_end {s back zero : ByteArray} (hs : s.size ≤ 600) (hb : back.size ≤ 600) (hz : zero.size ≤ 100) (he : s.size % 2 = 0) (hze : zero.size % 2 = 0) (hw : wsum (nb back) = wsum (nb s)) (h0 : wsum (nb zero) = 0) (x8 x1 : Int) :
    Ev (fun k => gangwaylaw03_CsumOrder.j5 k s x1 back zero x8 false) true := by
  have n1 := nb_len s
  have n2 := nb_len back
  have n3 := nb_len zero
  refine ev_succ ?_
  simp only [gangwaylaw03_CsumOrder.j5, Bool.false_eq_true, if_false]
  have e1 : csumN (cat [s]) = csumN (nb s) := by rw [cat_one]
  have e2 : csumN (cat [back]) = csumN (nb s) := by
    rw [cat_one]
    unfold csumN
    rw [hw]
  have e3 : csumN (cat [s, zero]) = csumN (nb s) := by
    rw [cat_two]
    unfold csumN
    rw [wsum_append _ (by omega), h0, Nat.add_zero]
  have e4 : csumN (cat [zero, s, (⟨#[0]⟩ : ByteArray)]) = csumN (nb s) := by
    rw [cat_three]
    unfold csumN
    rw [wsum_append _ (by omega), h0, Nat.zero_add, wsum_append _ (by omega), show nb (⟨#[0]⟩ : ByteArray) = [0] from rfl]
    simp [wsum]
  have l1 : (cat [s]).length ≤ 1099511627775 := by rw [cat_one]; omega
  have l2 : (cat [back]).length ≤ 1099511627775 := by rw [cat_one]; omega
  have l3 : (cat [s, zero]).length ≤ 1099511627775 := by rw [cat_two, List.length_append]; omega
  have l4 : (cat [zero, s, (⟨#[0]⟩ : ByteArray)]).length ≤ 1099511627775 := by
    rw [cat_three, List.length_append, List.length_append, show nb (⟨#[0]⟩ : ByteArray) = [0] from rfl, List.length_singleton]
    omega
  refine Ev.bind (of_f_ev (by simp) l1) (Ev.bind (of_f_ev (by simp) l2) (ev_pos (by rw [e1, e2]) ?_))
  refine Ev.bind (of_f_ev (by simp) l3) (Ev.bind (of_f_ev (by simp) l1) (ev_pos (by rw [e1, e3]) ?_))
  refine Ev.bind (of_f_ev (by simp) l4) (Ev.bind (of_f_ev (by simp) l1) (ev_pos (by rw [e1, e4]) ?_))
  exact Ev.bind csum_fixed_ev (ev_now rfl)
theorem order_l1 {s back : ByteArray} (hs : s.size ≤ 600) (hb : back.size ≤ 600) (he : s.size % 2 = 0) (hw : wsum (nb back) = wsum (nb s)) (x1 : Int) (d : Nat) :
    ∀ (j : Nat) (zero : ByteArray), zero.size = 2 * j → wsum (nb zero) = 0 → j ≤ (x1 % 16).toNat → (x1 % 16).toNat - j = d → Ev (fun k => gangwaylaw03_CsumOrder.l1 k s x1 back zero (j : Int)) true := by
  have hx := Int.emod_nonneg x1 (show (16 : Int) ≠ 0 by decide)
  have hx2 := Int.emod_lt_of_pos x1 (show (0 : Int) < 16 by decide)
  induction d with
  | zero =>
    intro j zero hz h0 hj hd
    refine ev_succ ?_
    simp only [gangwaylaw03_CsumOrder.l1]
    rw [mask4, decide_eq_false (by omega)]
    exact order_end hs hb (by omega) he (by omega) hw h0 _ _
  | succ d ih =>
    intro j zero hz h0 hj hd
    refine ev_succ ?_
    simp only [gangwaylaw03_CsumOrder.l1]
    rw [mask4, decide_eq_true (by omega)]
    refine ev_succ ?_
    simp only [gangwaylaw03_CsumOrder.j5, if_true]
    refine ev_pos (by omega) ?_
    rw [w64 (x := (j : Int) + 1) (by omega) (by omega)]
    have := ih (j + 1) (zero ++ (⟨#[0, 0]⟩ : ByteArray)) (by rw [ByteArray.size_append, hz]; show 2 * j + 2 = _; omega) (by
      rw [nb_append, wsum_append _ (by rw [nb_len]; omega), h0]
      rfl) (by omega) (by omega)
    exact this
theorem order_l0 {s : ByteArray} (hs : s.size ≤ 600) (he : s.size % 2 = 0) (x1 : Int) (i : Nat) :
    ∀ (back : ByteArray), 2 * i ≤ s.size → back.size + 2 * i = s.size → wsum (nb back) = wsum ((nb s).drop (2 * i)) → Ev (fun k => gangwaylaw03_CsumOrder.l0 k s x1 back (⟨#[]⟩ : ByteArray) (2 * (i : Int) - 2)) true := by
  have hl := nb_len s
  induction i with
  | zero =>
    intro back h1 h2 h3
    refine ev_succ ?_
    simp only [gangwaylaw03_CsumOrder.l0]
    refine ev_neg (by omega) ?_
    have hx := Int.emod_nonneg x1 (show (16 : Int) ≠ 0 by decide)
    exact order_l1 hs (by omega) he (by rw [h3]; rfl) x1 _ 0 (⟨#[]⟩ : ByteArray) rfl rfl (by omega) rfl
  | succ i ih =>
    intro back h1 h2 h3
    refine ev_succ ?_
    simp only [gangwaylaw03_CsumOrder.l0]
    refine ev_pos (by omega) (ev_pos (by omega) ?_)
    rw [w64 (x := 2 * ((i + 1 : Nat) : Int) - 2 + 2) (by omega) (by omega), w64 (x := 2 * ((i + 1 : Nat) : Int) - 2 - 2) (by omega) (by omega)]
    have e1 : (2 * ((i + 1 : Nat) : Int) - 2).toNat = 2 * i := by omega
    have e2 : (2 * ((i + 1 : Nat) : Int) - 2 + 2).toNat = 2 * i + 2 := by omega
    rw [e1, e2]
    refine ev_pos (by omega) (ev_pos (by omega) (ev_pos (by rw [ByteArray.size_extract]; omega) ?_))
    have hsz : (s.extract (2 * i) (2 * i + 2)).size = 2 := by rw [ByteArray.size_extract]; omega
    have hnb : nb (s.extract (2 * i) (2 * i + 2)) = [(nb s).getD (2 * i) 0, (nb s).getD (2 * i + 1) 0] := by
      rw [nb_extract, List.drop_take, drop_two (by omega)]
      rw [show 2 * i + 2 - 2 * i = 2 by omega]
      rfl
    have := ih (back ++ s.extract (2 * i) (2 * i + 2)) (by omega) (by rw [ByteArray.size_append, hsz]; omega) (by
      rw [nb_append, wsum_append _ (by rw [nb_len]; omega), h3, hnb, drop_two (i := 2 * i) (by omega), show 2 * (i + 1) = 2 * i + 2 by omega]
      simp only [wsum]
      omega)
    rw [show (2 * ((i + 1 : Nat) : Int) - 2 - 2) = 2 * (i : Int) - 2 by omega]
    exact this
theorem order_j2 {s : ByteArray} (hs : s.size ≤ 600) (he : s.size % 2 = 0) (x1 : Int) : Ev (fun k => gangwaylaw03_CsumOrder.j2 k s x1) true := by
  refine ev_succ ?_
  simp only [gangwaylaw03_CsumOrder.j2]
  rw [w64 (x := (s.size : Int) - 2) (by omega) (by omega)]
  have := order_l0 hs he x1 (s.size / 2) (⟨#[]⟩ : ByteArray) (by omega) (by show 0 + _ = _; omega) (by
    rw [show 2 * (s.size / 2) = s.size by omega, List.drop_eq_nil_of_le (by rw [nb_len]; omega)]
    rfl)
  rw [show (2 * ((s.size / 2 : Nat) : Int) - 2) = (s.size : Int) - 2 by omega] at this
  exact this
theorem CsumOrder : gangwaylaw03_CsumOrder.Pure := by
  intro s x1 _ _
  refine Ev.rounds ?_
  unfold gangwaylaw03_CsumOrder.f
  have h1 := mn_le (s.size : Int) 600
  have h2 := mn_nonneg (size_nat s) (show (0 : Int) ≤ 600 by decide)
  refine ev_pos h2 (ev_pos h1.1 ?_)
  have hs := cut_size s 600
  generalize s.extract 0 (mn (s.size : Int) 600).toNat = s at *
  refine ev_succ ?_
  simp only [gangwaylaw03_CsumOrder.j0]
  refine ev_succ ?_
  simp only [gangwaylaw03_CsumOrder.j1]
  by_cases ho : (s.size : Int) % 2 = 1
  · refine ev_pos (by simpa using ho) ?_
    rw [w64 (x := (s.size : Int) - 1) (by omega) (by omega)]
    refine ev_pos (by omega) (ev_pos (by omega) ?_)
    exact order_j2 (by rw [ByteArray.size_extract]; omega) (by rw [ByteArray.size_extract]; omega) x1
  · refine ev_neg (by simpa using ho) ?_
    exact order_j2 hs (by omega) x1
end Go.Proofs.Ytgfgebngmjchbaa.Pure
