/- VxlanPorts: a frame's port hangs on its first fourteen bytes alone, and is 49152 to 65535; bytes behind others are reckoned behind them: for every input (of at most 800 bytes each, as the statement cuts them). -/
import Derived.Test.YthgdphfblajijaaDoorVxlan
import Derived.Test.YthgdphfblajijaaDoorPx12
namespace Go.Proofs.YthgdphfblajijaaDoor.Pure
set_option linter.unusedSimpArgs false
set_option linter.unusedVariables false
open Go Go.RowKit Go.Proofs.YthgdphfblajijaaDoorW.PrintWords Go.Proofs.YthgdphfblajijaaDoorW.PrintLast Go.Proofs.YthgdphfblajijaaDoorW.PrintMore Go.Proofs.YthgdphfblajijaaDoor.L Go.Proofs.YthgdphfblajijaaDoor.P

theorem ports_j4 {s t : ByteArray} (hs : s.size ≤ 800) (ht : t.size ≤ 800) (h0 : 0 < t.size) : Ev (fun k => gangwaylaw08_VxlanPorts.j4 k s t ((t.size - 1 : Nat) : Int) ((hashN (nb s ++ (nb t).take (t.size - 1)) : Nat) : Int)) true := by
  have hl := nb_len t
  have hby := nb_byt t
  have hb := getD_byte hby (t.size - 1)
  have hh := hashN_lt (nb s ++ (nb t).take (t.size - 1))
  refine ev_succ ?_
  simp only [gangwaylaw08_VxlanPorts.j4]
  refine ev_pos (by omega) ?_
  refine Ev.bind (hash_ev (by rw [ByteArray.size_append]; omega)) (ev_pos (by omega) (ev_pos (by omega) (ev_pos ?_ (Ev.bind vxlan_fixed_ev (ev_now rfl)))))
  rw [bt_nb, Int.toNat_natCast, show (((nb t).getD (t.size - 1) 0 : Nat) : Int) % 4294967296 = (((nb t).getD (t.size - 1) 0 : Nat) : Int) by omega, xor_u32 hh (by omega), nb_append]
  have e : nb s ++ nb t = (nb s ++ (nb t).take (t.size - 1)) ++ [(nb t).getD (t.size - 1) 0] := by
    have h1 := take_succ_getD (l := nb t) (i := t.size - 1) (by omega)
    rw [List.take_of_length_le (by omega)] at h1
    conv => lhs; rw [h1]
    rw [List.append_assoc]
  conv => lhs; rw [e, hashN_snoc]
  unfold hstep
  omega
theorem ports_j2 {s t : ByteArray} (hs : s.size ≤ 800) (ht : t.size ≤ 800) : Ev (fun k => gangwaylaw08_VxlanPorts.j2 k s t false) true := by
  have hl := nb_len t
  refine ev_succ ?_
  simp only [gangwaylaw08_VxlanPorts.j2, Bool.false_eq_true, if_false]
  have hnil : t.toList = [] ↔ t.size = 0 := by
    rw [ByteArray.toList_eq]
    constructor
    · intro h
      rw [← nb_len]
      unfold nb
      rw [h]
      rfl
    · intro h
      exact List.eq_nil_of_length_eq_zero (by rw [Array.length_toList]; exact h)
  by_cases h0 : t.size = 0
  · refine ev_pos (hnil.2 h0) (ev_pos (by omega) ?_)
    have e : nb t = [] := List.eq_nil_of_length_eq_zero (by omega)
    refine Ev.bind (hash_ev (by rw [ByteArray.size_append]; omega)) (Ev.bind (hash_ev (by omega)) (ev_pos (by rw [nb_append, e, List.append_nil]) ?_))
    exact Ev.bind vxlan_fixed_ev (ev_now rfl)
  · refine ev_neg (fun h => h0 (hnil.1 h)) ?_
    rw [w64 (x := (t.size : Int) - 1) (by omega) (by omega), show (t.size : Int) - 1 = ((t.size - 1 : Nat) : Int) by omega]
    refine ev_succ ?_
    simp only [gangwaylaw08_VxlanPorts.j3, Int.toNat_natCast]
    have hz : (t.extract 0 (t.size - 1)).size = t.size - 1 := by rw [ByteArray.size_extract]; omega
    refine ev_pos (by omega) (ev_pos (by omega) (ev_pos (by omega) ?_))
    refine Ev.bind (hash_ev (by rw [ByteArray.size_append]; omega)) ?_
    rw [nb_append, nb_extract, List.drop_zero]
    exact ports_j4 hs ht (by omega)
theorem VxlanPorts : gangwaylaw08_VxlanPorts.Pure := by
  intro s t _ _
  refine Ev.rounds ?_
  unfold gangwaylaw08_VxlanPorts.f
  have h1 := mn_le (s.size : Int) 800
  have h2 := mn_nonneg (size_nat s) (show (0 : Int) ≤ 800 by decide)
  refine ev_pos h2 (ev_pos h1.1 ?_)
  have hs : (s.extract 0 (mn (s.size : Int) 800).toNat).size ≤ 800 := cut_size s 800
  generalize s.extract 0 (mn (s.size : Int) 800).toNat = s at *
  refine ev_succ ?_
  simp only [gangwaylaw08_VxlanPorts.j0]
  have h3 := mn_le (t.size : Int) 800
  have h4 := mn_nonneg (size_nat t) (show (0 : Int) ≤ 800 by decide)
  refine ev_pos h4 (ev_pos h3.1 ?_)
  have ht : (t.extract 0 (mn (t.size : Int) 800).toNat).size ≤ 800 := cut_size t 800
  generalize t.extract 0 (mn (t.size : Int) 800).toNat = t at *
  refine ev_succ ?_
  simp only [gangwaylaw08_VxlanPorts.j1]
  have hp : 49152 ≤ portN (nb s) ∧ portN (nb s) ≤ 65535 := by
    unfold portN
    omega
  have hl := nb_len s
  refine Ev.bind (port_ev (by omega)) (ev_neg (by omega) (ev_neg (by omega) ?_))
  by_cases hg : (s.size : Int) ≥ 14
  · refine ev_pos hg (ev_pos (by omega) ?_)
    have e1 : portN (nb (s ++ t)) = portN (nb s) := by
      unfold portN
      rw [nb_append, List.take_append_of_le_length (by omega)]
    have e2 : portN (nb (s.extract 0 14)) = portN (nb s) := by
      unfold portN
      rw [nb_extract, List.drop_zero, List.take_take]
      rfl
    refine Ev.bind (port_ev (by rw [ByteArray.size_append]; omega)) (ev_pos (by rw [e1]) (ev_pos (by decide) (ev_pos (by omega) ?_)))
    refine Ev.bind (port_ev (by rw [ByteArray.size_extract]; omega)) ?_
    rw [e2, bne_self_eq_false]
    exact ports_j2 hs ht
  · exact ev_neg hg (ports_j2 hs ht)
end Go.Proofs.YthgdphfblajijaaDoor.Pure
