/- ArpBytes: the bytes of a message begin with what they have to; its two halves tell who asks, and who is asked: for every input. -/
import Derived.Test.YtjlikmonnnbnaaaDoorArp
import Derived.OpenShut
import Derived.Test.YtjlikmonnnbnaaaDoorPx19
namespace Go.Proofs.YtjlikmonnnbnaaaDoor.Pure
set_option linter.unusedSimpArgs false
set_option linter.unusedVariables false
open Go Go.RowKit Go.Proofs.YtjlikmonnnbnaaaDoorW.PrintWords Go.Proofs.YtjlikmonnnbnaaaDoorW.PrintLast Go.Proofs.YtjlikmonnnbnaaaDoorW.PrintMore Go.Proofs.YtjlikmonnnbnaaaDoor.L Go.Proofs.YtjlikmonnnbnaaaDoor.P

theorem part_at (p m q : List Nat) (i j : Nat) (hb : Byt (p ++ (m ++ q))) (hi : p.length = i) (hj : i + m.length = j) : (bs (p ++ (m ++ q))).extract i j = bs m := by
  rw [bs_extract]
  congr 1
  rw [← List.append_assoc, List.take_append_of_le_length (by rw [List.length_append]; omega), List.take_of_length_le (by rw [List.length_append]; omega), List.drop_append_of_le_length (by omega), List.drop_of_length_le (by omega), List.nil_append]
theorem half1 (op sm si tm ti : Nat) : (bs (abytes op sm si tm ti)).extract 14 18 = bs (be 4 si) := by
  have e : abytes op sm si tm ti = ([0, 1, 8, 0, 6, 4] ++ (be 2 op ++ be 6 sm)) ++ (be 4 si ++ (be 6 tm ++ be 4 ti)) := by
    unfold abytes
    simp only [List.append_assoc]
  have hb := abytes_byt op sm si tm ti
  rw [e] at hb ⊢
  exact part_at _ _ _ _ _ hb (by simp [be_len]) (by simp [be_len])
theorem half2 (op sm si tm ti : Nat) : (bs (abytes op sm si tm ti)).extract 24 28 = bs (be 4 ti) := by
  have e : abytes op sm si tm ti = ([0, 1, 8, 0, 6, 4] ++ (be 2 op ++ (be 6 sm ++ (be 4 si ++ be 6 tm)))) ++ (be 4 ti ++ []) := by
    unfold abytes
    simp only [List.append_assoc, List.append_nil]
  have hb := abytes_byt op sm si tm ti
  rw [e] at hb ⊢
  exact part_at _ _ _ _ _ hb (by simp [be_len]) (by simp [be_len])
theorem half0 (op sm si tm ti : Nat) : (bs (abytes op sm si tm ti)).extract 8 14 = bs (be 6 sm) := by
  have e : abytes op sm si tm ti = ([0, 1, 8, 0, 6, 4] ++ be 2 op) ++ (be 6 sm ++ (be 4 si ++ (be 6 tm ++ be 4 ti))) := by
    unfold abytes
    simp only [List.append_assoc]
  have hb := abytes_byt op sm si tm ti
  rw [e] at hb ⊢
  exact part_at _ _ _ _ _ hb (by simp [be_len]) (by simp [be_len])
theorem begins (op sm si tm ti : Nat) : ((bs (abytes op sm si tm ti)).extract 0 6).toList = ([0, 1, 8, 0, 6, 4] : List UInt8) := by
  rw [cut_six]
  unfold ahas
  rw [nb_bs (abytes_byt _ _ _ _ _)]
  rfl
theorem ArpBytes (op sm si tm ti : Int) (w0 : (Lit.int .i64 op).wf = true) (w1 : (Lit.int .u64 sm).wf = true) (w2 : (Lit.int .u32 si).wf = true) (w3 : (Lit.int .u64 tm).wf = true) (w4 : (Lit.int .u32 ti).wf = true) :
    ∃ k, gangwaylaw05_ArpBytes.f k op sm si tm ti = some true := by
  have b1 := bounds_u64 w1
  have b2 := bounds_u32 w2
  have b3 := bounds_u64 w3
  have b4 := bounds_u32 w4
  obtain ⟨sm, rfl⟩ := Int.eq_ofNat_of_zero_le b1.1
  obtain ⟨si, rfl⟩ := Int.eq_ofNat_of_zero_le b2.1
  obtain ⟨tm, rfl⟩ := Int.eq_ofNat_of_zero_le b3.1
  obtain ⟨ti, rfl⟩ := Int.eq_ofNat_of_zero_le b4.1
  refine Ev.rounds ?_
  unfold gangwaylaw05_ArpBytes.f
  refine Ev.bind (abuild_ev (by omega) (by omega) (by omega)) ?_
  unfold abuild
  by_cases hok : aok op sm tm = true
  · rw [if_pos hok]
    refine ev_pos rfl (Ev.bind (abuild_ev (by omega) (by omega) (by omega)) ?_)
    unfold abuild
    rw [if_pos hok]
    dsimp only
    have z1 := abs_size op.toNat sm si tm ti
    have z2 := abs_size op.toNat sm ti tm si
    refine ev_pos (by omega) (ev_pos rfl (ev_pos (by omega) (ev_pos (by decide) (ev_pos (by omega) (ev_pos (begins _ _ _ _ _) ?_)))))
    refine ev_pos (by decide) (ev_pos (by omega) (ev_pos (by decide) (ev_pos (by omega) (ev_pos (by rw [half1, half2]) ?_))))
    refine ev_pos (by omega) (ev_pos (by omega) (ev_pos (by rw [half1, half2]) ?_))
    refine ev_pos (by decide) (ev_pos (by omega) (ev_pos (by omega) (ev_pos (by rw [half0, half0]) ?_)))
    exact Ev.bind arp_fixed_ev (ev_now rfl)
  · rw [if_neg hok]
    refine ev_neg (by decide) (ev_pos (by decide +kernel) ?_)
    rw [acheck_eq _ _ (by omega), if_neg hok]
    exact ev_some (ev_pos rfl (Ev.bind arp_fixed_ev (ev_now rfl)))
end Go.Proofs.YtjlikmonnnbnaaaDoor.Pure
