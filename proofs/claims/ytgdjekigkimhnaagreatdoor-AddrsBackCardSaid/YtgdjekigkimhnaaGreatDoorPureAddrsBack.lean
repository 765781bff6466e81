/- AddrsBack: what is written is read as it was; what is read is written as it was; two addresses have one text just if they are one: for every input. -/
import Derived.Test.YtgdjekigkimhnaaGreatDoorAddrsPlain
import Derived.OpenShut
import Derived.Test.YtgdjekigkimhnaaGreatDoorPx13
import Derived.Test.YtgdjekigkimhnaaGreatDoorPx31
namespace Go.Proofs.YtgdjekigkimhnaaGreatDoor.Pure
set_option linter.unusedSimpArgs false
set_option linter.unusedVariables false
open Go Go.RowKit Go.Proofs.YtgdjekigkimhnaaGreatDoorW.PrintWords Go.Proofs.YtgdjekigkimhnaaGreatDoorW.PrintLast Go.Proofs.YtgdjekigkimhnaaGreatDoorW.PrintMore Go.Proofs.YtgdjekigkimhnaaGreatDoor.L Go.Proofs.YtgdjekigkimhnaaGreatDoor.P

theorem and48 (m : Nat) (hm : m < 18446744073709551616) : Go.bits .and .u64 (m : Int) 281474976710655 = ((m % 281474976710656 : Nat) : Int) := by
  have h := (bits_nat .u64 64 (by decide) wraps_u64 m 281474976710655 hm (by decide)).1
  rw [show ((281474976710655 : Nat) : Int) = 281474976710655 from rfl] at h
  rw [h]
  congr 1
  exact Nat.and_two_pow_sub_one_eq_mod m 48
theorem back_j2 {s : ByteArray} (hs : s.size ≤ 60) : Ev (fun k => gangwaylaw02_AddrsBack.j2 k s false) true := by
  refine ev_succ ?_
  simp only [gangwaylaw02_AddrsBack.j2]
  refine ev_neg (by decide) ?_
  have hip : (∃ v, v < 4294967296 ∧ nb s = ipT v ∧ Ev (fun k => addrs_ReadIp.f k s) ((v : Int), 0)) ∨ Ev (fun k => addrs_ReadIp.f k s) (0, 20) := by
    have g1 := readip_ev (s := s) (by omega)
    by_cases h : ∃ v, v < 4294967296 ∧ nb s = ipT v
    · obtain ⟨v, hv, h⟩ := h
      rw [readip_ok hv h] at g1
      exact Or.inl ⟨v, hv, h, g1⟩
    · rw [readip_no (fun v hv e => h ⟨v, hv, e⟩)] at g1
      exact Or.inr g1
  by_cases h : ∃ l, MacOf s l
  · obtain ⟨l, h⟩ := h
    have hm := mac_ev (num l)
    have eb : be 6 (num l) = l := by
      have := be_num l h.1
      rw [h.2.1] at this
      exact this
    rw [eb] at hm
    have hl : (bs (macN l)).toList = s.toList := (list_eq _ _).2 (by rw [nb_bs (macN_byt h.1), h.2.2])
    have hn : num l < 281474976710656 := by
      have := num_lt h.1
      rw [h.2.1] at this
      exact this
    rcases hip with ⟨v, hv, e, g⟩ | g
    · refine Ev.bind (readmac_ok h) (Ev.bind g (ev_pos rfl (Ev.bind hm (ev_pos hl (ev_pos (by show ((num l : Nat) : Int) < 281474976710656; omega) (ev_pos rfl (Ev.bind (ip_ev hv) (ev_pos ((list_eq _ _).2 (by rw [nb_bs (ipT_byt hv), e])) (Ev.bind fixed_ev (ev_now rfl))))))))))
    · exact Ev.bind (readmac_ok h) (Ev.bind g (ev_pos rfl (Ev.bind hm (ev_pos hl (ev_pos (by show ((num l : Nat) : Int) < 281474976710656; omega) (ev_neg (by decide) (ev_pos rfl (Ev.bind fixed_ev (ev_now rfl)))))))))
  · have hno := readmac_no (s := s) (by omega) (fun l hl => h ⟨l, hl⟩)
    rcases hip with ⟨v, hv, e, g⟩ | g
    · exact Ev.bind hno (Ev.bind g (ev_neg (by decide) (ev_pos rfl (Ev.bind (ip_ev hv) (ev_pos ((list_eq _ _).2 (by rw [nb_bs (ipT_byt hv), e])) (ev_pos rfl (Ev.bind fixed_ev (ev_now rfl))))))))
    · exact Ev.bind hno (Ev.bind g (ev_neg (by decide) (ev_neg (by decide) (ev_pos rfl (ev_pos rfl (Ev.bind fixed_ev (ev_now rfl)))))))
theorem AddrsBack (m a : Int) (s : ByteArray) (w0 : (Lit.int .u64 m).wf = true) (w1 : (Lit.int .u32 a).wf = true) (hs : s.size ≤ 140737488351232) : ∃ k, gangwaylaw02_AddrsBack.f k m a s = some true := by
  have hm := bounds_u64 w0
  have ha := bounds_u32 w1
  obtain ⟨m, rfl⟩ := Int.eq_ofNat_of_zero_le hm.1
  obtain ⟨a, rfl⟩ := Int.eq_ofNat_of_zero_le ha.1
  have hm1 : m < 18446744073709551616 := by omega
  have ha1 : a < 4294967296 := by omega
  refine Ev.rounds ?_
  unfold gangwaylaw02_AddrsBack.f
  refine ev_pos (mn_nonneg (size_nat s) (by decide)) (ev_pos (mn_le (s.size : Int) 60).1 ?_)
  have hc := cut_size s 60
  have e60 : ((60 : Nat) : Int) = 60 := rfl
  rw [e60] at hc
  generalize s.extract 0 (mn (s.size : Int) 60).toNat = s at *
  refine ev_succ ?_
  simp only [gangwaylaw02_AddrsBack.j0]
  rw [and48 m hm1]
  refine ev_succ ?_
  simp only [gangwaylaw02_AddrsBack.j1]
  have hmac := mac_ev m
  have hmk := mac_ev (m % 281474976710656)
  have e6 : be 6 (m % 281474976710656) = be 6 m := be_mod 6 m
  rw [e6] at hmk
  have hof : MacOf (bs (macN (be 6 m))) (be 6 m) := ⟨be_byt 6 m, be_len 6 m, nb_bs (macN_byt (be_byt 6 m))⟩
  have hr := readmac_ok hof
  rw [num_be, show 256 ^ 6 = 281474976710656 by decide] at hr
  have hn : nb (bs (ipT a)) = ipT a := nb_bs (ipT_byt ha1)
  have hi := readip_ev (s := bs (ipT a)) (by have := ipT_size hn; omega)
  rw [readip_ok ha1 hn] at hi
  refine Ev.bind hmac (Ev.bind hr (Ev.bind (ip_ev ha1) (Ev.bind hi (ev_pos rfl (ev_pos rfl (ev_pos rfl (ev_pos rfl (Ev.bind hmac (Ev.bind hmk ?_)))))))))
  have eq : ((bs (macN (be 6 m))).toList != (bs (macN (be 6 m))).toList) = false := by simp
  rw [eq]
  exact back_j2 (by omega)
end Go.Proofs.YtgdjekigkimhnaaGreatDoor.Pure
