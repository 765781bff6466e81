/- AddrsTexts: the texts of any addresses, and the addresses of any texts of at most 60 bytes, are as the document says: for every input. -/
import Derived.Test.YtgdjekigkimhnaaGreatDoorAddrsPlain
import Derived.Test.YtgdjekigkimhnaaGreatDoorAddrsRefs
import Derived.OpenShut
import Derived.Test.YtgdjekigkimhnaaGreatDoorPx19
import Derived.Test.YtgdjekigkimhnaaGreatDoorPx11
import Derived.Test.YtgdjekigkimhnaaGreatDoorPx13
import Derived.Test.YtgdjekigkimhnaaGreatDoorPx15
import Derived.Test.YtgdjekigkimhnaaGreatDoorPx23
namespace Go.Proofs.YtgdjekigkimhnaaGreatDoor.Pure
set_option linter.unusedSimpArgs false
set_option linter.unusedVariables false
open Go Go.RowKit Go.Proofs.YtgdjekigkimhnaaGreatDoorW.PrintWords Go.Proofs.YtgdjekigkimhnaaGreatDoorW.PrintLast Go.Proofs.YtgdjekigkimhnaaGreatDoorW.PrintMore Go.Proofs.YtgdjekigkimhnaaGreatDoor.L Go.Proofs.YtgdjekigkimhnaaGreatDoor.P

theorem AddrsTexts (m a : Int) (s : ByteArray) (w0 : (Lit.int .u64 m).wf = true) (w1 : (Lit.int .u32 a).wf = true) (hs : s.size ≤ 140737488351232) : ∃ k, gangwaylaw02_AddrsTexts.f k m a s = some true := by
  have hm := bounds_u64 w0
  have ha := bounds_u32 w1
  obtain ⟨m, rfl⟩ := Int.eq_ofNat_of_zero_le hm.1
  obtain ⟨a, rfl⟩ := Int.eq_ofNat_of_zero_le ha.1
  have hm1 : m < 18446744073709551616 := by omega
  have ha1 : a < 4294967296 := by omega
  refine Ev.rounds ?_
  unfold gangwaylaw02_AddrsTexts.f
  refine ev_pos (mn_nonneg (size_nat s) (by decide)) (ev_pos (mn_le (s.size : Int) 60).1 ?_)
  have hc := cut_size s 60
  have e60 : ((60 : Nat) : Int) = 60 := rfl
  rw [e60] at hc
  generalize s.extract 0 (mn (s.size : Int) 60).toNat = s at *
  refine ev_succ ?_
  simp only [gangwaylaw02_AddrsTexts.j0]
  obtain ⟨r, h1, h2⟩ : ∃ r, Ev (fun k => addrs_ReadMac.f k s) r ∧ Ev (fun k => gangwayref02_ReadMac.f k s) r := by
    by_cases h : ∃ l, MacOf s l
    · obtain ⟨l, h⟩ := h
      exact ⟨_, readmac_ok h, rreadmac_ok h⟩
    · have h' : ∀ l, ¬ MacOf s l := fun l hl => h ⟨l, hl⟩
      exact ⟨_, readmac_no (by omega) h', rreadmac_no h'⟩
  obtain ⟨q, h3, h4⟩ : ∃ q, Ev (fun k => addrs_ReadIp.f k s) q ∧ Ev (fun k => gangwayref02_ReadIp.f k s) q := by
    by_cases h : ∃ v, v < 4294967296 ∧ nb s = ipT v
    · obtain ⟨v, hv, h⟩ := h
      have g1 := readip_ev (s := s) (by omega)
      have g2 := rreadip_ev (s := s) (by omega)
      rw [readip_ok hv h] at g1
      rw [grip_ok hv h] at g2
      exact ⟨_, g1, g2⟩
    · have h' : ∀ v, v < 4294967296 → nb s ≠ ipT v := fun v hv e => h ⟨v, hv, e⟩
      have g1 := readip_ev (s := s) (by omega)
      have g2 := rreadip_ev (s := s) (by omega)
      rw [readip_no h'] at g1
      rw [grip_no h'] at g2
      exact ⟨_, g1, g2⟩
  refine Ev.bind h1 (Ev.bind h2 (Ev.bind h3 (Ev.bind h4 (Ev.bind fixed_ev (ev_pos rfl ?_)))))
  refine Ev.bind (mac_ev m) (Ev.bind (rmac_ev hm1) (ev_pos rfl (Ev.bind (ip_ev ha1) (Ev.bind (rip_ev ha1) (ev_pos rfl (ev_pos rfl (ev_pos rfl (ev_pos rfl (ev_now ?_)))))))))
  simp
end Go.Proofs.YtgdjekigkimhnaaGreatDoor.Pure
