/- The plain laws of the seat and what its printed functions compute, in one text. -/
import Derived.Test.YtbkgaplldfilnaaDoorPx40
import Derived.Test.YtbkgaplldfilnaaDoorPx41
import Derived.Test.YtbkgaplldfilnaaDoorStationPlain
import Derived.Test.YtbkgaplldfilnaaDoorPx39
import Derived.Test.YtbkgaplldfilnaaDoorPx0
import Derived.Test.YtbkgaplldfilnaaDoorPx43
namespace Go.Proofs.YtbkgaplldfilnaaDoor.P
set_option linter.unusedSimpArgs false
set_option linter.unusedVariables false
open Go Go.RowKit Go.Proofs.YtbkgaplldfilnaaDoorW.PrintWords Go.Proofs.YtbkgaplldfilnaaDoorW.PrintLast Go.Proofs.YtbkgaplldfilnaaDoorW.PrintMore Go.Proofs.YtbkgaplldfilnaaDoor.L

theorem richeck_eq (tos id : Int) (whole more : Bool) (off ttl proto src dst : Int) (body : ByteArray) : gangwayref06_Check.f tos id whole more off ttl proto src dst body = some (if iok tos id off ttl proto body.size = true then 0 else 61) := by
  unfold gangwayref06_Check.f
  by_cases hok : iok tos id off ttl proto body.size = true
  · obtain ⟨a, b, c, d, e, f⟩ := iok_iff.1 hok
    rw [if_pos hok, if_pos (by omega), if_pos (by omega), if_pos (by omega), if_pos (by omega), if_pos (by omega), if_neg (by omega)]
  · rw [if_neg hok]
    have hn : ¬ ((0 ≤ tos ∧ tos < 256) ∧ (0 ≤ ttl ∧ ttl < 256) ∧ (0 ≤ proto ∧ proto < 256) ∧ (0 ≤ id ∧ id < 65536) ∧ (0 ≤ off ∧ off < 8192) ∧ body.size ≤ 65515) := fun h => hok (iok_iff.2 h)
    by_cases h1 : tos / 256 = 0
    · rw [if_pos h1]
      by_cases h2 : ttl / 256 = 0
      · rw [if_pos h2]
        by_cases h3 : proto / 256 = 0
        · rw [if_pos h3]
          by_cases h4 : id / 65536 = 0
          · rw [if_pos h4]
            by_cases h5 : off / 8192 = 0
            · rw [if_pos h5, if_pos (by omega)]
            · rw [if_neg h5]
          · rw [if_neg h4]
        · rw [if_neg h3]
      · rw [if_neg h2]
    · rw [if_neg h1]
theorem u64n {n : Nat} (h : n ≤ 18446744073709551615) : IntKind.u64.wrap ((n : Nat) : Int) = ((n : Nat) : Int) := u64w (by omega) (by omega)
theorem be_one {n : Nat} (h : n < 256) : be 1 n = [n] := by
  simp only [be, List.nil_append]
  rw [Nat.mod_eq_of_lt h]
theorem rhead_j1 {tos id off ttl proto : Nat} {body : ByteArray} (hok : iok (tos : Int) (id : Int) (off : Int) (ttl : Int) (proto : Int) body.size = true) {fl sum src dst : Nat} (hfl : fl < 65536) (hsum : sum < 65536) (hs : src < 4294967296) (hd : dst < 4294967296) (w m : Bool) :
    Ev (fun k => gangwayref06_Head.j1 k (sum : Int) (fl : Int) (tos : Int) (id : Int) w m (off : Int) (ttl : Int) (proto : Int) (src : Int) (dst : Int) body) (bs (ihead tos (20 + body.size) id fl ttl proto sum src dst)) := by
  obtain ⟨⟨a0, a1⟩, ⟨b0, b1⟩, ⟨c0, c1⟩, ⟨d0, d1⟩, ⟨o0, o1⟩, hn⟩ := iok_iff.1 hok
  have zb : ∀ n v : Nat, (bs (be n v)).size = n := fun n v => by rw [bs_size, be_len]
  have z69 : (⟨#[69]⟩ : ByteArray).size = 1 := rfl
  refine ev_succ ?_
  simp only [gangwayref06_Head.j1]
  have l1 : tos ≤ 18446744073709551615 := by omega
  have l2 : (20 + body.size) ≤ 18446744073709551615 := by omega
  have l3 : id ≤ 18446744073709551615 := by omega
  have l4 : fl ≤ 18446744073709551615 := by omega
  have l5 : ttl ≤ 18446744073709551615 := by omega
  have l6 : proto ≤ 18446744073709551615 := by omega
  have l7 : sum ≤ 18446744073709551615 := by omega
  have l8 : src ≤ 18446744073709551615 := by omega
  have l9 : dst ≤ 18446744073709551615 := by omega
  have hlen : wrap64 (20 + (body.size : Int)) = ((20 + body.size : Nat) : Int) := (w64 (by omega) (by omega)).trans (by omega)
  have v1 := u64n l1
  have v2 := u64n l2
  have v3 := u64n l3
  have v4 := u64n l4
  have v5 := u64n l5
  have v6 := u64n l6
  have v7 := u64n l7
  have v8 := u64n l8
  have v9 := u64n l9
  simp only [hlen, v1, v2, v3, v4, v5, v6, v7, v8, v9]
  clear v1 v2 v3 v4 v5 v6 v7 v8 v9 hlen l1 l2 l3 l4 l5 l6 l7 l8 l9
  refine Ev.bind (bytes_ev (n := 1) (by decide) (by omega)) (ev_pos (by rw [zb]; decide) ?_)
  refine Ev.bind (bytes_ev (n := 2) (by decide) (by omega)) (ev_pos (by simp only [ByteArray.size_append, z69, zb]; decide) ?_)
  refine Ev.bind (bytes_ev (n := 2) (by decide) (by omega)) (ev_pos (by simp only [ByteArray.size_append, z69, zb]; decide) ?_)
  refine Ev.bind (bytes_ev (n := 2) (by decide) (by omega)) (ev_pos (by simp only [ByteArray.size_append, z69, zb]; decide) ?_)
  refine Ev.bind (bytes_ev (n := 1) (by decide) (by omega)) (ev_pos (by simp only [ByteArray.size_append, z69, zb]; decide) ?_)
  refine Ev.bind (bytes_ev (n := 1) (by decide) (by omega)) (ev_pos (by simp only [ByteArray.size_append, z69, zb]; decide) ?_)
  refine Ev.bind (bytes_ev (n := 2) (by decide) (by omega)) (ev_pos (by simp only [ByteArray.size_append, z69, zb]; decide) ?_)
  refine Ev.bind (bytes_ev (n := 4) (by decide) (by omega)) (ev_pos (by simp only [ByteArray.size_append, z69, zb]; decide) ?_)
  refine Ev.bind (bytes_ev (n := 4) (by decide) (by omega)) (ev_pos (by simp only [ByteArray.size_append, z69, zb]; decide) (ev_now ?_))
  apply nb_inj
  rw [nb_bs (ihead_byt _ _ _ _ _ _ (by omega) (by omega) (by omega))]
  simp only [nb_append, nb_bs (be_byt _ _)]
  rw [be_one (show tos < 256 by omega), be_one (show ttl < 256 by omega), be_one (show proto < 256 by omega)]
  unfold ihead ifront iends
  simp only [List.append_assoc]
  rfl
theorem rhead_ev {tos id off ttl proto : Nat} {body : ByteArray} (hok : iok (tos : Int) (id : Int) (off : Int) (ttl : Int) (proto : Int) body.size = true) {sum src dst : Nat} (hsum : sum < 65536) (hs : src < 4294967296) (hd : dst < 4294967296) (w m : Bool) :
    Ev (fun k => gangwayref06_Head.f k (tos : Int) (id : Int) w m (off : Int) (ttl : Int) (proto : Int) (src : Int) (dst : Int) body (sum : Int)) (bs (ihead tos (20 + body.size) id (iflags off w m) ttl proto sum src dst)) := by
  obtain ⟨_, _, _, _, ⟨o0, o1⟩, _⟩ := iok_iff.1 hok
  have hj : ∀ fl : Nat, fl < 8192 + 16384 → Ev (fun k => gangwayref06_Head.j0 k (sum : Int) (fl : Int) (tos : Int) (id : Int) w m (off : Int) (ttl : Int) (proto : Int) (src : Int) (dst : Int) body) (bs (ihead tos (20 + body.size) id (fl + if m = true then 8192 else 0) ttl proto sum src dst)) := by
    intro fl hfl
    have hz : fl + 8192 < 65536 := by omega
    have hz0 : fl < 65536 := by omega
    have e : wrap64 ((fl : Int) + 8192) = ((fl + 8192 : Nat) : Int) := (w64 (by omega) (by omega)).trans (by omega)
    refine ev_succ ?_
    simp only [gangwayref06_Head.j0]
    by_cases hm : m = true
    · rw [if_pos hm]
      refine ev_pos hm ?_
      rw [e]
      exact rhead_j1 hok hz hsum hs hd w m
    · rw [if_neg hm]
      exact ev_neg hm (rhead_j1 hok hz0 hsum hs hd w m)
  have hf : iflags off w m = (off + if w = true then 16384 else 0) + if m = true then 8192 else 0 := rfl
  rw [hf]
  unfold gangwayref06_Head.f
  have hz : off + 16384 < 8192 + 16384 := by omega
  have hz0 : off < 8192 + 16384 := by omega
  have e : wrap64 ((off : Int) + 16384) = ((off + 16384 : Nat) : Int) := (w64 (by omega) (by omega)).trans (by omega)
  by_cases hw : w = true
  · have h2 : (if w = true then 16384 else 0 : Nat) = 16384 := if_pos hw
    rw [h2]
    refine ev_pos hw ?_
    rw [e]
    exact hj (off + 16384) hz
  · have h2 : (if w = true then 16384 else 0 : Nat) = 0 := if_neg hw
    rw [h2, Nat.add_zero]
    refine ev_neg hw ?_
    exact hj off hz0
theorem ribuild_ev {src dst : Nat} (hs : src < 4294967296) (hd : dst < 4294967296) (tos id : Int) (whole more : Bool) (off ttl proto : Int) (body : ByteArray) :
    Ev (fun k => gangwayref06_Build.f k tos id whole more off ttl proto (src : Int) (dst : Int) body) (ibuild tos id whole more off ttl proto src dst body) := by
  unfold gangwayref06_Build.f ibuild
  rw [richeck_eq]
  by_cases hok : iok tos id off ttl proto body.size = true
  · rw [if_pos hok, if_pos hok]
    have hok' := hok
    obtain ⟨⟨a0, a1⟩, ⟨b0, b1⟩, ⟨c0, c1⟩, ⟨d0, d1⟩, ⟨o0, o1⟩, hn⟩ := iok_iff.1 hok
    obtain ⟨tos, rfl⟩ := Int.eq_ofNat_of_zero_le a0
    obtain ⟨ttl, rfl⟩ := Int.eq_ofNat_of_zero_le b0
    obtain ⟨proto, rfl⟩ := Int.eq_ofNat_of_zero_le c0
    obtain ⟨id, rfl⟩ := Int.eq_ofNat_of_zero_le d0
    obtain ⟨off, rfl⟩ := Int.eq_ofNat_of_zero_le o0
    have hb := nb_len body
    refine ev_some (ev_pos rfl ?_)
    have h0 := rhead_ev hok (sum := 0) (by decide) hs hd whole more
    refine Ev.bind h0 ?_
    have hof := of_ref_ev (s := bs (ihead tos (20 + body.size) id (iflags off whole more) ttl proto 0 src dst)) (by rw [bs_size, ihead_len]; decide)
    rw [nb_bs (ihead_byt _ _ _ _ _ _ (by omega) (by omega) (by omega))] at hof
    have hsum : csumN (ihead tos (20 + body.size) id (iflags off whole more) ttl proto 0 src dst) = isum tos (20 + body.size) id (iflags off whole more) ttl proto src dst := rfl
    rw [hsum] at hof
    have hlt := isum_lt tos (20 + body.size) id (iflags off whole more) ttl proto src dst
    refine Ev.bind hof (Ev.bind (rhead_ev hok hlt hs hd whole more) (ev_pos (by rw [bs_size, ihead_len]; omega) (ev_now ?_)))
    unfold ibytes itold
    simp only [Int.toNat_natCast]
    rw [hb, bs_append, bs_nb]
  · rw [if_neg hok, if_neg hok]
    exact ev_some (ev_neg (by decide) (ev_now rfl))
theorem one_at {l : List Nat} {i : Nat} (h : i < l.length) : numAt l i 1 = l.getD i 0 := by
  unfold numAt
  rw [i_getD_at h]
  simp [num]
end Go.Proofs.YtbkgaplldfilnaaDoor.P
namespace Go.Proofs.YtbkgaplldfilnaaDoor.P
open Go Go.RowKit Go.Proofs.YtbkgaplldfilnaaDoorW.PrintWords Go.Proofs.YtbkgaplldfilnaaDoorW.PrintLast Go.Proofs.YtbkgaplldfilnaaDoorW.PrintMore Go.Proofs.YtbkgaplldfilnaaDoor.L

theorem checkR_eq (src dst : Int) (nosum : Bool) (body : ByteArray) : gangwayref07_Check.f src dst nosum body = some (if uok src dst body = true then 0 else 71) := by
  unfold gangwayref07_Check.f uok
  by_cases h1 : 0 ≤ src ∧ src < 65536
  · rw [if_pos (by omega)]
    by_cases h2 : 0 ≤ dst ∧ dst < 65536
    · rw [if_pos (by omega)]
      by_cases h3 : body.size ≤ 65507
      · rw [if_neg (by omega)]
        simp [h1, h2, h3]
      · rw [if_pos (by omega)]
        simp [h1, h2, h3]
    · rw [if_neg (by omega)]
      by_cases h3 : 0 ≤ dst <;> by_cases h4 : dst < 65536 <;> simp [h3, h4]
      omega
  · rw [if_neg (by omega)]
    by_cases h3 : 0 ≤ src <;> by_cases h4 : src < 65536 <;> simp [h3, h4]
    omega
theorem buildR_ev {a b : Nat} (ha : a < 4294967296) (hb : b < 4294967296) (src dst : Int) (nosum : Bool) (body : ByteArray) :
    Ev (fun k => gangwayref07_Build.f k (a : Int) (b : Int) src dst nosum body) (ubuild a b src dst nosum body) := by
  unfold gangwayref07_Build.f ubuild
  rw [checkR_eq]
  by_cases hok : uok src dst body = true
  · rw [if_pos hok, if_pos hok]
    refine ev_some (ev_pos rfl ?_)
    obtain ⟨⟨h1, h2⟩, ⟨h3, h4⟩, h5⟩ := uok_iff.1 hok
    obtain ⟨s, rfl⟩ := Int.eq_ofNat_of_zero_le h1
    obtain ⟨d, rfl⟩ := Int.eq_ofNat_of_zero_le h3
    have hl := nb_len body
    have hn : wrap64 ((body.size : Int) + 8) = ((body.size + 8 : Nat) : Int) := by
      rw [w64 (by omega) (by omega)]
      omega
    rw [hn, u64w (x := (s : Int)) (by omega) (by omega), u64w (x := (d : Int)) (by omega) (by omega), u64w (x := ((body.size + 8 : Nat) : Int)) (by omega) (by omega)]
    have z3 : (bs (be 2 s) ++ bs (be 2 d) ++ bs (be 2 (body.size + 8))).size = 6 := by simp [ByteArray.size_append, bs_size, be_len]
    have hz2 : (⟨#[0, 0]⟩ : ByteArray).size = 2 := rfl
    have fin : ∀ x : Nat, Ev (fun _ : Nat => if (bs (be 2 s) ++ bs (be 2 d) ++ bs (be 2 (body.size + 8))).size + (bs (be 2 x)).size ≤ 9223372036854775807 then (if (bs (be 2 s) ++ bs (be 2 d) ++ bs (be 2 (body.size + 8)) ++ bs (be 2 x)).size + body.size ≤ 9223372036854775807 then some (bs (be 2 s) ++ bs (be 2 d) ++ bs (be 2 (body.size + 8)) ++ bs (be 2 x) ++ body, (0 : Int)) else none) else none) (bs (uhead s d (body.size + 8) ++ (be 2 x ++ nb body)), 0) := by
      intro x
      refine ev_pos (by rw [z3, bs_size, be_len]; decide) (ev_pos (by rw [ByteArray.size_append, z3, bs_size, be_len]; omega) (ev_now ?_))
      rw [ubs_eq]
    refine Ev.bind (bytes_ev (n := 2) (by decide) (by omega)) (Ev.bind (bytes_ev (n := 2) (by decide) (by omega)) (ev_pos (by simp [bs_size, be_len]) ?_))
    refine Ev.bind (bytes_ev (n := 2) (by decide) (by omega)) (ev_pos (by simp [ByteArray.size_append, bs_size, be_len]) ?_)
    refine Ev.bind (headR_ev ha hb 17 _) ?_
    have zh : (bs (headL a b 17 ((body.size + 8 : Nat) : Int))).size = 12 := by rw [bs_size, headL_len]
    refine ev_pos (by rw [zh, z3]; decide) (ev_pos (by rw [ByteArray.size_append, zh, z3]; decide) (ev_pos (by rw [ByteArray.size_append, ByteArray.size_append, zh, z3, hz2]; omega) ?_))
    have zall : (bs (headL a b 17 ((body.size + 8 : Nat) : Int)) ++ (bs (be 2 s) ++ bs (be 2 d) ++ bs (be 2 (body.size + 8))) ++ (⟨#[0, 0]⟩ : ByteArray) ++ body).size = body.size + 20 := by
      rw [ByteArray.size_append, ByteArray.size_append, ByteArray.size_append, zh, z3, hz2]
      omega
    refine Ev.bind (of_ref_ev (by omega)) ?_
    have en : nb (bs (headL a b 17 ((body.size + 8 : Nat) : Int)) ++ (bs (be 2 s) ++ bs (be 2 d) ++ bs (be 2 (body.size + 8))) ++ (⟨#[0, 0]⟩ : ByteArray) ++ body) = headL a b 17 (((nb body).length + 8 : Nat) : Int) ++ (uhead s d ((nb body).length + 8) ++ ([0, 0] ++ nb body)) := by
      simp only [nb_append, nb_bs (headL_byt _ _ _ _), nb_bs (be_byt _ _), hl, List.append_assoc, uhead]
      rfl
    have ec : csumN (nb (bs (headL a b 17 ((body.size + 8 : Nat) : Int)) ++ (bs (be 2 s) ++ bs (be 2 d) ++ bs (be 2 (body.size + 8))) ++ (⟨#[0, 0]⟩ : ByteArray) ++ body)) = csumN (headL a b 17 (((nb body).length + 8 : Nat) : Int) ++ (uhead s d ((nb body).length + 8) ++ nb body)) := by
      unfold csumN
      rw [en, wsum_append _ (by rw [headL_len]), wsum_append _ (by rw [uhead_len]), wsum_append (l := [0, 0]) _ (by rfl), wsum_append _ (by rw [headL_len]), wsum_append _ (by rw [uhead_len])]
      simp [wsum]
    rw [ec]
    have hc := csumN_le (headL a b 17 (((nb body).length + 8 : Nat) : Int) ++ (uhead s d ((nb body).length + 8) ++ nb body))
    simp only [Int.toNat_natCast]
    unfold ubytes usum
    generalize csumN (headL a b 17 (((nb body).length + 8 : Nat) : Int) ++ (uhead s d ((nb body).length + 8) ++ nb body)) = c at *
    rw [hl]
    by_cases h0 : c = 0
    · refine ev_pos (by omega) ?_
      rw [if_pos h0]
      cases nosum with
      | true => exact ev_pos rfl (Ev.bind (bytes_ev (v := 0) (n := 2) (by decide) (by omega)) (fin 0))
      | false => exact ev_neg (by decide) (Ev.bind (bytes_ev (v := 65535) (n := 2) (by decide) (by omega)) (fin 65535))
    · refine ev_neg (by omega) ?_
      rw [if_neg h0]
      cases nosum with
      | true => exact ev_pos rfl (Ev.bind (bytes_ev (v := 0) (n := 2) (by decide) (by omega)) (fin 0))
      | false =>
        refine ev_neg (by decide) ?_
        rw [u64w (by omega) (by omega)]
        exact Ev.bind (bytes_ev (n := 2) (by decide) (by omega)) (fin c)
  · rw [if_neg hok, if_neg hok]
    exact ev_some (ev_neg (by decide) (ev_now rfl))
end Go.Proofs.YtbkgaplldfilnaaDoor.P
namespace Go.Proofs.YtbkgaplldfilnaaDoor.P
open Go Go.RowKit Go.Proofs.YtbkgaplldfilnaaDoorW.PrintWords Go.Proofs.YtbkgaplldfilnaaDoorW.PrintLast Go.Proofs.YtbkgaplldfilnaaDoorW.PrintMore Go.Proofs.YtbkgaplldfilnaaDoor.L

end Go.Proofs.YtbkgaplldfilnaaDoor.P
namespace Go.Proofs.YtbkgaplldfilnaaDoor.P
set_option linter.unusedSimpArgs false
set_option linter.unusedVariables false
open Go Go.RowKit Go.Proofs.YtbkgaplldfilnaaDoorW.PrintWords Go.Proofs.YtbkgaplldfilnaaDoorW.PrintLast Go.Proofs.YtbkgaplldfilnaaDoorW.PrintMore Go.Proofs.YtbkgaplldfilnaaDoor.L

/-- An address' message in bytes, or none. -/
def rof (s : ByteArray) : Int × Int × Int × Int × Int × Bool :=
  if (aparse s).2.2.2.2.2 = 0 then ((aparse s).1, (aparse s).2.1, (aparse s).2.2.1, (aparse s).2.2.2.1, (aparse s).2.2.2.2.1, true) else (0, 0, 0, 0, 0, false)
theorem rof_pos {s : ByteArray} (h : (aparse s).2.2.2.2.2 = 0) : rof s = ((aparse s).1, (aparse s).2.1, (aparse s).2.2.1, (aparse s).2.2.2.1, (aparse s).2.2.2.2.1, true) := if_pos h
theorem rof_neg {s : ByteArray} (h : ¬ (aparse s).2.2.2.2.2 = 0) : rof s = (0, 0, 0, 0, 0, false) := if_neg h
theorem rmake_ev {a b : Nat} (ha : a < 4294967296) (hb : b < 4294967296) (src dst : Int) (nosum : Bool) (body : ByteArray) (id most : Int) :
    Ev (fun k => gangwayref20_Make.f k (a : Int) (b : Int) src dst nosum body id most) (smake a b src dst nosum body id most) := by
  unfold gangwayref20_Make.f smake
  simp only [mask16]
  refine Ev.bind (buildR_ev ha hb src dst nosum body) ?_
  unfold ubuild
  by_cases hok : uok src dst body = true
  · rw [if_pos hok, if_pos hok]
    have hb5 := (uok_iff.1 hok).2.2
    refine ev_pos rfl ?_
    have hu : (bs (ubytes a b src.toNat dst.toNat nosum (nb body))).size = body.size + 8 := udg_size a b src dst nosum body
    have hw : wrap64 (20 + (((bs (ubytes a b src.toNat dst.toNat nosum (nb body)), (0 : Int)).1.size : Nat) : Int)) = 28 + (body.size : Int) := by
      show wrap64 (20 + (((bs (ubytes a b src.toNat dst.toNat nosum (nb body))).size : Nat) : Int)) = _
      rw [hu, w64 (by omega) (by omega)]
      omega
    rw [hw]
    by_cases hm : most < 28 + (body.size : Int)
    · rw [if_pos hm]
      exact ev_pos hm (ev_now rfl)
    · rw [if_neg hm]
      refine ev_neg hm (Ev.bind (ribuild_ev ha hb 0 (id % 65536) true false 0 64 17 (bs (udg a b src dst nosum body))) ?_)
      unfold ibuild
      rw [if_pos (sok hok a b nosum id), udg_nb]
      exact ev_pos rfl (ev_now rfl)
  · rw [if_neg hok, if_neg hok]
    exact ev_neg (by decide) (ev_now rfl)
end Go.Proofs.YtbkgaplldfilnaaDoor.P
