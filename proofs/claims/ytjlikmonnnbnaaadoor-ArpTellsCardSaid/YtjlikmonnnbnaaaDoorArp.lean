/- What the printed functions of arp compute. -/
import Derived.Test.YtjlikmonnnbnaaaDoorPx4
import Derived.Test.YtjlikmonnnbnaaaDoorPx5
import Derived.Test.YtjlikmonnnbnaaaDoorPx6
import Derived.Test.YtjlikmonnnbnaaaDoorPx7
import Derived.Test.YtjlikmonnnbnaaaDoorPx11
import Derived.Test.YtjlikmonnnbnaaaDoorPx12
import Derived.Test.YtjlikmonnnbnaaaDoorPx14
import Derived.Test.YtjlikmonnnbnaaaDoorPx15
import Derived.Test.YtjlikmonnnbnaaaDoorPx16
import Derived.Test.YtjlikmonnnbnaaaDoorPut
import Derived.Test.YtjlikmonnnbnaaaDoorGet
namespace Go.Proofs.YtjlikmonnnbnaaaDoor.P
open Go Go.RowKit Go.Proofs.YtjlikmonnnbnaaaDoorW.PrintWords Go.Proofs.YtjlikmonnnbnaaaDoorW.PrintLast Go.Proofs.YtjlikmonnnbnaaaDoorW.PrintMore Go.Proofs.YtjlikmonnnbnaaaDoor.L

theorem band40 (m : Nat) (h : m < 18446744073709551616) : Go.bits .and .u64 (m : Int) 1099511627776 = ((m / 1099511627776 % 2 * 1099511627776 : Nat) : Int) := by
  have e0 : Go.bits .and .u64 (m : Int) 1099511627776 = IntKind.u64.wrap ((BitVec.ofInt 64 (m : Int) &&& BitVec.ofInt 64 1099511627776).toNat : Int) := rfl
  rw [e0, BitVec.toNat_and]
  have e1 : (BitVec.ofInt 64 (m : Int)).toNat = m := by
    rw [BitVec.ofInt_natCast, BitVec.toNat_ofNat]
    exact Nat.mod_eq_of_lt (by omega)
  have e2 : (BitVec.ofInt 64 (1099511627776 : Int)).toNat = 2 ^ 40 := by decide
  have e3 : (2 : Nat) ^ 40 = 1099511627776 := by decide
  have e4 : m &&& 2 ^ 40 = m / 1099511627776 % 2 * 1099511627776 := by
    apply Nat.eq_of_testBit_eq
    intro i
    rw [Nat.testBit_and, Nat.testBit_two_pow]
    by_cases hi : 40 = i
    · subst hi
      rw [decide_eq_true rfl, Bool.and_true, Nat.testBit_eq_decide_div_mod_eq, Nat.testBit_eq_decide_div_mod_eq, e3]
      rw [Nat.mul_div_cancel _ (by decide), Nat.mod_mod]
    · rw [decide_eq_false hi, Bool.and_false]
      have h2 : m / 1099511627776 % 2 = 0 ∨ m / 1099511627776 % 2 = 1 := by omega
      rcases h2 with h2 | h2
      · rw [h2, Nat.zero_mul, Nat.zero_testBit]
      · rw [h2, Nat.one_mul, ← e3, Nat.testBit_two_pow, decide_eq_false hi]
  rw [e1, e2, e4]
  exact u64w (by omega) (by omega)
/-- Is a MAC address many's? -/
def grpN (m : Nat) : Bool := decide (m / 1099511627776 % 2 = 1)
/-- May a host have it? -/
def ownN (m : Nat) : Bool := decide (0 < m) && decide (m < 281474976710656) && !grpN m
theorem group_eq {m : Nat} (h : m < 18446744073709551616) : addrs_Group.f (m : Int) = some (grpN m) := by
  unfold addrs_Group.f grpN
  rw [band40 m h]
  congr 1
  rw [Bool.eq_iff_iff, bne_iff_ne, decide_eq_true_eq]
  omega
theorem rgroup_eq {m : Nat} (h : m < 18446744073709551616) : gangwayref02_Group.f (m : Int) = some (grpN m) := by
  unfold gangwayref02_Group.f grpN
  rw [Int.tdiv_eq_ediv_of_nonneg (by omega), u64w (by omega) (by omega), Int.tmod_eq_emod_of_nonneg (by omega)]
  congr 1
  rw [Bool.eq_iff_iff, beq_iff_eq, decide_eq_true_eq]
  omega
theorem own_eq {m : Nat} (h : m < 18446744073709551616) : addrs_Own.f (m : Int) = some (ownN m) := by
  unfold addrs_Own.f ownN
  by_cases h0 : m = 0
  · subst h0
    rfl
  · rw [if_neg (by omega), decide_eq_true (show 0 < m by omega)]
    by_cases h1 : m < 281474976710656
    · rw [if_pos (by omega), group_eq h, decide_eq_true h1]
      rfl
    · rw [if_neg (by omega), decide_eq_false h1]
      rfl
theorem rown_eq {m : Nat} (h : m < 18446744073709551616) : gangwayref02_Own.f (m : Int) = some (ownN m) := by
  unfold gangwayref02_Own.f ownN
  by_cases h0 : m = 0
  · subst h0
    rfl
  · rw [if_pos (by omega), decide_eq_true (show 0 < m by omega)]
    by_cases h1 : m < 281474976710656
    · rw [if_pos (by omega), rgroup_eq h, decide_eq_true h1]
      rfl
    · rw [if_neg (by omega), decide_eq_false h1]
      rfl
theorem ownN_lt {m : Nat} (h : ownN m = true) : 0 < m ∧ m < 281474976710656 := by
  unfold ownN at h
  simp at h
  exact h.1
/-- May a message be? -/
def aok (op : Int) (sm tm : Nat) : Bool := (decide (op = 1) || decide (op = 2)) && ownN sm && decide (tm < 281474976710656)
theorem aok_iff {op : Int} {sm tm : Nat} : aok op sm tm = true ↔ (op = 1 ∨ op = 2) ∧ ownN sm = true ∧ tm < 281474976710656 := by
  unfold aok
  simp [and_assoc]
theorem acheck_eq {op : Int} {sm tm : Nat} (si ti : Int) (h1 : sm < 18446744073709551616) : arp_Check.f op (sm : Int) si (tm : Int) ti = some (if aok op sm tm = true then 0 else 51) := by
  unfold arp_Check.f
  rw [own_eq h1]
  unfold aok
  by_cases e1 : op = 1 <;> by_cases e2 : op = 2 <;> by_cases e3 : ownN sm = true <;> by_cases e4 : tm < 281474976710656 <;> simp [e1, e2, e3, e4] <;> omega
/-- A message's bytes. -/
def abytes (op sm si tm ti : Nat) : List Nat := [0, 1, 8, 0, 6, 4] ++ (be 2 op ++ (be 6 sm ++ (be 4 si ++ (be 6 tm ++ be 4 ti))))
theorem abytes_len (op sm si tm ti : Nat) : (abytes op sm si tm ti).length = 28 := by simp [abytes, be_len]
theorem ahead_byt : Byt [0, 1, 8, 0, 6, 4] := by
  intro x hx
  simp at hx
  omega
theorem abytes_byt (op sm si tm ti : Nat) : Byt (abytes op sm si tm ti) := ahead_byt.append ((be_byt _ _).append ((be_byt _ _).append ((be_byt _ _).append ((be_byt _ _).append (be_byt _ _)))))
theorem nb_list (l : List UInt8) : nb (⟨l.toArray⟩ : ByteArray) = l.map UInt8.toNat := rfl
theorem bs_list (l : List Nat) (h : Byt l) : (bs l).data.toList.map UInt8.toNat = l := nb_bs h
theorem size_six : (⟨#[0, 1, 8, 0, 6, 4]⟩ : ByteArray).size = 6 := rfl
theorem nb_six : nb (⟨#[0, 1, 8, 0, 6, 4]⟩ : ByteArray) = [0, 1, 8, 0, 6, 4] := rfl
theorem data_len (l : List Nat) : (bs l).data.toList.length = l.length := by
  rw [Array.length_toList]
  exact bs_size l
theorem alaid_ev {op sm si tm ti : Nat} (h0 : op < 65536) (h1 : sm < 18446744073709551616) (h2 : si < 4294967296) (h3 : tm < 18446744073709551616) (h4 : ti < 4294967296) :
    Ev (fun k => arp_laid.f k (op : Int) (sm : Int) (si : Int) (tm : Int) (ti : Int)) (bs (abytes op (sm % 281474976710656) si (tm % 281474976710656) ti)) := by
  have m1 : (sm : Int).tmod 281474976710656 = ((sm % 281474976710656 : Nat) : Int) := by
    rw [Int.tmod_eq_emod_of_nonneg (by omega)]
    omega
  have m3 : (tm : Int).tmod 281474976710656 = ((tm % 281474976710656 : Nat) : Int) := by
    rw [Int.tmod_eq_emod_of_nonneg (by omega)]
    omega
  have z1 : sm % 281474976710656 < 256 ^ 6 := by
    have : (256 : Nat) ^ 6 = 281474976710656 := by decide
    omega
  have z3 : tm % 281474976710656 < 256 ^ 6 := by
    have : (256 : Nat) ^ 6 = 281474976710656 := by decide
    omega
  have z2 : si < 256 ^ 4 := by
    have : (256 : Nat) ^ 4 = 4294967296 := by decide
    omega
  have z4 : ti < 256 ^ 4 := by
    have : (256 : Nat) ^ 4 = 4294967296 := by decide
    omega
  unfold arp_laid.f
  simp only [joinedF]
  rw [m1, m3, u64w (x := (op : Int)) (by omega) (by omega), u64w (x := (si : Int)) (by omega) (by omega), u64w (x := (ti : Int)) (by omega) (by omega)]
  generalize sm % 281474976710656 = sm at *
  generalize tm % 281474976710656 = tm at *
  have key : Ev (fun k => ((octets_Put.f k (op : Int) 2).bind fun p => if ([] : List UInt8).length + p.1.size ≤ 140737488355328 then (octets_Put.f k (sm : Int) 6).bind fun p2 => if ([] ++ p.1.data.toList).length + p2.1.size ≤ 140737488355328 then (octets_Put.f k (si : Int) 4).bind fun p3 => if ([] ++ p.1.data.toList ++ p2.1.data.toList).length + p3.1.size ≤ 140737488355328 then (octets_Put.f k (tm : Int) 6).bind fun p4 => if ([] ++ p.1.data.toList ++ p2.1.data.toList ++ p3.1.data.toList).length + p4.1.size ≤ 140737488355328 then (octets_Put.f k (ti : Int) 4).bind fun p5 => if ([] ++ p.1.data.toList ++ p2.1.data.toList ++ p3.1.data.toList ++ p4.1.data.toList).length + p5.1.size ≤ 140737488355328 then some ([] ++ p.1.data.toList ++ p2.1.data.toList ++ p3.1.data.toList ++ p4.1.data.toList ++ p5.1.data.toList) else none else none else none else none else none))
      ([] ++ (bs (be 2 op)).data.toList ++ (bs (be 6 sm)).data.toList ++ (bs (be 4 si)).data.toList ++ (bs (be 6 tm)).data.toList ++ (bs (be 4 ti)).data.toList) := by
    refine Ev.bind (put_ev (n := 2) (by decide) (by decide) (by omega)) (ev_pos (by simp [bs_size, be_len]) ?_)
    refine Ev.bind (put_ev (n := 6) (by decide) (by decide) z1) (ev_pos (by simp only [List.length_append, data_len, bs_size, be_len, List.length_nil]; omega) ?_)
    refine Ev.bind (put_ev (n := 4) (by decide) (by decide) z2) (ev_pos (by simp only [List.length_append, data_len, bs_size, be_len, List.length_nil]; omega) ?_)
    refine Ev.bind (put_ev (n := 6) (by decide) (by decide) z3) (ev_pos (by simp only [List.length_append, data_len, bs_size, be_len, List.length_nil]; omega) ?_)
    exact Ev.bind (put_ev (n := 4) (by decide) (by decide) z4) (ev_pos (by simp only [List.length_append, data_len, bs_size, be_len, List.length_nil]; omega) (ev_now rfl))
  refine Ev.bind key (ev_pos (by simp only [List.length_append, data_len, be_len, List.length_nil]; omega) (ev_now ?_))
  apply nb_inj
  rw [nb_append, nb_six, nb_list, nb_bs (abytes_byt _ _ _ _ _)]
  simp only [List.map_append, bs_list _ (be_byt _ _), List.nil_append, abytes, List.append_assoc]
/-- What Build answers. -/
def abuild (op : Int) (sm si tm ti : Nat) : ByteArray × Int := if aok op sm tm = true then (bs (abytes op.toNat sm si tm ti), 0) else ((⟨#[]⟩ : ByteArray), 51)
theorem aok_nat {op : Int} {sm tm : Nat} (h : aok op sm tm = true) : ∃ n : Nat, op = (n : Int) ∧ n < 65536 ∧ sm < 281474976710656 ∧ tm < 281474976710656 := by
  obtain ⟨h1, h2, h3⟩ := aok_iff.1 h
  exact ⟨op.toNat, by omega, by omega, (ownN_lt h2).2, h3⟩
theorem abuild_ev {op : Int} {sm si tm ti : Nat} (h1 : sm < 18446744073709551616) (h2 : si < 4294967296) (h4 : ti < 4294967296) :
    Ev (fun k => arp_Build.f k op (sm : Int) (si : Int) (tm : Int) (ti : Int)) (abuild op sm si tm ti) := by
  unfold arp_Build.f abuild
  rw [acheck_eq _ _ h1]
  by_cases hok : aok op sm tm = true
  · obtain ⟨n, rfl, hn, hs, ht⟩ := aok_nat hok
    rw [if_pos hok, if_pos hok]
    refine ev_some (ev_pos rfl ?_)
    have := alaid_ev (op := n) (sm := sm) (si := si) (tm := tm) (ti := ti) hn h1 h2 (by omega) h4
    rw [Nat.mod_eq_of_lt hs, Nat.mod_eq_of_lt ht] at this
    exact Ev.bind this (ev_now rfl)
  · rw [if_neg hok, if_neg hok]
    exact ev_some (ev_neg (by decide) (ev_now rfl))
/-- Do bytes begin as a message has to? -/
def ahas (s : ByteArray) : Bool := decide ((nb s).take 6 = [0, 1, 8, 0, 6, 4])
theorem toList_nb (s : ByteArray) : s.toList.map UInt8.toNat = nb s := by
  rw [ByteArray.toList_eq]
  rfl
theorem list_six (s : ByteArray) : s.toList = ([0, 1, 8, 0, 6, 4] : List UInt8) ↔ nb s = [0, 1, 8, 0, 6, 4] := by
  constructor
  · intro h
    rw [← toList_nb, h]
    rfl
  · intro h
    have : s = (⟨#[0, 1, 8, 0, 6, 4]⟩ : ByteArray) := nb_inj (by rw [h]; rfl)
    rw [this]
    decide +kernel
theorem cut_six {s : ByteArray} : (s.extract 0 6).toList = ([0, 1, 8, 0, 6, 4] : List UInt8) ↔ ahas s = true := by
  rw [list_six, nb_extract, List.drop_zero]
  unfold ahas
  rw [decide_eq_true_eq]
theorem prefix_eq {s : ByteArray} (h : 28 ≤ s.size) : strings_HasPrefix.f s (⟨#[0, 1, 8, 0, 6, 4]⟩ : ByteArray) = some (ahas s) := by
  unfold strings_HasPrefix.f stringslite_HasPrefix.f
  rw [size_six, if_pos (by omega), if_pos (by omega), if_pos (by omega)]
  show some _ = _
  congr 1
  rw [Bool.eq_iff_iff, beq_iff_eq, ← cut_six]
  have e : (⟨#[0, 1, 8, 0, 6, 4]⟩ : ByteArray).toList = ([0, 1, 8, 0, 6, 4] : List UInt8) := by decide +kernel
  rw [e]
  exact Iff.rfl
/-- What bytes tell. -/
def aparse (s : ByteArray) : Int × Int × Int × Int × Int × Int :=
  if s.size < 28 then (0, 0, 0, 0, 0, 50)
  else if ahas s = true ∧ aok ((numAt (nb s) 6 2 : Nat) : Int) (numAt (nb s) 8 6) (numAt (nb s) 18 6) = true then
    (((numAt (nb s) 6 2 : Nat) : Int), ((numAt (nb s) 8 6 : Nat) : Int), ((numAt (nb s) 14 4 : Nat) : Int), ((numAt (nb s) 18 6 : Nat) : Int), ((numAt (nb s) 24 4 : Nat) : Int), 0)
  else (0, 0, 0, 0, 0, 51)
theorem anums (s : ByteArray) : numAt (nb s) 6 2 < 65536 ∧ numAt (nb s) 8 6 < 281474976710656 ∧ numAt (nb s) 14 4 < 4294967296 ∧ numAt (nb s) 18 6 < 281474976710656 ∧ numAt (nb s) 24 4 < 4294967296 := by
  have hby := nb_byt s
  have h1 := numAt_lt hby 6 2
  have h2 := numAt_lt hby 8 6
  have h3 := numAt_lt hby 14 4
  have h4 := numAt_lt hby 18 6
  have h5 := numAt_lt hby 24 4
  have e2 : (256 : Nat) ^ 2 = 65536 := by decide
  have e4 : (256 : Nat) ^ 4 = 4294967296 := by decide
  have e6 : (256 : Nat) ^ 6 = 281474976710656 := by decide
  rw [e2] at h1
  rw [e6] at h2 h4
  rw [e4] at h3 h5
  exact ⟨h1, h2, h3, h4, h5⟩
theorem aparse_ev {s : ByteArray} (hs : s.size ≤ 1000000) : Ev (fun k => arp_Parse.f k s) (aparse s) := by
  unfold arp_Parse.f aparse
  by_cases h0 : s.size < 28
  · rw [if_pos h0]
    exact ev_pos (by omega) (ev_now rfl)
  · rw [if_neg h0]
    refine ev_neg (by omega) ?_
    obtain ⟨l1, l2, l3, l4, l5⟩ := anums s
    refine Ev.bind (get_ev (s := s) (i := 6) (n := 2) (by decide) (by decide) (by omega) (by omega)) ?_
    refine Ev.bind (get_ev (s := s) (i := 8) (n := 6) (by decide) (by decide) (by omega) (by omega)) ?_
    refine Ev.bind (get_ev (s := s) (i := 14) (n := 4) (by decide) (by decide) (by omega) (by omega)) ?_
    refine Ev.bind (get_ev (s := s) (i := 18) (n := 6) (by decide) (by decide) (by omega) (by omega)) ?_
    refine Ev.bind (get_ev (s := s) (i := 24) (n := 4) (by decide) (by decide) (by omega) (by omega)) ?_
    rw [prefix_eq (by omega)]
    dsimp only
    generalize numAt (nb s) 6 2 = n1 at *
    generalize numAt (nb s) 8 6 = n2 at *
    generalize numAt (nb s) 14 4 = n3 at *
    generalize numAt (nb s) 18 6 = n4 at *
    generalize numAt (nb s) 24 4 = n5 at *
    have e1 : wrap64 (n1 : Int) = (n1 : Int) := w64 (by omega) (by omega)
    have e3 : (n3 : Int) % 4294967296 = (n3 : Int) := by omega
    have e5 : (n5 : Int) % 4294967296 = (n5 : Int) := by omega
    rw [e1, e3, e5, acheck_eq _ _ (by omega)]
    by_cases hh : ahas s = true
    · refine ev_some (ev_pos hh ?_)
      by_cases hok : aok (n1 : Int) n2 n4 = true
      · rw [if_pos hok, if_pos ⟨hh, hok⟩]
        exact ev_some (ev_pos rfl (ev_now rfl))
      · have hc : ¬ (ahas s = true ∧ aok (n1 : Int) n2 n4 = true) := fun h => hok h.2
        rw [if_neg hok, if_neg hc]
        exact ev_some (ev_neg (by decide) (ev_now rfl))
    · have hc : ¬ (ahas s = true ∧ aok (n1 : Int) n2 n4 = true) := fun h => hh h.1
      rw [if_neg hc]
      exact ev_some (ev_neg hh (ev_now rfl))
/-! what is built is parsed as it was -/
theorem a_numAt_be {p : List Nat} (q : List Nat) {n v i : Nat} (hp : p.length = i) (hv : v < 256 ^ n) : numAt (p ++ (be n v ++ q)) i n = v := by
  unfold numAt
  rw [List.drop_append_of_le_length (by rw [hp]; exact Nat.le_refl _), List.drop_of_length_le (by rw [hp]; exact Nat.le_refl _), List.nil_append, List.take_append_of_le_length (by rw [be_len]; exact Nat.le_refl _), List.take_of_length_le (by rw [be_len]; exact Nat.le_refl _), num_be]
  exact Nat.mod_eq_of_lt hv
theorem be_numAt {l : List Nat} (h : Byt l) {i n : Nat} (hl : i + n ≤ l.length) : be n (numAt l i n) = (l.drop i).take n := by
  have e := be_num ((l.drop i).take n) ((h.drop i).take n)
  have hn : ((l.drop i).take n).length = n := by
    rw [List.length_take, List.length_drop]
    omega
  rw [hn] at e
  exact e
theorem abuilt_parse {op sm si tm ti : Nat} (hok : aok (op : Int) sm tm = true) (h2 : si < 4294967296) (h4 : ti < 4294967296) (more : ByteArray) :
    aparse (bs (abytes op sm si tm ti) ++ more) = ((op : Int), (sm : Int), (si : Int), (tm : Int), (ti : Int), 0) := by
  obtain ⟨n, hn, h0, h1, h3⟩ := aok_nat hok
  have e0 : op = n := by omega
  subst e0
  have e2 : (256 : Nat) ^ 2 = 65536 := by decide
  have e4 : (256 : Nat) ^ 4 = 4294967296 := by decide
  have e6 : (256 : Nat) ^ 6 = 281474976710656 := by decide
  have hb : nb (bs (abytes op sm si tm ti) ++ more) = abytes op sm si tm ti ++ nb more := by rw [nb_append, nb_bs (abytes_byt _ _ _ _ _)]
  have fl : abytes op sm si tm ti ++ nb more = [0, 1, 8, 0, 6, 4] ++ (be 2 op ++ (be 6 sm ++ (be 4 si ++ (be 6 tm ++ (be 4 ti ++ nb more))))) := by
    unfold abytes
    simp only [List.append_assoc]
  have f1 : numAt (abytes op sm si tm ti ++ nb more) 6 2 = op := by
    rw [fl]
    exact a_numAt_be _ rfl (by omega)
  have f2 : numAt (abytes op sm si tm ti ++ nb more) 8 6 = sm := by
    rw [fl, ← List.append_assoc]
    exact a_numAt_be _ (by simp [be_len]) (by omega)
  have f3 : numAt (abytes op sm si tm ti ++ nb more) 14 4 = si := by
    rw [fl, ← List.append_assoc, ← List.append_assoc]
    exact a_numAt_be _ (by simp [be_len]) (by omega)
  have f4 : numAt (abytes op sm si tm ti ++ nb more) 18 6 = tm := by
    rw [fl, ← List.append_assoc, ← List.append_assoc, ← List.append_assoc]
    exact a_numAt_be _ (by simp [be_len]) (by omega)
  have f5 : numAt (abytes op sm si tm ti ++ nb more) 24 4 = ti := by
    rw [fl, ← List.append_assoc, ← List.append_assoc, ← List.append_assoc, ← List.append_assoc]
    exact a_numAt_be _ (by simp [be_len]) (by omega)
  have hh : ahas (bs (abytes op sm si tm ti) ++ more) = true := by
    unfold ahas
    rw [hb, fl]
    rfl
  unfold aparse
  rw [hb, f1, f2, f3, f4, f5, if_neg (by rw [ByteArray.size_append, bs_size, abytes_len]; omega), if_pos ⟨hh, hok⟩]
theorem aparse_ok {s : ByteArray} (h0 : ¬ s.size < 28) (h : ahas s = true ∧ aok ((numAt (nb s) 6 2 : Nat) : Int) (numAt (nb s) 8 6) (numAt (nb s) 18 6) = true) :
    bs (abytes (numAt (nb s) 6 2) (numAt (nb s) 8 6) (numAt (nb s) 14 4) (numAt (nb s) 18 6) (numAt (nb s) 24 4)) = s.extract 0 28 := by
  have hl := nb_len s
  have hby := nb_byt s
  apply nb_inj
  rw [nb_bs (abytes_byt _ _ _ _ _), nb_extract, List.drop_zero]
  unfold abytes
  rw [be_numAt hby (by omega), be_numAt hby (by omega), be_numAt hby (by omega), be_numAt hby (by omega), be_numAt hby (by omega)]
  have h1 := of_decide_eq_true h.1
  rw [← h1]
  have st : ∀ i j : Nat, (nb s).take i ++ ((nb s).drop i).take j = (nb s).take (i + j) := fun i j => (List.take_add ..).symm
  rw [← List.append_assoc, st, ← List.append_assoc, st, ← List.append_assoc, st, ← List.append_assoc, st, st]
theorem aask_ev {mac ip want : Nat} (h1 : mac < 18446744073709551616) (h2 : ip < 4294967296) (h3 : want < 4294967296) :
    Ev (fun k => arp_Ask.f k (mac : Int) (ip : Int) (want : Int)) ((281474976710655 : Int), (mac : Int), false, (0 : Int), false, (0 : Int), (2054 : Int), bs (abytes 1 (mac % 281474976710656) ip 0 want)) := by
  unfold arp_Ask.f
  exact Ev.bind (alaid_ev (op := 1) (tm := 0) (by decide) h1 h2 (by decide) h3) (ev_now rfl)
theorem aof_ev {s : ByteArray} (hs : s.size ≤ 1000000) (d e : Int) (a : Bool) (b : Int) (c : Bool) (f : Int) :
    Ev (fun k => arp_Of.f k d e a b c f 2054 s) ((aparse s).1, (aparse s).2.1, (aparse s).2.2.1, (aparse s).2.2.2.1, (aparse s).2.2.2.2.1, ((aparse s).2.2.2.2.2 == 0)) := by
  unfold arp_Of.f
  exact ev_pos rfl (Ev.bind (aparse_ev hs) (ev_now rfl))
/-- What Tell answers. -/
def atell (op : Int) (sm si tm ti mac : Nat) : Int × Int × Bool × Int × Bool × Int × Int × ByteArray × Int :=
  if op = 1 ∧ aok op sm tm = true ∧ ownN mac = true then ((sm : Int), (mac : Int), false, 0, false, 0, 2054, bs (abytes 2 mac ti sm si), 0) else (0, 0, false, 0, false, 0, 0, (⟨#[]⟩ : ByteArray), 51)
theorem atell_ev {op : Int} {sm si tm ti mac : Nat} (h1 : sm < 18446744073709551616) (h2 : si < 4294967296) (h4 : ti < 4294967296) (h5 : mac < 18446744073709551616) :
    Ev (fun k => arp_Tell.f k op (sm : Int) (si : Int) (tm : Int) (ti : Int) (mac : Int)) (atell op sm si tm ti mac) := by
  unfold arp_Tell.f atell
  by_cases e0 : op = 1
  · refine ev_pos e0 ?_
    rw [acheck_eq _ _ h1, own_eq h5]
    by_cases e1 : aok op sm tm = true
    · rw [if_pos e1]
      refine ev_some (ev_pos rfl ?_)
      by_cases e2 : ownN mac = true
      · rw [if_pos ⟨e0, e1, e2⟩]
        obtain ⟨_, _, _, hs, _⟩ := aok_nat e1
        have := alaid_ev (op := 2) (sm := mac) (si := ti) (tm := sm) (ti := si) (by decide) h5 h4 h1 h2
        rw [Nat.mod_eq_of_lt (ownN_lt e2).2, Nat.mod_eq_of_lt hs] at this
        exact ev_some (ev_pos e2 (Ev.bind this (ev_now rfl)))
      · rw [if_neg (fun h => e2 h.2.2)]
        exact ev_some (ev_neg e2 (ev_now rfl))
    · rw [if_neg e1, if_neg (fun h => e1 h.2.1)]
      exact ev_some (ev_neg (by decide) (ev_now rfl))
  · rw [if_neg (fun h => e0 h.1)]
    exact ev_neg e0 (ev_now rfl)
theorem append_none (s : ByteArray) : s ++ (⟨#[]⟩ : ByteArray) = s := by
  apply ByteArray.ext
  rw [ByteArray.data_append]
  simp
theorem abuilt_parse0 {op sm si tm ti : Nat} (hok : aok (op : Int) sm tm = true) (h2 : si < 4294967296) (h4 : ti < 4294967296) :
    aparse (bs (abytes op sm si tm ti)) = ((op : Int), (sm : Int), (si : Int), (tm : Int), (ti : Int), 0) := by
  have := abuilt_parse hok h2 h4 (⟨#[]⟩ : ByteArray)
  rw [append_none] at this
  exact this
theorem abs_size (op sm si tm ti : Nat) : (bs (abytes op sm si tm ti)).size = 28 := by rw [bs_size, abytes_len]
theorem arp_fixed_ev : Ev (fun k => gangwaylaw05_fixed.f k) true := by
  unfold gangwaylaw05_fixed.f
  refine Ev.bind (aask_ev (mac := 2) (ip := 167772161) (want := 167772162) (by decide) (by decide) (by decide)) ?_
  have p1 := aof_ev (s := bs (abytes 1 (2 % 281474976710656) 167772161 0 167772162)) (by rw [abs_size]; decide) 281474976710655 ((2 : Nat) : Int) false 0 false 0
  rw [show (2 : Nat) % 281474976710656 = 2 from rfl, abuilt_parse0 (op := 1) (by decide) (by decide) (by decide)] at p1
  refine Ev.bind p1 ?_
  have t1 := atell_ev (op := ((1 : Nat) : Int)) (sm := 2) (si := 167772161) (tm := 0) (ti := 167772162) (mac := 6) (by decide) (by decide) (by decide) (by decide)
  have u1 : atell ((1 : Nat) : Int) 2 167772161 0 167772162 6 = (((2 : Nat) : Int), ((6 : Nat) : Int), false, 0, false, 0, 2054, bs (abytes 2 6 167772162 2 167772161), 0) := by
    unfold atell
    exact if_pos (by decide)
  rw [u1] at t1
  refine Ev.bind t1 ?_
  have p2 := aof_ev (s := bs (abytes 2 6 167772162 2 167772161)) (by rw [abs_size]; decide) ((2 : Nat) : Int) ((6 : Nat) : Int) false 0 false 0
  rw [abuilt_parse0 (op := 2) (by decide) (by decide) (by decide)] at p2
  refine Ev.bind p2 ?_
  have p3 := aparse_ev (s := (⟨#[120]⟩ : ByteArray)) (by decide)
  have u3 : aparse (⟨#[120]⟩ : ByteArray) = (0, 0, 0, 0, 0, 50) := by
    unfold aparse
    exact if_pos (by decide)
  rw [u3] at p3
  refine Ev.bind p3 ?_
  have t2 := atell_ev (op := ((2 : Nat) : Int)) (sm := 6) (si := 167772162) (tm := 2) (ti := 167772161) (mac := 6) (by decide) (by decide) (by decide) (by decide)
  have u2 : atell ((2 : Nat) : Int) 6 167772162 2 167772161 6 = (0, 0, false, 0, false, 0, 0, (⟨#[]⟩ : ByteArray), 51) := by
    unfold atell
    exact if_neg (by decide)
  rw [u2] at t2
  refine Ev.bind t2 ?_
  refine ev_pos rfl (ev_pos rfl (ev_pos (by decide) (ev_pos rfl (ev_pos rfl (ev_pos rfl (ev_pos rfl (ev_pos (by decide) (ev_pos rfl (ev_now rfl)))))))))
end Go.Proofs.YtjlikmonnnbnaaaDoor.P
