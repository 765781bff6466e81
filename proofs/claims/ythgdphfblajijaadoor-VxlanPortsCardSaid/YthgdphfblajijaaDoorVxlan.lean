/- What the printed functions of vxlan, and the reference's, compute. -/
import Derived.Test.YthgdphfblajijaaDoorPx2
import Derived.Test.YthgdphfblajijaaDoorPx3
import Derived.Test.YthgdphfblajijaaDoorPx5
import Derived.Test.YthgdphfblajijaaDoorPx6
import Derived.Test.YthgdphfblajijaaDoorPx7
import Derived.Test.YthgdphfblajijaaDoorPx9
import Derived.Test.YthgdphfblajijaaDoorGet
import Derived.Test.YthgdphfblajijaaDoorPut
namespace Go.Proofs.YthgdphfblajijaaDoor.P
open Go Go.RowKit Go.Proofs.YthgdphfblajijaaDoorW.PrintWords Go.Proofs.YthgdphfblajijaaDoorW.PrintLast Go.Proofs.YthgdphfblajijaaDoorW.PrintMore Go.Proofs.YthgdphfblajijaaDoor.L

theorem and_eight : ∀ b : Nat, b < 256 → (Go.bits .and .u8 (b : Int) 8 = 0 ↔ b / 8 % 2 = 0) := by decide +kernel
theorem xor_u32 {a b : Nat} (ha : a < 4294967296) (hb : b < 4294967296) : Go.bits .xor .u32 (a : Int) (b : Int) = ((a ^^^ b : Nat) : Int) := by
  have e0 : Go.bits .xor .u32 (a : Int) (b : Int) = IntKind.u32.wrap ((BitVec.ofInt 32 (a : Int) ^^^ BitVec.ofInt 32 (b : Int)).toNat : Int) := rfl
  have hx : a ^^^ b < 2 ^ 32 := Nat.xor_lt_two_pow (by omega) (by omega)
  rw [e0, BitVec.toNat_xor, BitVec.ofInt_natCast, BitVec.ofInt_natCast, BitVec.toNat_ofNat, BitVec.toNat_ofNat, Nat.mod_eq_of_lt (show a < 2 ^ 32 by omega), Nat.mod_eq_of_lt (show b < 2 ^ 32 by omega), u32w_mod]
  omega
theorem xor_u64 {a b : Nat} (ha : a < 4294967296) (hb : b < 4294967296) : Go.bits .xor .u64 (a : Int) (b : Int) = ((a ^^^ b : Nat) : Int) ∧ a ^^^ b < 4294967296 := by
  have e0 : Go.bits .xor .u64 (a : Int) (b : Int) = IntKind.u64.wrap ((BitVec.ofInt 64 (a : Int) ^^^ BitVec.ofInt 64 (b : Int)).toNat : Int) := rfl
  have hx : a ^^^ b < 2 ^ 32 := Nat.xor_lt_two_pow (by omega) (by omega)
  rw [e0, BitVec.toNat_xor, BitVec.ofInt_natCast, BitVec.ofInt_natCast, BitVec.toNat_ofNat, BitVec.toNat_ofNat, Nat.mod_eq_of_lt (show a < 2 ^ 64 by omega), Nat.mod_eq_of_lt (show b < 2 ^ 64 by omega), u64w_mod]
  omega
def hstep (h x : Nat) : Nat := (h ^^^ x) * 16777619 % 4294967296
/-- The number of bytes that a frame's port hangs on. -/
def hashN (l : List Nat) : Nat := l.foldl hstep 2166136261
theorem hashN_snoc (l : List Nat) (x : Nat) : hashN (l ++ [x]) = hstep (hashN l) x := by
  unfold hashN
  rw [List.foldl_append, List.foldl_cons, List.foldl_nil]
theorem hstep_lt (h x : Nat) : hstep h x < 4294967296 := by
  unfold hstep
  omega
theorem hashF_lt (l : List Nat) : ∀ h : Nat, h < 4294967296 → l.foldl hstep h < 4294967296 := by
  induction l with
  | nil => exact fun h hh => hh
  | cons x r ih => exact fun h _ => ih _ (hstep_lt h x)
theorem hashN_lt (l : List Nat) : hashN l < 4294967296 := hashF_lt l 2166136261 (by omega)
theorem hash_l0_ev (s : ByteArray) (hs : s.size ≤ 1099511627776) (d : Nat) : ∀ i : Nat, i ≤ s.size → s.size - i = d →
    Ev (fun k => vxlan_Hash.l0 k s ((hashN ((nb s).take i) : Nat) : Int) (s.size : Int) (i : Int)) ((hashN (nb s) : Nat) : Int) := by
  have hl := nb_len s
  have hby := nb_byt s
  induction d with
  | zero =>
    intro i hi hd
    refine ⟨1, fun k hk => ?_⟩
    obtain ⟨m, rfl⟩ : ∃ m, k = m + 1 := ⟨k - 1, by omega⟩
    simp only [vxlan_Hash.l0]
    rw [if_neg (by omega), List.take_of_length_le (by omega)]
  | succ d ih =>
    intro i hi hd
    have hlt : i < (nb s).length := by omega
    have hb := getD_byte hby i
    have hh := hashN_lt ((nb s).take i)
    refine Ev.step (f := fun k => vxlan_Hash.l0 k s ((hashN ((nb s).take (i + 1)) : Nat) : Int) (s.size : Int) ((i + 1 : Nat) : Int)) (fun k => ?_) (ih (i + 1) (by omega) (by omega))
    simp only [vxlan_Hash.l0]
    rw [if_pos (by omega), if_pos (by omega), if_pos (by omega), bt_nb, Int.toNat_natCast, show (((nb s).getD i 0 : Nat) : Int) % 4294967296 = (((nb s).getD i 0 : Nat) : Int) by omega, xor_u32 hh (by omega), w64 (x := (i : Int) + 1) (by omega) (by omega), take_succ_getD hlt, hashN_snoc]
    unfold hstep
    congr 1
theorem hash_ev {s : ByteArray} (hs : s.size ≤ 1099511627776) : Ev (fun k => vxlan_Hash.f k s) ((hashN (nb s) : Nat) : Int) := by
  have := hash_l0_ev s hs s.size 0 (Nat.zero_le _) rfl
  show Ev (fun k => vxlan_Hash.l0 k s 2166136261 (s.size : Int) 0) _
  simpa [hashN] using this
theorem hashR_l0_ev (s : ByteArray) (hs : s.size ≤ 1099511627776) (d : Nat) : ∀ i : Nat, i ≤ s.size → s.size - i = d →
    Ev (fun k => gangwayref08_Hash.l0 k s ((hashN ((nb s).take i) : Nat) : Int) (i : Int)) ((hashN (nb s) : Nat) : Int) := by
  have hl := nb_len s
  have hby := nb_byt s
  induction d with
  | zero =>
    intro i hi hd
    refine ⟨1, fun k hk => ?_⟩
    obtain ⟨m, rfl⟩ : ∃ m, k = m + 1 := ⟨k - 1, by omega⟩
    have hh := hashN_lt (nb s)
    simp only [gangwayref08_Hash.l0]
    rw [if_neg (by omega), List.take_of_length_le (by omega)]
    congr 1
    omega
  | succ d ih =>
    intro i hi hd
    have hlt : i < (nb s).length := by omega
    have hb := getD_byte hby i
    have hh := hashN_lt ((nb s).take i)
    have hx := xor_u64 (b := (nb s).getD i 0) hh (by omega)
    refine Ev.step (f := fun k => gangwayref08_Hash.l0 k s ((hashN ((nb s).take (i + 1)) : Nat) : Int) ((i + 1 : Nat) : Int)) (fun k => ?_) (ih (i + 1) (by omega) (by omega))
    simp only [gangwayref08_Hash.l0]
    rw [if_pos (by omega), if_pos (by omega), bt_nb, Int.toNat_natCast, u64w (x := (((nb s).getD i 0 : Nat) : Int)) (by omega) (by omega), hx.1, u64w (by omega) (by omega), Int.tmod_eq_emod_of_nonneg (by omega), w64 (x := (i : Int) + 1) (by omega) (by omega), take_succ_getD hlt, hashN_snoc]
    unfold hstep
    congr 1
theorem hashR_ev {s : ByteArray} (hs : s.size ≤ 1099511627776) : Ev (fun k => gangwayref08_Hash.f k s) ((hashN (nb s) : Nat) : Int) := by
  have := hashR_l0_ev s hs s.size 0 (Nat.zero_le _) rfl
  show Ev (fun k => gangwayref08_Hash.l0 k s 2166136261 0) _
  simpa [hashN] using this
/-- The port that a frame's bytes come from. -/
def portN (l : List Nat) : Nat := 49152 + hashN (l.take 14) % 16384
theorem port_wrap (h : Nat) (hh : h < 4294967296) : wrap64 (49152 + wrap64 (Int.tmod (h : Int) 16384)) = ((49152 + h % 16384 : Nat) : Int) := by
  rw [Int.tmod_eq_emod_of_nonneg (by omega), w64 (x := (h : Int) % 16384) (by omega) (by omega), w64 (by omega) (by omega)]
  omega
theorem port_ev {s : ByteArray} (hs : s.size ≤ 1099511627776) : Ev (fun k => vxlan_Port.f k s) ((portN (nb s) : Nat) : Int) := by
  have h1 := mn_le (s.size : Int) 14
  have h2 := mn_nonneg (size_nat s) (show (0 : Int) ≤ 14 by decide)
  have hl := nb_len s
  unfold vxlan_Port.f
  refine ev_pos h2 (ev_pos h1.1 ?_)
  have hz : (s.extract 0 (mn (s.size : Int) 14).toNat).size ≤ 14 := cut_size s 14
  refine Ev.bind (hash_ev (by omega)) (ev_now ?_)
  have hn : nb (s.extract 0 (mn (s.size : Int) 14).toNat) = (nb s).take 14 := by
    rw [nb_extract, List.drop_zero]
    unfold mn
    split
    · rfl
    · rw [List.take_of_length_le (by omega), List.take_of_length_le (by omega)]
  rw [hn, port_wrap _ (hashN_lt _)]
  rfl
theorem portR_ev {s : ByteArray} (hs : s.size ≤ 1099511627776) : Ev (fun k => gangwayref08_Port.f k s) ((portN (nb s) : Nat) : Int) := by
  have hl := nb_len s
  unfold gangwayref08_Port.f
  by_cases h : (s.size : Int) > 14
  · refine ev_pos h (ev_pos (by decide) (ev_pos (by omega) ?_))
    refine Ev.bind (hashR_ev (by rw [ByteArray.size_extract]; omega)) (ev_now ?_)
    rw [nb_extract, List.drop_zero, port_wrap _ (hashN_lt _)]
    rfl
  · refine ev_neg h ?_
    refine Ev.bind (hashR_ev hs) (ev_now ?_)
    rw [port_wrap _ (hashN_lt _)]
    unfold portN
    rw [List.take_of_length_le (by omega)]
/-- A frame's bytes behind a head, if its number may be. -/
def vbuild (v : Int) (s : ByteArray) : ByteArray × Int := if 0 ≤ v ∧ v ≤ 16777215 then (bs ([8, 0, 0, 0] ++ be 3 v.toNat ++ [0]) ++ s, 0) else ((⟨#[]⟩ : ByteArray), 1)
theorem build_ev {v : Int} {s : ByteArray} (hs : s.size ≤ 1099511627776) : Ev (fun k => vxlan_Build.f k v s) (vbuild v s) := by
  unfold vxlan_Build.f vbuild
  by_cases h0 : v < 0
  · rw [if_neg (by omega)]
    exact ev_pos h0 (ev_now rfl)
  · refine ev_neg h0 ?_
    by_cases h1 : v > 16777215
    · rw [if_neg (by omega)]
      exact ev_pos h1 (ev_now rfl)
    · rw [if_pos (by omega)]
      refine ev_neg h1 ?_
      obtain ⟨n, rfl⟩ := Int.eq_ofNat_of_zero_le (show 0 ≤ v by omega)
      rw [u64w (by omega) (by omega), Int.toNat_natCast]
      refine Ev.bind (put_ev (n := 3) (by decide) (by decide) (by omega)) (ev_some ?_)
      have e : strOfNums [8, 0, 0, 0] = bs [8, 0, 0, 0] := by
        rw [nums_bs _ (by simp)]
        rfl
      rw [e]
      dsimp only
      refine ev_pos (by simp [bs_size, be_len]) (ev_pos (by simp [ByteArray.size_append, bs_size, be_len]) (ev_pos ?_ (ev_now ?_)))
      · have : (bs [8, 0, 0, 0] ++ bs (be 3 n) ++ (⟨#[0]⟩ : ByteArray)).size = 8 := by
          rw [ByteArray.size_append, ByteArray.size_append, bs_size, bs_size, be_len]
          rfl
        omega
      · rw [bs_append, bs_append]
        rfl
theorem buildR_ev {v : Int} {s : ByteArray} (hs : s.size ≤ 1099511627776) : Ev (fun k => gangwayref08_Build.f k v s) (vbuild v s) := by
  unfold gangwayref08_Build.f vbuild
  by_cases h0 : v < 0
  · rw [if_neg (by omega)]
    exact ev_pos h0 (ev_now rfl)
  · refine ev_neg h0 ?_
    by_cases h1 : v > 16777215
    · rw [if_neg (by omega)]
      exact ev_pos h1 (ev_now rfl)
    · rw [if_pos (by omega)]
      refine ev_neg h1 ?_
      obtain ⟨n, rfl⟩ := Int.eq_ofNat_of_zero_le (show 0 ≤ v by omega)
      rw [u64w (x := (n : Int)) (by omega) (by omega), u64w (by omega) (by omega), Int.toNat_natCast, show (n : Int) * 256 = ((n * 256 : Nat) : Int) by omega]
      refine Ev.bind (bytes_ev (n := 4) (by decide) (by omega)) ?_
      have e : be 4 (n * 256) = be 3 n ++ [0] := by
        show be 3 (n * 256 / 256) ++ [n * 256 % 256] = _
        rw [Nat.mul_div_cancel _ (by decide), Nat.mul_mod_left]
      rw [e]
      refine ev_pos (by simp [bs_size, be_len]) (ev_pos ?_ (ev_now ?_))
      · have : ((⟨#[8, 0, 0, 0]⟩ : ByteArray) ++ bs (be 3 n ++ [0])).size = 8 := by
          rw [ByteArray.size_append, bs_size, List.length_append, be_len]
          rfl
        omega
      · rw [List.append_assoc, bs_append [8, 0, 0, 0]]
        rfl
/-- What bytes tell. -/
def vparse (s : ByteArray) : Int × ByteArray × Int :=
  if s.size < 8 then (0, (⟨#[]⟩ : ByteArray), 80) else if (nb s).getD 0 0 / 8 % 2 = 0 then (0, (⟨#[]⟩ : ByteArray), 81) else (((numAt (nb s) 4 3 : Nat) : Int), s.extract 8 s.size, 0)
theorem parse_ev {s : ByteArray} (hs : s.size ≤ 1099511627776) : Ev (fun k => vxlan_Parse.f k s) (vparse s) := by
  have hby := nb_byt s
  unfold vxlan_Parse.f vparse
  by_cases h0 : s.size < 8
  · rw [if_pos h0]
    exact ev_pos (by omega) (ev_now rfl)
  · rw [if_neg h0]
    refine ev_neg (by omega) (ev_pos (by omega) ?_)
    have hb := getD_byte hby 0
    rw [bt_nb, show (0 : Int).toNat = 0 from rfl]
    by_cases h1 : (nb s).getD 0 0 / 8 % 2 = 0
    · rw [if_pos h1]
      exact ev_pos ((and_eight _ hb).2 h1) (ev_now rfl)
    · rw [if_neg h1]
      refine ev_neg (fun h => h1 ((and_eight _ hb).1 h)) ?_
      have hg := get_ev (s := s) (i := 4) (n := 3) (by decide) (by decide) (by omega) hs
      refine Ev.bind hg (ev_pos (by omega) (ev_now ?_))
      have hn := numAt_lt hby 4 3
      rw [w64 (by omega) (by omega)]
theorem parseR_ev {s : ByteArray} (hs : s.size ≤ 1099511627776) : Ev (fun k => gangwayref08_Parse.f k s) (vparse s) := by
  have hby := nb_byt s
  have hl := nb_len s
  unfold gangwayref08_Parse.f vparse
  by_cases h0 : s.size < 8
  · rw [if_pos h0]
    exact ev_pos (by omega) (ev_now rfl)
  · rw [if_neg h0]
    refine ev_neg (by omega) (ev_pos (by omega) ?_)
    have hb := getD_byte hby 0
    rw [bt_nb, show (0 : Int).toNat = 0 from rfl, Int.tdiv_eq_ediv_of_nonneg (by omega)]
    by_cases h1 : (nb s).getD 0 0 / 8 % 2 = 0
    · rw [if_pos h1]
      exact ev_pos (by omega) (ev_now rfl)
    · rw [if_neg h1]
      refine ev_neg (by omega) (ev_pos (by decide) (ev_pos (by omega) ?_))
      refine Ev.bind (num_ev (by rw [ByteArray.size_extract]; omega)) (ev_now ?_)
      have e : nb (s.extract 4 8) = ((nb s).drop 4).take 3 ++ [((nb s).drop 4).getD 3 0] := by
        rw [nb_extract, List.drop_take, ← take_succ_getD (by rw [List.length_drop]; omega)]
      have hn := numAt_lt hby 4 3
      have hx := getD_byte (hby.drop 4) 3
      unfold numAt at hn ⊢
      rw [e, num_snoc]
      have h3 : (256 : Nat) ^ 3 = 16777216 := by decide
      rw [Int.tdiv_eq_ediv_of_nonneg (by omega), u64w (by omega) (by omega), w64 (by omega) (by omega)]
      congr 1
      omega
theorem vxlan_fixed_ev : Ev (fun k => gangwaylaw08_fixed.f k) true := by
  unfold gangwaylaw08_fixed.f
  refine Ev.bind (build_ev (by decide)) (Ev.bind (parse_ev (by decide)) (Ev.bind (parse_ev (by decide)) (Ev.bind (parse_ev (by decide)) (Ev.bind (build_ev (by decide)) ?_))))
  refine ev_pos (by decide +kernel) (ev_pos (by decide +kernel) (ev_pos (by decide +kernel) (ev_pos (by decide +kernel) (ev_pos (by decide +kernel) (ev_pos (by decide +kernel) (ev_pos (by decide +kernel) (ev_pos (by decide +kernel) ?_)))))))
  refine Ev.bind (hash_ev (by decide)) (ev_pos (by decide +kernel) (Ev.bind (port_ev (by decide)) (ev_now ?_)))
  decide +kernel
end Go.Proofs.YthgdphfblajijaaDoor.P
