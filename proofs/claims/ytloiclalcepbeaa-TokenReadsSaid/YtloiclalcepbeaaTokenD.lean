/- Tokens: Print. -/
import Derived.Test.YtloiclalcepbeaaTokenC
import Derived.Test.YtloiclalcepbeaaTokenN
set_option linter.unusedVariables false
set_option linter.unusedSimpArgs false
namespace Go.Proofs.Ytloiclalcepbeaa
open Go.RowKit Go.Proofs.YtloiclalcepbeaaW.PrintWords Go.Proofs.YtloiclalcepbeaaW.PrintLast
theorem Try.tinfo64 : (Try.prog.info? 3).map (fun i => (i.zero, i.size, i.bytes)) = some (some (.int .i64 0), 1, 8) := by kernel_rfl
theorem i64_of (x y : Int) (h0 : 0 ≤ x) (h1 : x ≤ y) (h2 : y ≤ 9223372036854775807) : wrap64 x = x ∧ IntKind.i64.wrap x = x :=
  i64_in x (Int.le_trans (by decide) h0) (Int.le_trans h1 h2)
theorem div31_facts (m : Nat) (hm : 0 < m) (hb : (m : Int) ≤ 1125899906842624) : ∃ q r : Nat, m / 31 = q ∧ m % 31 = r ∧ q < m ∧ (q : Int) ≤ 1125899906842624 ∧ (m : Int) / 31 = q ∧ (m : Int).tdiv 31 = q ∧ (m : Int).tmod 31 = r ∧ (m : Int) % 31 = r ∧
    wrap64 (q : Int) = q ∧ IntKind.i64.wrap (q : Int) = q ∧ wrap64 (r : Int) = r ∧ IntKind.i64.wrap (r : Int) = r := by
  have hq : ((m / 31 : Nat) : Int) ≤ m := by omega
  have hr : ((m % 31 : Nat) : Int) ≤ m := by omega
  obtain ⟨a1, a2⟩ := i64_of ((m / 31 : Nat) : Int) 1125899906842624 (Int.natCast_nonneg _) (Int.le_trans hq hb) (by decide)
  obtain ⟨a3, a4⟩ := i64_of ((m % 31 : Nat) : Int) 1125899906842624 (Int.natCast_nonneg _) (Int.le_trans hr hb) (by decide)
  refine ⟨m / 31, m % 31, rfl, rfl, by omega, Int.le_trans hq hb, rfl, ?_, ?_, rfl, a1, a2, a3, a4⟩
  · exact Int.tdiv_eq_ediv_of_nonneg (Int.natCast_nonneg _)
  · exact Int.tmod_eq_emod_of_nonneg (Int.natCast_nonneg _)
set_option maxHeartbeats 1600000 in
set_option maxRecDepth 100000 in
theorem tprint_bad (node rev : Int) (w : World) (h : ¬ tfits node rev) :
    Calls Try.prog 16 #[.agg #[.int .i64 node, .int .i64 rev]] w fun e w' => e = .returned (.tuple #[.string (strOfNums (ttext node rev)), .int .i64 (terr node rev)]) ∧ Below w.heap.size w w' := by
  have H1 := Aside0.mk ((Hw.start w).alloc (.cells #[.int .i64 node, .int .i64 rev] 23))
  have c0 := H1.out.cell (i := 0) rfl
  have c1 := H1.out.cell (i := 1) rfl
  have e1 : ttext node rev = [] := if_neg h
  have e2 : terr node rev = 1 := if_neg h
  rw [e1, e2]
  unfold tfits at h
  have hc : node < 0 ∨ (0 ≤ node ∧ 8 ≤ node) ∨ (0 ≤ node ∧ node < 8 ∧ rev < 0) ∨ (0 ≤ node ∧ node < 8 ∧ 0 ≤ rev ∧ 1125899906842624 < rev) := by omega
  clear h e1 e2
  rcases hc with d1 | ⟨d1, d2⟩ | ⟨d1, d2, d3⟩ | ⟨d1, d2, d3, d4⟩
  all_goals
    go_enter Try.func16, Try.ntmps16
    go_wp2
    go_ret2
    exact ⟨rfl, H1.out.below⟩
set_option maxHeartbeats 3200000 in
set_option maxRecDepth 100000 in
theorem tprint_good (a b : Nat) (w : World) (ha : a < 8) (hb : b ≤ 1125899906842624) :
    Calls Try.prog 16 #[.agg #[.int .i64 a, .int .i64 b]] w fun e w' => e = .returned (.tuple #[.string (strOfNums ((tdigits a b).map sgn)), .int .i64 0]) ∧ Below w.heap.size w w' := by
  have H1 := Aside0.mk ((Hw.start w).alloc (.cells #[.int .i64 a, .int .i64 b] 23))
  have c0 := H1.out.cell (i := 0) rfl
  have c1 := H1.out.cell (i := 1) rfl
  have d1 : decide ((a : Int) < 0) = false := decide_eq_false (by omega)
  have d2 : decide ((8 : Int) ≤ a) = false := decide_eq_false (by omega)
  have d3 : decide ((b : Int) < 0) = false := decide_eq_false (by omega)
  have d4 : decide ((1125899906842624 : Int) < b) = false := decide_eq_false (by omega)
  have HB50 : (b : Int) ≤ 1125899906842624 := by omega
  have H2 := Aside0.mk (((Hw.row_of_blk (enc := Value.int .i64) (h1 := fun _ => rfl) (n := 1) (xs := [(a : Int)]) rfl (by decide) (H1.out.alloc (.cells #[.int .i64 a] 3))).row_nil (Kd.int .i64) 3))
  have k1 := H2.out.cellAt w.heap.size 1 rfl
  go_enter Try.func16, Try.ntmps16
  go_wp2_with fail
  simp only [World.size_alloc] at H2
  have T0 := Aside0.mk (show ([] : List Int) ++ low31 b = low31 b by simp)
  have L0 := Aside0.mk (low31_len11 b hb)
  clear k1 d1 d2 d3 d4 c0 c1 H1
  go_loopw [6, 5] (fun i v wr => ∃ (m : Nat) (A : Option Addr) (c : Nat) (hs : List Int), (m : Int) ≤ 1125899906842624 ∧ i = .int .i64 m ∧ v = .slice A hs.length c ∧ Aside0 (hs ++ low31 m = low31 b) ∧
    Aside0 (Hw w wr (row (Kd.int .i64) 3 (.slice A hs.length c) hs * (row (Kd.int .i64) 3 (.slice (some ⟨w.heap.size + 1, 0, none⟩) 1 1) [(a : Int)] * (blk w.heap.size (.cells #[.int .i64 a, .int .i64 b] 23) * HP.emp))))) (fun i _ _ => (intOf i).toNat)
  case atStart => exact ⟨b, none, 0, [], HB50, rfl, rfl, T0, H2⟩
  case round =>
    obtain ⟨m, A, c, hs, hm50, rfl, rfl, HT, HW⟩ := hrel
    clear H2
    by_cases hm : 0 < m
    · obtain ⟨q, r, hq, hr, hqm, hq50, e1, e2, e3, e4, w1, w2, w3, w4⟩ := div31_facts m hm hm50
      have htl := HT.out
      rw [low31_pos m hm, hq, hr] at htl
      have hlen : hs.length ≤ 11 := by
        have h1 := congrArg List.length htl
        simp only [List.length_append, List.length_cons] at h1
        have := L0.out
        omega
      have HT2 := Aside0.mk (show (hs ++ [(r : Int)]) ++ low31 q = low31 b by rw [List.append_assoc]; exact htl)
      clear hq hr htl
      have H3 := Aside0.mk ((HW.out.alloc (.cells #[.int .i64 r] 3)).atR (Kd.int .i64) 3 (.slice A hs.length c))
      have HC3 := Aside0.mk (C_blk (enc := Value.int .i64) (h1 := fun _ => rfl) (xs := [(r : Int)]) (by simp) (HW.out.alloc (.cells #[.int .i64 r] 3)).blk_at.1)
      go_wp2_with (at_builtin; refine Hw.append_int (k := .i64) rfl (.tmp 37) (.tmp 40) 48 3 8 rfl Try.underlying48 Try.tinfo64 (by decide) _ hs [(r : Int)] _ 1 1 rfl rfl H3.out HC3.out (by omega) (hs ++ [(r : Int)]) rfl (hs.length + 1) (by simp) ?_; intro A4 c4 w4 H4)
      go_roundw
      case rel => exact ⟨q, A4, c4, _, hq50, by first | rfl | go_num, by simp, HT2, ⟨(by simpa using H4.out.dropB wr.heap.size)⟩⟩
      case measure => simp [intOf]; omega
    · have hm0 : m = 0 := by omega
      subst hm0
      have ht : hs = low31 b := by have := HT.out; rw [low31_zero, List.append_nil] at this; exact this
      subst ht
      clear hm HT
      go_wp2_with fail
      obtain ⟨L, hL⟩ : ∃ L, L = (low31 b).length := ⟨_, rfl⟩
      have hL11 : L ≤ 11 := by rw [hL]; exact L0.out
      rw [← hL] at HW ⊢
      have LL := Aside0.mk hL
      clear hL L0 T0
      refine (rev_ok A L c (low31 b) (by rw [← LL.out]; omega) HW.out).mono ?_
      rintro e w3 ⟨rfl, h3⟩
      have H3 := Aside0.mk (h3.atR (Kd.int .i64) 3 (.slice (some ⟨w.heap.size + 1, 0, none⟩) 1 1))
      have HC3 := Aside0.mk h3.row_C.2.2
      clear h3 HW
      go_wp2_with (at_builtin; refine Hw.append_int (k := .i64) rfl (.tmp 44) (.tmp 45) 48 3 8 rfl Try.underlying48 Try.tinfo64 (by decide) _ [(a : Int)] (low31 b).reverse A L c rfl rfl H3.out HC3.out (by simp; omega) (tbody a b) rfl (L + 1) (by simp [tbody, LL.out]) ?_; intro A5 c5 w5 H5)
      refine (tcheck_ok A5 (L + 1) c5 (tbody a b) w5 H5.out.row_C.2.2 (by omega) (tbody_digs a b ha)).mono ?_
      rintro e w6 ⟨rfl, rfl⟩
      obtain ⟨z, hz⟩ : ∃ z : Int, z = (tcheck (tbody a b) : Int) := ⟨_, rfl⟩
      rw [← hz]
      have hld : (tbody a b ++ [z]) = tdigits a b := by rw [hz]; rfl
      have hlb : (tbody a b).length = L + 1 := by simp [tbody, LL.out]
      have H6 := Aside0.mk ((H5.out.alloc (.cells #[.int .i64 z] 3)).atR (Kd.int .i64) 3 (.slice A5 (L + 1) c5))
      have HC6 := Aside0.mk (C_blk (enc := Value.int .i64) (h1 := fun _ => rfl) (xs := [z]) (by simp) (H5.out.alloc (.cells #[.int .i64 z] 3)).blk_at.1)
      have LD := Aside0.mk hld
      have LB := Aside0.mk hlb
      clear H3 HC3 hz hld hlb
      go_wp2_with (at_builtin; refine Hw.append_int (k := .i64) rfl (.tmp 47) (.tmp 50) 48 3 8 rfl Try.underlying48 Try.tinfo64 (by decide) _ (tbody a b) [z] _ 1 1 rfl rfl H6.out HC6.out (by rw [LB.out]; omega) (tdigits a b) LD.out (L + 2) (by rw [← LD.out]; simp [LB.out]) ?_; intro A7 c7 w7 H7)
      have HC7 := Aside0.mk H7.out.row_C.2.2
      have HB7 := Aside0.mk (((Hw.start w7).alloc (.cells #[.pointer none, .slice none 0 0] 72)).row_nil (Kd.int .u8) 5)
      go_loopw [54] (fun i wr => ∃ (k : Nat) (p v : Value), k ≤ L + 2 ∧ i = .int .i64 k ∧ Aside0 (p = .pointer none ∨ p = bptr w7.heap.size) ∧
        Aside0 (Hw w7 wr (blk w7.heap.size (bobj p v) * (row (Kd.int .u8) 5 v (((tdigits a b).take k).map sgn) * HP.emp)))) (fun i _ => (L + 2) - (intOf i).toNat)
      case atStart => exact ⟨0, .pointer none, .slice none 0 0, Nat.zero_le _, rfl, ⟨.inl rfl⟩, ⟨HB7.out.atB w7.heap.size⟩⟩
      case round =>
        obtain ⟨k, p, v, hk, rfl, HP1, HW⟩ := hrel
        clear HB7
        by_cases hlt : k < L + 2
        · obtain ⟨ad, x, rfl, hcell, hx⟩ := C_scalar_at (enc := Value.int .i64) (h1 := fun _ => rfl) (Kd.C_below HC7.out HW.out.below) k hlt
          obtain ⟨hx0, hx1⟩ := tdigits_digs a b ha x (List.mem_of_getElem? hx.out)
          have hsg := sgn_run (P := Try.prog) 9 Try.underlying9 x hx0 hx1
          have TK := Aside0.mk (show ((tdigits a b).take (k + 1)).map sgn = ((tdigits a b).take k).map sgn ++ [sgn x] by rw [take_snoc_of hx.out, List.map_append]; rfl)
          go_wp2_with fail
          refine (bwrite_ok w7.heap.size p v _ (sgn x) HP1.out (by simp; omega) HW.out).mono ?_
          rintro e w8 ⟨v8, rfl, h8⟩
          have H8 := Aside0.mk h8
          clear h8 hsg hx
          go_wp2_with fail
          go_roundw
          case rel => exact ⟨k + 1, _, v8, by omega, by go_num, ⟨.inr rfl⟩, ⟨by rw [TK.out]; exact H8.out⟩⟩
          case measure => simp [intOf]; omega
        · have hk2 : k = L + 2 := by omega
          subst hk2
          have et : (tdigits a b).take (L + 2) = tdigits a b := List.take_of_length_le (by rw [← LD.out]; simp [LB.out])
          rw [et] at HW
          obtain ⟨A8, c8, rfl, _⟩ := (HW.out.as (Q := row (Kd.int .u8) 5 v ((tdigits a b).map sgn) * (blk w7.heap.size (bobj p v) * HP.emp)) (by ac_rfl)).row_reads
          go_wp2_with fail
          refine (bstring_ok rfl HP1.out (sgns_bytes _ (tdigits_digs a b ha)) HW.out).mono ?_
          rintro e w9 ⟨rfl, hB⟩
          go_wp2_with fail
          go_ret2
          exact ⟨rfl, (H7.out.from_below hB).below⟩
end Go.Proofs.Ytloiclalcepbeaa
