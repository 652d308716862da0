/- Numbers as bytes, plain. -/
import Derived.Test.YtckdkbjobipniaaBB
import Derived.Test.YtckdkbjobipniaaChecked
import Derived.Test.YtckdkbjobipniaaWLast
import Derived.WalkSmall
import Derived.Lib.Zigzag
import Derived.Test.YtckdkbjobipniaaBA
import Derived.Tactics
import Derived.Tactics2
import Derived.Defers
import Derived.Recover
import Derived.Laws.Pointers
set_option linter.unusedVariables false
set_option linter.unusedSimpArgs false
namespace Go.Proofs.Ytckdkbjobipniaa
/-- A number from 0 on as bytes: seven bits a byte, the lowest first. -/
def venc (u : Nat) : List Int := if h : u < 128 then [(u : Int)] else ((u % 128 + 128 : Nat) : Int) :: venc (u / 128)
termination_by u
decreasing_by omega
theorem venc_lt {u : Nat} (h : u < 128) : venc u = [(u : Int)] := by rw [venc, dif_pos h]
theorem venc_ge {u : Nat} (h : 128 ≤ u) : venc u = ((u % 128 + 128 : Nat) : Int) :: venc (u / 128) := by rw [venc, dif_neg (by omega)]
/-- A whole number as one from 0 on. -/
def zig (n : Int) : Nat := if 0 ≤ n then (2 * n).toNat else (-2 * n - 1).toNat
def zag (u : Nat) : Int := if u % 2 = 0 then (u / 2 : Nat) else -((u / 2 : Nat) : Int) - 1
theorem zag_zig (n : Int) : zag (zig n) = n := by unfold zag zig; split <;> split <;> omega
theorem zig_zag (u : Nat) : zig (zag u) = u := by unfold zag zig; split <;> split <;> omega
def i64r (n : Int) : Prop := -9223372036854775808 ≤ n ∧ n ≤ 9223372036854775807
theorem zig_lt (n : Int) (h : i64r n) : zig n < 18446744073709551616 := by unfold i64r at h; unfold zig; split <;> omega
theorem zag_r (u : Nat) (h : u < 18446744073709551616) : i64r (zag u) := by unfold i64r zag; split <;> omega
def encI (n : Int) : List Int := venc (zig n)
theorem venc_bytes : ∀ u : Nat, bytes (venc u) := by
  intro u
  induction u using Nat.strongRecOn with
  | _ u ih =>
    by_cases h : u < 128
    · rw [venc_lt h]
      intro x hx
      obtain rfl : x = (u : Int) := by simpa using hx
      omega
    · rw [venc_ge (by omega)]
      intro x hx
      rcases List.mem_cons.1 hx with rfl | hx
      · omega
      · exact ih (u / 128) (by omega) x hx
theorem venc_len : ∀ (k u : Nat), u < 128 ^ (k + 1) → 1 ≤ (venc u).length ∧ (venc u).length ≤ k + 1
  | 0, u, h => by rw [venc_lt (by omega)]; simp
  | k + 1, u, h => by
    by_cases h0 : u < 128
    · rw [venc_lt h0]; simp
    · rw [venc_ge (by omega), List.length_cons]
      have := venc_len k (u / 128) (by rw [Nat.div_lt_iff_lt_mul (by decide)]; rwa [Nat.pow_succ] at h)
      omega
theorem encI_len (n : Int) (h : i64r n) : 1 ≤ (encI n).length ∧ (encI n).length ≤ 10 := by
  have := zig_lt n h
  exact venc_len 9 (zig n) (by omega)
theorem bxor64 (a b : BitVec 64) : Go.bits .xor .u64 (a.toNat : Int) (b.toNat : Int) = ((a ^^^ b).toNat : Int) := by
  simp only [Go.bits, BitVec.ofInt_natCast]
  have e : ∀ x : BitVec 64, BitVec.ofNat IntKind.u64.bits x.toNat = x := fun x => BitVec.ofNat_toNat (m := 64) x
  rw [e a, e b, IntKind.wrap_u64]
  show ((a ^^^ b : BitVec 64).toNat : Int) % 18446744073709551616 = ((a ^^^ b : BitVec 64).toNat : Int)
  have := (a ^^^ b : BitVec 64).isLt
  omega
theorem bv64 (x : Int) (h0 : 0 ≤ x) (h1 : x < 18446744073709551616) : x = ((BitVec.ofNat 64 x.toNat).toNat : Int) := by
  rw [BitVec.toNat_ofNat]; omega
theorem xor64_zero (x : Int) (h0 : 0 ≤ x) (h1 : x < 18446744073709551616) : Go.bits .xor .u64 x 0 = x := by
  have e := bv64 x h0 h1
  have e0 : (0 : Int) = ((0#64).toNat : Int) := rfl
  rw [e0, e, bxor64, BitVec.xor_zero]
theorem xor64_ones (x : Int) (h0 : 0 ≤ x) (h1 : x < 18446744073709551616) : Go.bits .xor .u64 x 18446744073709551615 = 18446744073709551615 - x := by
  have e := bv64 x h0 h1
  have e0 : (18446744073709551615 : Int) = ((BitVec.allOnes 64).toNat : Int) := rfl
  obtain ⟨b, hb⟩ : ∃ b, b = BitVec.ofNat 64 x.toNat := ⟨_, rfl⟩
  rw [← hb] at e
  have h2 : Go.bits .xor .u64 x 18446744073709551615 = ((~~~ b).toNat : Int) := by
    rw [e0, e, bxor64, BitVec.xor_allOnes]
  rw [h2, BitVec.toNat_not, e]
  have := b.isLt
  omega
theorem zig_bits (n : Int) (h : i64r n) : Go.bits .xor .u64 (IntKind.u64.wrap (IntKind.u64.wrap n * 2)) (IntKind.u64.wrap (n / 9223372036854775808)) = (zig n : Int) := by
  unfold i64r at h
  rw [IntKind.wrap_u64, IntKind.wrap_u64, IntKind.wrap_u64]
  by_cases h0 : 0 ≤ n
  · have e1 : (n % 18446744073709551616 * 2) % 18446744073709551616 = 2 * n := by omega
    have e2 : (n / 9223372036854775808) % 18446744073709551616 = 0 := by omega
    rw [e1, e2, xor64_zero _ (by omega) (by omega)]
    unfold zig; rw [if_pos h0]; omega
  · have e1 : (n % 18446744073709551616 * 2) % 18446744073709551616 = 2 * n + 18446744073709551616 := by omega
    have e2 : (n / 9223372036854775808) % 18446744073709551616 = 18446744073709551615 := by omega
    rw [e1, e2, xor64_ones _ (by omega) (by omega)]
    unfold zig; rw [if_neg h0]; omega
theorem or128_table : ∀ a : Fin 256, Go.bits .or .u8 (a.val : Int) 128 = ((a.val % 128 + 128 : Nat) : Int) := by decide +kernel
theorem or128 (u : Nat) : Go.bits .or .u8 ((u : Int) % 256) 128 = ((u % 128 + 128 : Nat) : Int) := by
  have := or128_table ⟨u % 256, by omega⟩
  simp only at this
  rw [show ((u : Int) % 256) = ((u % 256 : Nat) : Int) by omega, this]
  congr 2
  omega
end Go.Proofs.Ytckdkbjobipniaa

/- Numbers written: PutInt. -/
set_option linter.unusedVariables false
set_option linter.unusedSimpArgs false
namespace Go.Proofs.Ytckdkbjobipniaa
open Go.RowKit Go.Proofs.YtckdkbjobipniaaW.PrintWords Go.Proofs.YtckdkbjobipniaaW.PrintLast
theorem Try.infoU8 : (Try.prog.info? 5).map (fun i => (i.zero, i.size, i.bytes)) = some (some (.int .u8 0), 1, 1) := by kernel_rfl
section
variable {w0 w : World} {F : HP}
set_option maxHeartbeats 1600000 in
set_option maxRecDepth 100000 in
theorem putint_ok (A : Option Addr) (m c : Nat) (xs : List Int) (n : Int) (hn : i64r n) (hm : m ≤ 140737488355000) (hE : Ent w0 F (fun w => (Kd.int .u8).C w A m xs)) (h : Hw w0 w F) :
    Calls Try.prog 131 #[.slice A m c, .int .i64 n] w fun e w' => ∃ (A' : Option Addr) (m' c' : Nat), e = .returned (.slice A' m' c') ∧ m' = m + (encI n).length ∧ Hw w0 w' (row (Kd.int .u8) 5 (.slice A' m' c') (xs ++ encI n) * F) := by
  have hl := (hE.use h).1
  have HE := Aside0.mk hE
  have H1 := Aside0.mk (Hw.row_empty (k := .u8) (h.alloc (.cells #[] 5)))
  have HC := Aside0.mk (hE.mul.use H1.out)
  clear h hE
  have hz := zig_bits n hn
  have hzl := zig_lt n hn
  obtain ⟨ln, hln, hl1, hl10⟩ : ∃ ln, ln = (encI n).length ∧ 1 ≤ ln ∧ ln ≤ 10 := ⟨_, rfl, (encI_len n hn).1, (encI_len n hn).2⟩
  have LN := Aside0.mk hln
  obtain ⟨z, hzz⟩ : ∃ z, z = zig n := ⟨_, rfl⟩
  have EN : Aside0 (encI n = venc z) := ⟨by rw [hzz]; rfl⟩
  rw [← hzz] at hz hzl
  rw [← hln]
  have HL := Aside0.mk hl
  clear hzz hln hl
  go_enter Try.func131, Try.ntmps131
  go_wp2_with (at_builtin; refine Hw.append_int (k := .u8) rfl (.tmp 7) (.tmp 8) 28 5 1 rfl Try.underlying28 Try.infoU8 (by decide) _ [] xs A m c rfl rfl H1.out HC.out (by simp; have := HL.out; omega) xs rfl m HL.out ?_; intro A1 c1 w1 H2)
  clear H1 HC hz
  go_loopw [6, 5] (fun i v wr => ∃ (u j : Nat) (A' : Option Addr) (c' : Nat) (ys : List Int), u < 18446744073709551616 ∧ i = .int .u64 u ∧ v = .slice A' (m + j) c' ∧ Aside0 (ys.length = m + j) ∧ Aside0 (ys ++ venc u = xs ++ encI n) ∧ Aside0 (j + (venc u).length = ln) ∧
    Aside0 (Hw w0 wr (row (Kd.int .u8) 5 (.slice A' (m + j) c') ys * F))) (fun i _ _ => (intOf i).toNat)
  case atStart => exact ⟨z, 0, A1, c1, xs, hzl, rfl, rfl, HL, ⟨by rw [EN.out]⟩, ⟨by rw [LN.out, EN.out]; omega⟩, H2⟩
  case round =>
    obtain ⟨u, j, A', c', ys, hu, rfl, rfl, YL, YE, YJ, HW⟩ := hrel
    clear H2
    have hj : j ≤ 9 := by
      have h1 := YJ.out
      have h2 := (venc_len 9 u (by omega)).1
      omega
    by_cases hlt : 128 ≤ u
    · have d1 : decide ((128 : Int) ≤ u) = true := decide_eq_true (by omega)
      have d2 : decide (128 ≤ u) = true := decide_eq_true hlt
      have ho := or128 u
      obtain ⟨y, hy⟩ : ∃ y : Int, y = ((u % 128 + 128 : Nat) : Int) := ⟨_, rfl⟩
      obtain ⟨q, hq⟩ : ∃ q, q = u / 128 := ⟨_, rfl⟩
      have hq2 : (u : Int) / 128 = q := by omega
      have hq3 : q < u := by omega
      have VE := Aside0.mk (show venc u = y :: venc q by rw [hy, hq]; exact venc_ge hlt)
      rw [← hy] at ho
      have YE2 := Aside0.mk (show (ys ++ [y]) ++ venc q = xs ++ encI n by rw [List.append_assoc, ← YE.out, VE.out]; rfl)
      have YJ2 := Aside0.mk (show (j + 1) + (venc q).length = ln by rw [← YJ.out, VE.out, List.length_cons]; omega)
      have H3 := Aside0.mk ((HW.out.alloc (.cells #[.int .u8 y] 5)).atR (Kd.int .u8) 5 (.slice A' (m + j) c'))
      have HC3 := Aside0.mk (C_blk (enc := Value.int .u8) (h1 := fun _ => rfl) (xs := [y]) (by simp) (HW.out.alloc (.cells #[.int .u8 y] 5)).blk_at.1)
      clear hy hq
      go_wp2_with (at_builtin; refine Hw.append_int (k := .u8) rfl (.tmp 19) (.tmp 23) 28 5 1 rfl Try.underlying28 Try.infoU8 (by decide) _ ys [y] _ 1 1 rfl rfl H3.out HC3.out (by rw [YL.out]; omega) (ys ++ [y]) rfl (m + j + 1) (by simp [YL.out]) ?_; intro A4 c4 w4 H4)
      go_roundw
      case rel => exact ⟨q, j + 1, A4, c4, _, by omega, by go_num, by rw [Nat.add_assoc], ⟨by simp [YL.out, Nat.add_assoc]⟩, YE2, YJ2, ⟨by rw [← Nat.add_assoc]; exact H4.out.dropB wr.heap.size⟩⟩
      case measure => simp [intOf]; omega
    · have d1 : decide ((128 : Int) ≤ u) = false := decide_eq_false (by omega)
      have d2 : decide (128 ≤ u) = false := decide_eq_false hlt
      have hu2 : (u : Int) % 256 = u := by omega
      have VE := venc_lt (u := u) (by omega)
      have YE2 := Aside0.mk (show ys ++ [(u : Int)] = xs ++ encI n by rw [← YE.out, VE])
      have YJ2 : j + 1 = ln := by rw [← YJ.out, VE]; rfl
      have H3 := Aside0.mk ((HW.out.alloc (.cells #[.int .u8 u] 5)).atR (Kd.int .u8) 5 (.slice A' (m + j) c'))
      have HC3 := Aside0.mk (C_blk (enc := Value.int .u8) (h1 := fun _ => rfl) (xs := [(u : Int)]) (by simp) (HW.out.alloc (.cells #[.int .u8 u] 5)).blk_at.1)
      clear VE
      go_wp2_with (at_builtin; refine Hw.append_int (k := .u8) rfl (.tmp 27) (.tmp 30) 28 5 1 rfl Try.underlying28 Try.infoU8 (by decide) _ ys [(u : Int)] _ 1 1 rfl rfl H3.out HC3.out (by rw [YL.out]; omega) (ys ++ [(u : Int)]) rfl (m + j + 1) (by simp [YL.out]) ?_; intro A4 c4 w4 H4)
      go_ret
      exact ⟨A4, m + j + 1, c4, rfl, by omega, by rw [← YE2.out]; exact H4.out.dropB wr.heap.size⟩
end
end Go.Proofs.Ytckdkbjobipniaa

/- The sink: numbers, texts, flags, tuples written behind. -/
set_option linter.unusedVariables false
set_option linter.unusedSimpArgs false
namespace Go.Proofs.Ytckdkbjobipniaa
open Go.RowKit Go.Proofs.YtckdkbjobipniaaW.PrintWords Go.Proofs.YtckdkbjobipniaaW.PrintLast
/-- A sink at block p, with these bytes. -/
def sinkP (p : Nat) (xs : List Int) : HP := HP.ex fun v : Value => blk p (.cells #[v] 137) * row (Kd.int .u8) 5 v xs
/-- What writing and reading give up with. -/
abbrev thrown (e : Int) : Ending := .panicked [{ v := .iface 225 (.agg #[.int .i64 e]), recovered := false }]
def bitN (b : Bool) : Int := if b then 1 else 0
def fitsT (t : ByteArray × ByteArray × ByteArray) : Prop := t.1.size ≤ 128 ∧ t.2.1.size ≤ 128 ∧ t.2.2.size ≤ 128
def encX (s : ByteArray) : List Int := encI s.size ++ numsOf s
def encT (t : ByteArray × ByteArray × ByteArray) : List Int := encI t.1.size ++ numsOf t.1 ++ (encI t.2.1.size ++ numsOf t.2.1) ++ (encI t.2.2.size ++ numsOf t.2.2)
section
variable {w0 w : World} {F : HP} {p : Nat} {xs : List Int}
theorem sink_open (h : Hw w0 w (sinkP p xs * F)) : ∃ (A : Option Addr) (n c : Nat), n = xs.length ∧ Hw w0 w (blk p (.cells #[.slice A n c] 137) * (row (Kd.int .u8) 5 (.slice A n c) xs * F)) := by
  obtain ⟨v, h⟩ := Hw.ex_mul.1 h
  obtain ⟨A, c, rfl, _⟩ := (h.as (Q := row (Kd.int .u8) 5 v xs * (blk p (.cells #[v] 137) * F)) (by ac_rfl)).row_reads
  exact ⟨A, xs.length, c, rfl, h.as (by ac_rfl)⟩
theorem sink_mk {v : Value} (h : Hw w0 w (blk p (.cells #[v] 137) * (row (Kd.int .u8) 5 v xs * F))) : Hw w0 w (sinkP p xs * F) := Hw.ex_mul.2 ⟨v, h.as (by ac_rfl)⟩
set_option maxHeartbeats 800000 in
theorem sint_ok (n : Int) (hn : i64r n) (hl : xs.length ≤ 140737488355000) (h : Hw w0 w (sinkP p xs * F)) :
    Calls Try.prog 100 #[.pointer (some ⟨p, 0, none⟩), .int .i64 n] w fun e w' => e = .returned (.tuple #[]) ∧ Hw w0 w' (sinkP p (xs ++ encI n) * F) := by
  obtain ⟨A, m, c, hm, h⟩ := sink_open h
  have H := Aside0.mk h
  have k0 := h.cell (i := 0) rfl
  have ML := Aside0.mk hm
  have hm2 : m ≤ 140737488355000 := by omega
  clear h hm hl
  go_enter Try.func100, Try.ntmps100
  go_wp2_with fail
  refine (putint_ok A m c xs n hn hm2 (Ent.of_row (e := 5) (c := c)) H.out).mono ?_
  rintro e w1 ⟨A1, m1, c1, rfl, hm1, h1⟩
  have H1 := Aside0.mk (h1.atB p)
  clear hm1
  have k1 := H1.out.cell (i := 0) rfl
  have f1 := H1.out.unfrozen 0
  have H2 := Aside0.mk (H1.out.set 0 (.slice A1 m1 c1))
  clear h1 k0
  go_wp2_with fail
  go_end0
  exact ⟨rfl, sink_mk ((H2.out.as (Q := blk p (.cells #[.slice A1 m1 c1] 137) * (row (Kd.int .u8) 5 (.slice A1 m1 c1) (xs ++ encI n) * F) * row (Kd.int .u8) 5 (.slice A m c) xs) (by
    show blk p (.cells #[.slice A1 m1 c1] 137) * _ = _
    ac_rfl)).left)⟩
set_option maxHeartbeats 800000 in
theorem stext_ok (t : ByteArray) (ht : t.size ≤ 128) (hl : xs.length ≤ 140737488354000) (h : Hw w0 w (sinkP p xs * F)) :
    Calls Try.prog 132 #[.pointer (some ⟨p, 0, none⟩), .string t] w fun e w' => e = .returned (.tuple #[]) ∧ Hw w0 w' (sinkP p (xs ++ encI t.size ++ numsOf t) * F) := by
  have d1 : decide ((128 : Int) < t.size) = false := decide_eq_false (by omega)
  have d2 : decide (128 < t.size) = false := decide_eq_false (by omega)
  have H := Aside0.mk h
  have hi : i64r (t.size : Int) := by unfold i64r; omega
  have EL := Aside0.mk (encI_len (t.size : Int) hi)
  clear h
  go_enter Try.func132, Try.ntmps132
  go_wp2_with fail
  refine (sint_ok (t.size : Int) hi (by omega) H.out).mono ?_
  rintro e w1 ⟨rfl, h1⟩
  obtain ⟨A, m, c, hm, h2⟩ := sink_open h1
  have H2 := Aside0.mk h2
  have k0 := h2.cell (i := 0) rfl
  have f0 := h2.unfrozen 0
  have H3 := Aside0.mk (h2.as (Q := row (Kd.int .u8) 5 (.slice A m c) (xs ++ encI t.size) * (blk p (.cells #[.slice A m c] 137) * F)) (by ac_rfl))
  have hm2 : m ≤ 140737488354010 := by rw [hm, List.length_append]; have := EL.out; omega
  have ML := Aside0.mk hm
  clear h1 h2 H hm
  go_wp2_with (at_builtin; refine Hw.append_text rfl (.tmp 17) (.tmp 18) 28 9 5 rfl Try.underlying28 Try.underlying9 Try.infoU8 _ (xs ++ encI t.size) t rfl rfl H3.out (m + t.size) (by rw [ML.out]) (by omega) ?_; intro A4 c4 w4 H4; have k4 := (H4.out.atB p).cell (i := 0) rfl; have f4 := (H4.out.atB p).unfrozen 0)
  go_end0
  exact ⟨rfl, sink_mk (((H4.out.atB p).set 0 (.slice A4 (m + t.size) c4)).as (Q := blk p (.cells #[.slice A4 (m + t.size) c4] 137) * (row (Kd.int .u8) 5 (.slice A4 (m + t.size) c4) (xs ++ encI t.size ++ numsOf t) * F)) (by
    show blk p (.cells #[.slice A4 (m + t.size) c4] 137) * _ = _
    ac_rfl))⟩
theorem stext_bad (t : ByteArray) (ht : 128 < t.size) :
    Calls Try.prog 132 #[.pointer (some ⟨p, 0, none⟩), .string t] w fun e w' => e = thrown 2 ∧ w = w' := by
  have d1 : decide ((128 : Int) < t.size) = true := decide_eq_true (by omega)
  have d2 : decide (128 < t.size) = true := decide_eq_true (by omega)
  go_enter Try.func132, Try.ntmps132
  go_wp2_with fail
  exact ⟨rfl, rfl, rfl⟩
theorem sflag_ok (b : Bool) (hl : xs.length ≤ 140737488354000) (h : Hw w0 w (sinkP p xs * F)) :
    Calls Try.prog 101 #[.pointer (some ⟨p, 0, none⟩), .bool b] w fun e w' => e = .returned (.tuple #[]) ∧ Hw w0 w' (sinkP p (xs ++ [bitN b]) * F) := by
  obtain ⟨A, m, c, hm, h⟩ := sink_open h
  have H := Aside0.mk (h.alloc (.cells #[.int .u8 (bitN b)] 5))
  have H1 := Aside0.mk (H.out.atR (Kd.int .u8) 5 (.slice A m c))
  have HC := Aside0.mk (C_blk (enc := Value.int .u8) (h1 := fun _ => rfl) (xs := [bitN b]) (by simp) H.out.blk_at.1)
  have k0 := h.cell (i := 0) rfl
  have ML := Aside0.mk hm
  have hm2 : m ≤ 140737488355000 := by omega
  clear h hm hl
  cases b
  all_goals
    go_enter Try.func101, Try.ntmps101
    go_wp2_with (at_builtin; refine Hw.append_int (k := .u8) rfl (.tmp 10) (.tmp 12) 28 5 1 rfl Try.underlying28 Try.infoU8 (by decide) _ xs [bitN _] _ 1 1 rfl rfl H1.out HC.out (by rw [← ML.out]; omega) (xs ++ [bitN _]) rfl (m + 1) (by simp [ML.out]) ?_; intro A4 c4 w4 H4; have k4 := (H4.out.atB p).cell (i := 0) rfl; have f4 := (H4.out.atB p).unfrozen 0)
    go_end0
    exact ⟨rfl, sink_mk ((((H4.out.dropB w.heap.size).atB p).set 0 (.slice A4 (m + 1) c4)).as (Q := blk p (.cells #[.slice A4 (m + 1) c4] 137) * (row (Kd.int .u8) 5 (.slice A4 (m + 1) c4) (xs ++ [bitN _]) * F)) (by
      show blk p (.cells #[.slice A4 (m + 1) c4] 137) * _ = _
      ac_rfl))⟩
set_option maxHeartbeats 800000 in
theorem stuple_ok (t : ByteArray × ByteArray × ByteArray) (ht : fitsT t) (hl : xs.length ≤ 140737488353000) (h : Hw w0 w (sinkP p xs * F)) :
    Calls Try.prog 106 #[.pointer (some ⟨p, 0, none⟩), .agg #[.string t.1, .string t.2.1, .string t.2.2]] w fun e w' => e = .returned (.tuple #[]) ∧ Hw w0 w' (sinkP p (xs ++ encT t) * F) := by
  obtain ⟨t1, t2, t3⟩ := t
  obtain ⟨h1, h2, h3⟩ := ht
  simp only at h1 h2 h3 ⊢
  have E1 := Aside0.mk (encI_len (t1.size : Int) (by unfold i64r; omega))
  have E2 := Aside0.mk (encI_len (t2.size : Int) (by unfold i64r; omega))
  have H1 := Aside0.mk (h.alloc (.cells #[.string t1, .string t2, .string t3] 133))
  have c0 := H1.out.cell (i := 0) rfl
  have L1 := Aside0.mk (show (xs ++ encI t1.size ++ numsOf t1).length ≤ 140737488353200 by simp only [List.length_append, numsOf_len]; have := E1.out; omega)
  have L2 := Aside0.mk (show (xs ++ encI t1.size ++ numsOf t1 ++ encI t2.size ++ numsOf t2).length ≤ 140737488353400 by simp only [List.length_append, numsOf_len]; have := E1.out; have := E2.out; omega)
  clear h
  go_enter Try.func106, Try.ntmps106
  go_wp2_with fail
  refine (stext_ok t1 h1 (by omega) (H1.out.at (sinkP p xs))).mono ?_
  rintro e w1 ⟨rfl, g1⟩
  have H2 := Aside0.mk (g1.atB w.heap.size)
  have c1 := H2.out.cell (i := 1) rfl
  clear g1 c0
  go_wp2_with fail
  refine (stext_ok t2 h2 (by have := L1.out; omega) (H2.out.at (sinkP p (xs ++ encI t1.size ++ numsOf t1)))).mono ?_
  rintro e w2 ⟨rfl, g2⟩
  have H3 := Aside0.mk (g2.atB w.heap.size)
  have c2 := H3.out.cell (i := 2) rfl
  clear g2 c1
  go_wp2_with fail
  refine (stext_ok t3 h3 (by have := L2.out; omega) (H3.out.at (sinkP p (xs ++ encI t1.size ++ numsOf t1 ++ encI t2.size ++ numsOf t2)))).mono ?_
  rintro e w3 ⟨rfl, g3⟩
  have H4 := Aside0.mk (g3.dropB w.heap.size)
  clear g3 c2
  go_wp2_with fail
  go_end0
  exact ⟨rfl, by unfold encT; simpa only [List.append_assoc] using H4.out⟩
set_option maxHeartbeats 800000 in
theorem stuple_bad (t : ByteArray × ByteArray × ByteArray) (ht : ¬ fitsT t) (hl : xs.length ≤ 140737488353000) (h : Hw w0 w (sinkP p xs * F)) :
    Calls Try.prog 106 #[.pointer (some ⟨p, 0, none⟩), .agg #[.string t.1, .string t.2.1, .string t.2.2]] w fun e w' => e = thrown 2 ∧ ∃ ys, Hw w0 w' (sinkP p ys * F) := by
  obtain ⟨t1, t2, t3⟩ := t
  unfold fitsT at ht
  simp only at ht ⊢
  have H1 := Aside0.mk (h.alloc (.cells #[.string t1, .string t2, .string t3] 133))
  have c0 := H1.out.cell (i := 0) rfl
  clear h
  go_enter Try.func106, Try.ntmps106
  go_wp2_with fail
  by_cases h1 : t1.size ≤ 128
  · have E1 := Aside0.mk (encI_len (t1.size : Int) (by unfold i64r; omega))
    have L1 := Aside0.mk (show (xs ++ encI t1.size ++ numsOf t1).length ≤ 140737488353200 by simp only [List.length_append, numsOf_len]; have := E1.out; omega)
    refine (stext_ok t1 h1 (by omega) (H1.out.at (sinkP p xs))).mono ?_
    rintro e w1 ⟨rfl, g1⟩
    have H2 := Aside0.mk (g1.atB w.heap.size)
    have c1 := H2.out.cell (i := 1) rfl
    clear g1 c0
    go_wp2_with fail
    by_cases h2 : t2.size ≤ 128
    · have E2 := Aside0.mk (encI_len (t2.size : Int) (by unfold i64r; omega))
      have L2 := Aside0.mk (show (xs ++ encI t1.size ++ numsOf t1 ++ encI t2.size ++ numsOf t2).length ≤ 140737488353400 by simp only [List.length_append, numsOf_len]; have := E1.out; have := E2.out; omega)
      refine (stext_ok t2 h2 (by have := L1.out; omega) (H2.out.at (sinkP p (xs ++ encI t1.size ++ numsOf t1)))).mono ?_
      rintro e w2 ⟨rfl, g2⟩
      have H3 := Aside0.mk (g2.atB w.heap.size)
      have c2 := H3.out.cell (i := 2) rfl
      clear g2 c1
      go_wp2_with fail
      refine (stext_bad t3 (by omega)).mono ?_
      rintro e w3 ⟨rfl, rfl⟩
      exact ⟨rfl, rfl, _, (H3.out.dropB w.heap.size)⟩
    · refine (stext_bad t2 (by omega)).mono ?_
      rintro e w3 ⟨rfl, rfl⟩
      exact ⟨rfl, rfl, _, (H2.out.dropB w.heap.size)⟩
  · refine (stext_bad t1 (by omega)).mono ?_
    rintro e w3 ⟨rfl, rfl⟩
    exact ⟨rfl, rfl, _, (H1.out.dropB w.heap.size)⟩
end
end Go.Proofs.Ytckdkbjobipniaa

/- Numbers read: GetInt. -/
set_option linter.unusedVariables false
set_option linter.unusedSimpArgs false
namespace Go.Proofs.Ytckdkbjobipniaa
open Go.RowKit Go.Proofs.YtckdkbjobipniaaW.PrintWords Go.Proofs.YtckdkbjobipniaaW.PrintLast
theorem i64_in2 (x : Int) (h0 : -9223372036854775808 ≤ x) (h1 : x ≤ 9223372036854775807) : wrap64 x = x ∧ IntKind.i64.wrap x = x := by
  refine ⟨?_, ?_⟩
  · unfold wrap64; omega
  · rw [IntKind.wrap_i64]; omega
theorem and127_table : ∀ a : Fin 256, Go.bits .and .u8 (a.val : Int) 127 = ((a.val % 128 : Nat) : Int) := by decide +kernel
theorem and127 (x : Int) (h0 : 0 ≤ x) (h1 : x ≤ 255) : Go.bits .and .u8 x 127 = ((x.toNat % 128 : Nat) : Int) := by
  obtain ⟨n, rfl⟩ : ∃ n : Nat, x = n := ⟨x.toNat, by omega⟩
  exact and127_table ⟨n, by omega⟩
theorem or64_sum (u y j : Nat) (hu : u < 2 ^ j) (hs : y * 2 ^ j + u < 18446744073709551616) : Go.bits .or .u64 (u : Int) ((y * 2 ^ j : Nat) : Int) = ((u + y * 2 ^ j : Nat) : Int) := by
  have h := (bits_nat .u64 64 (by decide) (fun n h0 h1 => by rw [IntKind.wrap_u64]; omega) u (y * 2 ^ j) (by omega) (by omega)).2
  rw [h]
  congr 1
  rw [Nat.or_comm, ← Nat.shiftLeft_eq, ← Nat.shiftLeft_add_eq_or_of_lt hu, Nat.shiftLeft_eq]
  omega
theorem xor_i64_m1 (x : Nat) (hx : x < 9223372036854775808) : Go.bits .xor .i64 (x : Int) (-1) = -(x : Int) - 1 := by
  rw [← Lib.i64_not x hx]
  show IntKind.i64.wrap ((BitVec.ofInt 64 (x : Int) ^^^ BitVec.ofInt 64 (-1)).toNat : Int) = IntKind.i64.wrap ((BitVec.ofInt 64 (-1) ^^^ BitVec.ofInt 64 (x : Int)).toNat : Int)
  rw [BitVec.xor_comm]
theorem xor_i64_0 (x : Nat) (hx : x < 9223372036854775808) : Go.bits .xor .i64 (x : Int) 0 = x := by
  show IntKind.i64.wrap ((BitVec.ofInt 64 (x : Int) ^^^ BitVec.ofInt 64 0).toNat : Int) = _
  have h2 : (BitVec.ofInt 64 (x : Int)).toNat = x := by
    rw [BitVec.ofInt_natCast, BitVec.toNat_ofNat]; exact Nat.mod_eq_of_lt (by omega)
  rw [show BitVec.ofInt 64 0 = 0#64 from rfl, BitVec.xor_zero, h2, IntKind.wrap_i64]
  omega
/-- What the last lines of GetInt reckon. -/
theorem zag_bits (v : Nat) (hv : v < 18446744073709551616) : ∃ h r : Nat, (v : Int) / 2 = h ∧ wrap64 (h : Int) = h ∧ IntKind.i64.wrap (h : Int) = h ∧ Go.bits .and .u64 (v : Int) 1 = r ∧ wrap64 (r : Int) = r ∧ IntKind.i64.wrap (r : Int) = r ∧ wrap64 (-(r : Int)) = -r ∧ IntKind.i64.wrap (-(r : Int)) = -r ∧ Go.bits .xor .i64 (h : Int) (-(r : Int)) = zag v := by
  have hr : v % 2 = 0 ∨ v % 2 = 1 := by omega
  refine ⟨v / 2, v % 2, by omega, (i64_in2 _ (by omega) (by omega)).1, (i64_in2 _ (by omega) (by omega)).2, ?_, (i64_in2 _ (by omega) (by omega)).1, (i64_in2 _ (by omega) (by omega)).2, (i64_in2 _ (by omega) (by omega)).1, (i64_in2 _ (by omega) (by omega)).2, ?_⟩
  · rw [Lib.u64_and1 _ (by omega) (by omega)]; omega
  · unfold zag
    rcases hr with hr | hr
    · rw [hr, if_pos rfl]
      exact xor_i64_0 _ (by omega)
    · rw [hr, if_neg (by decide)]
      exact xor_i64_m1 _ (by omega)
theorem pow7 (k : Nat) : (2 : Nat) ^ (7 * k) = 128 ^ k := by rw [Nat.pow_mul]
theorem pow7_le (k : Nat) (h : k ≤ 9) : (128 : Nat) ^ k ≤ 9223372036854775808 := Nat.le_trans (Nat.pow_le_pow_right (by decide) h) (by decide)
/-- One byte more. -/
theorem step_bits (u k : Nat) (x : Int) (hk : k ≤ 9) (h0 : 0 ≤ x) (h1 : x ≤ 255) (hu : u < 128 ^ k) (h9 : k = 9 → x ≤ 1) : ∃ y s v : Nat, y = x.toNat % 128 ∧ v = u + y * 128 ^ k ∧ v < 18446744073709551616 ∧ (k < 9 → v < 128 ^ (k + 1)) ∧
    Go.bits .and .u8 x 127 = y ∧ IntKind.u64.wrap (y : Int) = y ∧ IntKind.u64.wrap ((y : Int) * 2 ^ (7 * k)) = s ∧ Go.bits .or .u64 (u : Int) (s : Int) = v := by
  have hp := pow7_le k hk
  have hy : x.toNat % 128 ≤ 127 := by omega
  have hb : (x.toNat % 128) * 128 ^ k + u < 18446744073709551616 := by
    by_cases h : k = 9
    · have : x.toNat % 128 ≤ 1 := by have := h9 h; omega
      have := Nat.mul_le_mul_right (128 ^ k) this
      omega
    · have h8 : (128 : Nat) ^ k ≤ 128 ^ 8 := Nat.pow_le_pow_right (by decide) (by omega)
      have h9 : (128 : Nat) ^ 8 = 72057594037927936 := by decide
      have := Nat.mul_le_mul_right (128 ^ k) hy
      omega
  have e7 := pow7 k
  refine ⟨x.toNat % 128, (x.toNat % 128) * 128 ^ k, u + (x.toNat % 128) * 128 ^ k, rfl, rfl, by omega, ?_, and127 x h0 h1, by rw [IntKind.wrap_u64]; omega, ?_, ?_⟩
  · intro _
    have := Nat.mul_le_mul_right (128 ^ k) hy
    rw [Nat.pow_succ]
    omega
  · have e : ((x.toNat % 128 : Nat) : Int) * 2 ^ (7 * k) = (((x.toNat % 128) * 128 ^ k : Nat) : Int) := by
      rw [← e7]; push_cast; rfl
    rw [e, IntKind.wrap_u64]
    omega
  · have := or64_sum u (x.toNat % 128) (7 * k) (by rw [e7]; exact hu) (by rw [e7]; exact hb)
    rwa [e7] at this
/-- The number with which some bytes begin, how many they are, the error. -/
def gget : Nat → Nat → List Int → Int × Int × Int
  | _, _, [] => (0, 0, 10)
  | i, u, x :: r => if i = 9 ∧ 1 < x then (0, 0, 20) else if x < 128 then (if x = 0 ∧ 0 < i then (0, 0, 20) else (zag (u + x.toNat * 128 ^ i), (i : Int) + 1, 0)) else gget (i + 1) (u + (x.toNat - 128) * 128 ^ i) r
def getI (xs : List Int) : Int × Int × Int := gget 0 0 xs
set_option maxHeartbeats 1600000 in
set_option maxRecDepth 100000 in
theorem getint_ok (A : Option Addr) (n c : Nat) (xs : List Int) (w : World) (hC : (Kd.int .u8).C w A n xs) (hb : bytes xs) :
    Calls Try.prog 133 #[.slice A n c] w fun e w' => e = .returned (.tuple #[.int .i64 (getI xs).1, .int .i64 (getI xs).2.1, .int .i64 (getI xs).2.2]) ∧ w = w' := by
  have HC := Aside0.mk hC
  have HB := Aside0.mk hb
  have hm : n ≤ 9223372036854775807 := hC.2.1
  have NL := Aside0.mk hC.1
  clear hC hb
  go_enter Try.func133, Try.ntmps133
  go_wp2_with fail
  go_loopw [10, 5] (fun i v wr => ∃ (k u : Nat), k ≤ n ∧ k ≤ 9 ∧ i = .int .i64 k ∧ v = .int .u64 u ∧ w = wr ∧ Aside0 (u < 128 ^ k) ∧ Aside0 (getI xs = gget k u (xs.drop k))) (fun i _ _ => n - (intOf i).toNat)
  case atStart => exact ⟨0, 0, Nat.zero_le _, by omega, rfl, rfl, rfl, ⟨by simp⟩, ⟨by simp [getI]⟩⟩
  case round =>
    obtain ⟨k, u, hk, hk9, rfl, rfl, rfl, HU, HG⟩ := hrel
    by_cases hlt : k < n
    · obtain ⟨ad, x, rfl, hcell, hx⟩ := C_scalar_at (enc := Value.int .u8) (h1 := fun _ => rfl) HC.out k hlt
      obtain ⟨x0, x255⟩ := HB.out x (List.mem_of_getElem? hx.out)
      have hd : xs.drop k = x :: xs.drop (k + 1) := by
        have hl := (List.getElem?_eq_some_iff.1 hx.out).1
        rw [List.drop_eq_getElem_cons hl]
        congr 1
        exact (List.getElem?_eq_some_iff.1 hx.out).2
      have G1 := HG.out
      rw [hd] at G1
      have G := Aside0.mk G1
      clear G1 hd hx
      have kb : (k : Int) < n := by omega
      obtain ⟨w7, w7'⟩ := i64_in2 (7 * (k : Int)) (by omega) (by omega)
      obtain ⟨w8, w8'⟩ := i64_in2 ((k : Int) + 1) (by omega) (by omega)
      by_cases hbig : k = 9 ∧ 1 < x
      · have RES := Aside0.mk (show getI xs = (0, 0, 20) by rw [G.out]; unfold gget; rw [if_pos hbig])
        obtain ⟨h9, hx1⟩ := hbig
        have q9 : ((k : Int) == 9) = true := by simp; omega
        clear G HG HU w7 w7' w8 w8' h9
        go_wp2_with fail
        refine bodyPost_ret (v := .tuple #[.int .i64 0, .int .i64 0, .int .i64 20]) (by simp [results, Try.results133, go_sem]) rfl ⟨by rw [RES.out], rfl⟩
      · obtain ⟨y, s, v, hy, hv, hv64, hvk, e1, e2, e3, e4⟩ := step_bits u k x hk9 x0 x255 HU.out (by omega)
        have G2 := G.out
        unfold gget at G2
        rw [if_neg hbig] at G2
        have hq : ((k : Int) == 9) = false ∨ (((k : Int) == 9) = true ∧ x ≤ 1) := by
          by_cases h9 : k = 9
          · exact .inr ⟨by simp; omega, by omega⟩
          · exact .inl (by simp; omega)
        obtain ⟨h, r, z1, z2, z3, z4, z5, z6, z7, z8, z9⟩ := zag_bits v hv64
        have YY := Aside0.mk hy
        have VV := Aside0.mk hv
        have VK := Aside0.mk hvk
        have H9 : Aside0 (x < 128 ∨ k < 9) := ⟨by omega⟩
        clear G HG hy hv hvk hbig HU
        by_cases hx128 : x < 128
        · rw [if_pos hx128] at G2
          by_cases hz : x = 0 ∧ 0 < k
          · rw [if_pos hz] at G2
            have RES := Aside0.mk G2
            obtain ⟨rfl, hk0⟩ := hz
            clear G2 VK
            have hk0' : (0 : Int) < k := by omega
            clear z1 z2 z3 z4 z5 z6 z7 z8 z9
            rcases hq with hq | ⟨hq, hq1⟩
            all_goals
              go_wp2_with fail
              refine bodyPost_ret (v := .tuple #[.int .i64 0, .int .i64 0, .int .i64 20]) (by simp [results, Try.results133, go_sem]) rfl ⟨by rw [RES.out], rfl⟩
          · rw [if_neg hz] at G2
            have RES := Aside0.mk (show getI xs = (zag v, (k : Int) + 1, 0) by
              rw [G2, VV.out, YY.out, show x.toNat % 128 = x.toNat by omega])
            have hzc : (x == 0) = false ∨ ((x == 0) = true ∧ decide ((0 : Int) < k) = false ∧ decide (0 < k) = false) := by
              by_cases h0 : x = 0
              · exact .inr ⟨by simp [h0], decide_eq_false (by omega), decide_eq_false (by omega)⟩
              · exact .inl (by simp [h0])
            clear G2 hz VK
            rcases hq with hq | ⟨hq, hq1⟩
            all_goals
              rcases hzc with hzc | ⟨hzc, hz1, hz2⟩
              all_goals
                go_wp2_with fail
                refine bodyPost_ret (v := .tuple #[.int .i64 (zag v), .int .i64 ((k : Int) + 1), .int .i64 0]) (by simp [results, Try.results133, go_sem]) rfl ⟨by rw [RES.out], rfl⟩
        · rw [if_neg hx128] at G2
          have hk8 : k < 9 := by have := H9.out; omega
          have HU2 := Aside0.mk (VK.out hk8)
          have G3 := Aside0.mk (show getI xs = gget (k + 1) v (xs.drop (k + 1)) by
            rw [G2, VV.out, YY.out, show x.toNat % 128 = x.toNat - 128 by omega])
          have hq2 : ((k : Int) == 9) = false := by simp; omega
          clear G2 hq VK z1 z2 z3 z4 z5 z6 z7 z8 z9
          go_wp2_with fail
          clear w7 w7' w8 w8' e1 e2 e3 e4
          go_roundw
          case rel => exact ⟨k + 1, v, by omega, by omega, by go_num, rfl, trivial, HU2, G3⟩
          case measure => simp [intOf]; omega
    · have hk2 : k = n := by omega
      subst hk2
      have hd : xs.drop k = [] := List.drop_of_length_le (by rw [NL.out]; omega)
      have G1 := HG.out
      rw [hd] at G1
      have G := Aside0.mk G1
      clear G1 hd
      go_wp2_with fail
      refine bodyPost_ret (v := .tuple #[.int .i64 0, .int .i64 0, .int .i64 10]) (by simp [results, Try.results133, go_sem]) rfl ⟨by rw [G.out]; rfl, rfl⟩
end Go.Proofs.Ytckdkbjobipniaa

/- The sink: the closures that write one thing, and the lists. Printed by gen/codel.py. -/
set_option linter.unusedVariables false
set_option linter.unusedSimpArgs false
namespace Go.Proofs.Ytckdkbjobipniaa
open Go.RowKit Go.Proofs.YtckdkbjobipniaaW.PrintWords Go.Proofs.YtckdkbjobipniaaW.PrintLast
abbrev Tup := ByteArray × ByteArray × ByteArray
abbrev Mut := Bool × Tup
abbrev Rw := Tup × Int × Int
abbrev tupV (t : Tup) : Value := .agg #[.string t.1, .string t.2.1, .string t.2.2]
abbrev mutV (m : Mut) : Value := .agg #[.bool m.1, .string m.2.1, .string m.2.2.1, .string m.2.2.2]
abbrev rowV (r : Rw) : Value := .agg #[.string r.1.1, .string r.1.2.1, .string r.1.2.2, .int .i64 r.2.1, .int .i64 r.2.2]
def encM (m : Mut) : List Int := bitN m.1 :: encT m.2
def encR (r : Rw) : List Int := encT r.1 ++ encI r.2.1 ++ encI r.2.2
def fitsM (m : Mut) : Prop := fitsT m.2
def fitsR (r : Rw) : Prop := fitsT r.1
def okM (_ : Mut) : Prop := True
def okR (r : Rw) : Prop := i64r r.2.1 ∧ i64r r.2.2
instance (t : Tup) : Decidable (fitsT t) := by unfold fitsT; infer_instance
instance (m : Mut) : Decidable (fitsM m) := by unfold fitsM; infer_instance
instance (m : Rw) : Decidable (fitsR m) := by unfold fitsR; infer_instance
theorem encT_len (t : Tup) (h : fitsT t) : (encT t).length ≤ 414 := by
  obtain ⟨h1, h2, h3⟩ := h
  have e1 := (encI_len (t.1.size : Int) (by unfold i64r; omega)).2
  have e2 := (encI_len (t.2.1.size : Int) (by unfold i64r; omega)).2
  have e3 := (encI_len (t.2.2.size : Int) (by unfold i64r; omega)).2
  unfold encT
  simp only [List.length_append, numsOf_len]
  omega
theorem encM_len (m : Mut) (_ : okM m) (h : fitsM m) : (encM m).length ≤ 440 := by
  have := encT_len m.2 h
  unfold encM
  simp only [List.length_cons]
  omega
theorem encR_len (r : Rw) (h0 : okR r) (h : fitsR r) : (encR r).length ≤ 440 := by
  have := encT_len r.1 h
  have e1 := (encI_len r.2.1 h0.1).2
  have e2 := (encI_len r.2.2 h0.2).2
  unfold encR
  simp only [List.length_append]
  omega
theorem flat_len {α : Type} (enc : α → List Int) (b : Nat) : ∀ (l : List α), (∀ x ∈ l, (enc x).length ≤ b) → (l.flatMap enc).length ≤ b * l.length
  | [], _ => by simp
  | x :: l, h => by
    have h1 := flat_len enc b l (fun y hy => h y (.tail _ hy))
    have h2 := h x (.head _)
    rw [List.flatMap_cons, List.length_append, List.length_cons, Nat.mul_add, Nat.mul_one]
    omega
theorem flat_take {α : Type} (enc : α → List Int) {l : List α} {k : Nat} {x : α} (h : l[k]? = some x) : (l.take (k + 1)).flatMap enc = (l.take k).flatMap enc ++ enc x := by
  rw [take_snoc_of h]; simp
/-- Something is written behind, or given up. -/
def SinkPost (w0 : World) (F : HP) (p : Nat) (xs : List Int) (fits : Prop) (enc : List Int) (e : Ending) (w' : World) : Prop :=
  (fits ∧ e = .returned (.tuple #[]) ∧ Hw w0 w' (sinkP p (xs ++ enc) * F)) ∨ (¬ fits ∧ e = thrown 2 ∧ ∃ ys, Hw w0 w' (sinkP p ys * F))
abbrev capP (b p : Nat) : HP := blk b (.cells #[.pointer (some ⟨p, 0, none⟩)] 189)
section
variable {w0 w : World} {F : HP} {p b : Nat} {xs : List Int}
theorem stuple_any (t : Tup) (hl : xs.length ≤ 140737488353000) (h : Hw w0 w (sinkP p xs * F)) :
    Calls Try.prog 106 #[.pointer (some ⟨p, 0, none⟩), .agg #[.string t.1, .string t.2.1, .string t.2.2]] w (SinkPost w0 F p xs (fitsT t) (encT t)) := by
  by_cases ht : fitsT t
  · exact (stuple_ok t ht hl h).mono fun e w' ⟨h1, h2⟩ => .inl ⟨ht, h1, h2⟩
  · exact (stuple_bad t ht hl h).mono fun e w' ⟨h1, h2⟩ => .inr ⟨ht, h1, h2⟩
set_option maxHeartbeats 800000 in
theorem s2_one (m : Mut) (hl : xs.length ≤ 140737488352000) (h : Hw w0 w (sinkP p xs * (capP b p * F))) :
    Calls Try.prog 105 #[mutV m, .pointer (some ⟨b, 0, none⟩)] w (SinkPost w0 (capP b p * F) p xs (fitsM m) (encM m)) := by
  obtain ⟨d, t⟩ := m
  have H1 := Aside0.mk (h.alloc (.cells #[.bool d, .string t.1, .string t.2.1, .string t.2.2] 135))
  have c0 := H1.out.cell (i := 0) rfl
  have q0 := H1.out.cellAt b 0 (v := .pointer (some ⟨p, 0, none⟩)) rfl
  clear h
  show Calls Try.prog 105 #[.agg #[.bool d, .string t.1, .string t.2.1, .string t.2.2], .pointer (some ⟨b, 0, none⟩)] w _
  go_enter Try.func105, Try.ntmps105
  go_wp2_with fail
  refine (sflag_ok d (by omega) (H1.out.at (sinkP p xs))).mono ?_
  rintro e w1 ⟨rfl, g1⟩
  have H2 := Aside0.mk (g1.atB w.heap.size)
  have c1 := H2.out.cell (i := 1) rfl
  have c2 := H2.out.cell (i := 2) rfl
  have c3 := H2.out.cell (i := 3) rfl
  have q1 := H2.out.cellAt b 0 (v := .pointer (some ⟨p, 0, none⟩)) rfl
  clear g1 c0 q0 H1
  go_wp2_with fail
  refine (stuple_any t (by simp; omega) (H2.out.at (sinkP p (xs ++ [bitN d])))).mono ?_
  rintro e w2 (⟨hf, rfl, g2⟩ | ⟨hf, rfl, ys, g2⟩)
  · have H3 := Aside0.mk (g2.dropB w.heap.size)
    clear g2 H2 c1 c2 c3 q1
    go_wp2_with fail
    go_end0
    exact .inl ⟨hf, rfl, by unfold encM; simpa only [List.append_assoc, List.singleton_append] using H3.out⟩
  · exact ⟨rfl, .inr ⟨hf, rfl, ys, g2.dropB w.heap.size⟩⟩

set_option maxHeartbeats 800000 in
theorem s3_one (m : Mut) (hl : xs.length ≤ 140737488352000) (h : Hw w0 w (sinkP p xs * (capP b p * F))) :
    Calls Try.prog 108 #[mutV m, .pointer (some ⟨b, 0, none⟩)] w (SinkPost w0 (capP b p * F) p xs (fitsM m) (encM m)) := by
  obtain ⟨d, t⟩ := m
  have H1 := Aside0.mk (h.alloc (.cells #[.bool d, .string t.1, .string t.2.1, .string t.2.2] 143))
  have c0 := H1.out.cell (i := 0) rfl
  have q0 := H1.out.cellAt b 0 (v := .pointer (some ⟨p, 0, none⟩)) rfl
  clear h
  show Calls Try.prog 108 #[.agg #[.bool d, .string t.1, .string t.2.1, .string t.2.2], .pointer (some ⟨b, 0, none⟩)] w _
  go_enter Try.func108, Try.ntmps108
  go_wp2_with fail
  refine (sflag_ok d (by omega) (H1.out.at (sinkP p xs))).mono ?_
  rintro e w1 ⟨rfl, g1⟩
  have H2 := Aside0.mk (g1.atB w.heap.size)
  have c1 := H2.out.cell (i := 1) rfl
  have c2 := H2.out.cell (i := 2) rfl
  have c3 := H2.out.cell (i := 3) rfl
  have q1 := H2.out.cellAt b 0 (v := .pointer (some ⟨p, 0, none⟩)) rfl
  clear g1 c0 q0 H1
  go_wp2_with fail
  refine (stuple_any t (by simp; omega) (H2.out.at (sinkP p (xs ++ [bitN d])))).mono ?_
  rintro e w2 (⟨hf, rfl, g2⟩ | ⟨hf, rfl, ys, g2⟩)
  · have H3 := Aside0.mk (g2.dropB w.heap.size)
    clear g2 H2 c1 c2 c3 q1
    go_wp2_with fail
    go_end0
    exact .inl ⟨hf, rfl, by unfold encM; simpa only [List.append_assoc, List.singleton_append] using H3.out⟩
  · exact ⟨rfl, .inr ⟨hf, rfl, ys, g2.dropB w.heap.size⟩⟩

set_option maxHeartbeats 800000 in
theorem s4_one (r : Rw) (hr : okR r) (hl : xs.length ≤ 140737488352000) (h : Hw w0 w (sinkP p xs * (capP b p * F))) :
    Calls Try.prog 110 #[rowV r, .pointer (some ⟨b, 0, none⟩)] w (SinkPost w0 (capP b p * F) p xs (fitsR r) (encR r)) := by
  obtain ⟨t, s, u⟩ := r
  obtain ⟨hs, hu⟩ := hr
  simp only at hs hu
  have H1 := Aside0.mk (h.alloc (.cells #[.string t.1, .string t.2.1, .string t.2.2, .int .i64 s, .int .i64 u] 145))
  have c0 := H1.out.cell (i := 0) rfl
  have c1 := H1.out.cell (i := 1) rfl
  have c2 := H1.out.cell (i := 2) rfl
  have q0 := H1.out.cellAt b 0 (v := .pointer (some ⟨p, 0, none⟩)) rfl
  clear h
  show Calls Try.prog 110 #[.agg #[.string t.1, .string t.2.1, .string t.2.2, .int .i64 s, .int .i64 u], .pointer (some ⟨b, 0, none⟩)] w _
  go_enter Try.func110, Try.ntmps110
  go_wp2_with fail
  refine (stuple_any t (by omega) (H1.out.at (sinkP p xs))).mono ?_
  rintro e w1 (⟨hf, rfl, g1⟩ | ⟨hf, rfl, ys, g1⟩)
  · have H2 := Aside0.mk (g1.atB w.heap.size)
    have c3 := H2.out.cell (i := 3) rfl
    have q1 := H2.out.cellAt b 0 (v := .pointer (some ⟨p, 0, none⟩)) rfl
    have L1 := Aside0.mk (show (xs ++ encT t).length ≤ 140737488352500 by rw [List.length_append]; have := encT_len t hf; omega)
    have E1 := Aside0.mk (encI_len s hs)
    clear g1 c0 c1 c2 q0 H1
    go_wp2_with fail
    refine (sint_ok s hs (by have := L1.out; omega) (H2.out.at (sinkP p (xs ++ encT t)))).mono ?_
    rintro e w2 ⟨rfl, g2⟩
    have H3 := Aside0.mk (g2.atB w.heap.size)
    have c4 := H3.out.cell (i := 4) rfl
    have q2 := H3.out.cellAt b 0 (v := .pointer (some ⟨p, 0, none⟩)) rfl
    clear g2 c3 q1 H2
    go_wp2_with fail
    refine (sint_ok u hu (by rw [List.length_append]; have := L1.out; have := E1.out; omega) (H3.out.at (sinkP p (xs ++ encT t ++ encI s)))).mono ?_
    rintro e w3 ⟨rfl, g3⟩
    have H4 := Aside0.mk (g3.dropB w.heap.size)
    clear g3 c4 q2 H3
    go_wp2_with fail
    go_end0
    exact .inl ⟨hf, rfl, by unfold encR; simpa only [List.append_assoc] using H4.out⟩
  · exact ⟨rfl, .inr ⟨hf, rfl, ys, g1.dropB w.heap.size⟩⟩
set_option maxHeartbeats 800000 in
theorem s1_one (n : Int) (hn : i64r n) (hl : xs.length ≤ 140737488352000) (h : Hw w0 w (sinkP p xs * (capP b p * F))) :
    Calls Try.prog 103 #[.int .i64 n, .pointer (some ⟨b, 0, none⟩)] w fun e w' => e = .returned (.tuple #[]) ∧ Hw w0 w' (sinkP p (xs ++ encI n) * (capP b p * F)) := by
  have H1 := Aside0.mk h
  have q0 := H1.out.cellAt b 0 (v := .pointer (some ⟨p, 0, none⟩)) rfl
  clear h
  go_enter Try.func103, Try.ntmps103
  go_wp2_with fail
  refine (sint_ok n hn (by omega) H1.out).mono ?_
  rintro e w1 ⟨rfl, g1⟩
  have H2 := Aside0.mk g1
  clear g1 H1 q0
  go_wp2_with fail
  go_end0
  exact ⟨rfl, H2.out⟩
end
end Go.Proofs.Ytckdkbjobipniaa

/- The sink: the lists of a message, one contract each. Printed by gen/codel.py. -/
set_option linter.unusedVariables false
set_option linter.unusedSimpArgs false
namespace Go.Proofs.Ytckdkbjobipniaa
open Go.RowKit Go.Proofs.YtckdkbjobipniaaW.PrintWords Go.Proofs.YtckdkbjobipniaaW.PrintLast
abbrev KTup := Kd.pair Kd.string (Kd.pair Kd.string Kd.string)
abbrev KMut := Kd.pair Kd.bool KTup
abbrev KRow := Kd.pair KTup (Kd.pair (Kd.int .i64) (Kd.int .i64))
abbrev mutC (m : Mut) : List Value := [.bool m.1, .string m.2.1, .string m.2.2.1, .string m.2.2.2]
abbrev rowC (r : Rw) : List Value := [.string r.1.1, .string r.1.2.1, .string r.1.2.2, .int .i64 r.2.1, .int .i64 r.2.2]
theorem KMut_cells {w : World} {m : Mut} {cs : List Value} (h : KMut.K w m cs) : cs = mutC m := by
  obtain ⟨c0, c1, rfl, h0, c2, c3, rfl, h2, c4, c5, rfl, h4, h5⟩ := h
  have h0 : c0 = [.bool m.1] := h0
  have h2 : c2 = [.string m.2.1] := h2
  have h4 : c4 = [.string m.2.2.1] := h4
  have h5 : c5 = [.string m.2.2.2] := h5
  subst h0 h2 h4 h5
  rfl
theorem KRow_cells {w : World} {m : Rw} {cs : List Value} (h : KRow.K w m cs) : cs = rowC m := by
  obtain ⟨c0, c1, rfl, ⟨c2, c3, rfl, h2, c4, c5, rfl, h4, h5⟩, c6, c7, rfl, h6, h7⟩ := h
  have h2 : c2 = [.string m.1.1] := h2
  have h4 : c4 = [.string m.1.2.1] := h4
  have h5 : c5 = [.string m.1.2.2] := h5
  have h6 : c6 = [.int .i64 m.2.1] := h6
  have h7 : c7 = [.int .i64 m.2.2] := h7
  subst h2 h4 h5 h6 h7
  rfl
/-- The cells of an element of a row of structs. -/
theorem elem_at {α : Type} {d : Kd α} {w0 w : World} {A : Option Addr} {n : Nat} {ts : List α} (cs : α → List Value) (hcs : ∀ {w x l}, d.K w x l → l = cs x) (h : d.C w0 A n ts) (hb : Below w0.heap.size w0 w) (k : Nat) (hk : k < n) :
    ∃ ad x, A = some ad ∧ Aside0 (ts[k]? = some x) ∧ ∀ (i : Nat) (v : Value), (cs x)[i]? = some v → w.cell? (ad.add (k * d.sz + i)) = some v := by
  obtain ⟨ad, e, hc⟩ := h.2.2 (by omega)
  have hl : k < ts.length := by have := h.1; omega
  obtain ⟨c, hs, hK, hcell⟩ := hc k _ (List.getElem?_eq_getElem hl)
  obtain rfl := hcs hK
  exact ⟨ad, ts[k], e, ⟨List.getElem?_eq_getElem hl⟩, fun i v hv => pw_cell_below hb (hcell i v hv)⟩
section
variable {w0 w : World} {F : HP} {p b : Nat} {xs : List Int}

set_option maxHeartbeats 3200000 in
set_option maxRecDepth 100000 in
theorem slist2_ok (A : Option Addr) (n c : Nat) (ms : List Mut) (hC : KMut.C w0 A n ms) (hok : ∀ m ∈ ms, okM m) (hl : xs.length ≤ 140737487000000) (h : Hw w0 w (sinkP p xs * (capP b p * F))) :
    Calls Try.prog 104 #[.pointer (some ⟨p, 0, none⟩), .slice A n c, .func (.func 105) #[] #[.pointer (some ⟨b, 0, none⟩)]] w
      (SinkPost w0 (capP b p * F) p xs (n ≤ 1024 ∧ ∀ m ∈ ms, fitsM m) (encI n ++ ms.flatMap encM)) := by
  have HC := Aside0.mk hC
  have OK := Aside0.mk hok
  have hnl := hC.1
  have H1 := Aside0.mk h
  clear hC h hok
  by_cases hlong : 1024 < n
  · have d1 : decide ((1024 : Int) < n) = true := decide_eq_true (by omega)
    have d2 : decide (1024 < n) = true := decide_eq_true hlong
    clear hnl
    go_enter Try.func104, Try.ntmps104
    go_wp2_with fail
    exact ⟨rfl, .inr ⟨fun hh => by omega, rfl, _, H1.out⟩⟩
  · have d1 : decide ((1024 : Int) < n) = false := decide_eq_false (by omega)
    have d2 : decide (1024 < n) = false := decide_eq_false hlong
    have hi : i64r (n : Int) := by unfold i64r; omega
    have EN := Aside0.mk (encI_len n hi)
    have NL := Aside0.mk hnl
    have hn1024 : n ≤ 1024 := by omega
    clear hnl
    go_enter Try.func104, Try.ntmps104
    go_wp2_with fail
    refine (sint_ok n hi (by omega) H1.out).mono ?_
    rintro e w1 ⟨rfl, g1⟩
    have H2 := Aside0.mk g1
    clear g1 H1 d1 d2
    go_wp2_with fail
    go_loopw [19] (fun i wr => ∃ k : Nat, k ≤ n ∧ i = .int .i64 k ∧ Aside0 (∀ m ∈ ms.take k, fitsM m) ∧ Aside0 (Hw w0 wr (sinkP p (xs ++ encI n ++ (ms.take k).flatMap encM) * (capP b p * F)))) (fun i _ => n - (intOf i).toNat)
    case atStart => exact ⟨0, Nat.zero_le _, rfl, ⟨by intro m hm; simp at hm⟩, ⟨by simpa using H2.out⟩⟩
    case round =>
      obtain ⟨k, hk, rfl, HF, HW⟩ := hrel
      clear H2
      by_cases hlt : k < n
      · obtain ⟨ad, m, rfl, hm, hcl⟩ := elem_at mutC @KMut_cells HC.out HW.out.below k hlt
        have hkk := flat_take encM hm.out
        have FT := Aside0.mk hkk
        have TK := Aside0.mk (take_snoc_of hm.out)
        have LB := Aside0.mk (show (xs ++ encI n ++ (ms.take k).flatMap encM).length ≤ 140737487900000 by
          have h1 := flat_len encM 440 (ms.take k) (fun m hm => encM_len m (OK.out m (List.mem_of_mem_take hm)) (HF.out m hm))
          rw [List.length_take] at h1
          simp only [List.length_append]
          have := EN.out
          omega)
        have hmo := OK.out m (List.mem_of_getElem? hm.out)
        have MO := Aside0.mk hmo
        have HMm := hm
        have k0 : wr.cell? (ad.add (k * 4 + 0)) = _ := hcl 0 _ rfl
        have k1 : wr.cell? (ad.add (k * 4 + 1)) = _ := hcl 1 _ rfl
        have k2 : wr.cell? (ad.add (k * 4 + 2)) = _ := hcl 2 _ rfl
        have k3 : wr.cell? (ad.add (k * 4 + 3)) = _ := hcl 3 _ rfl
        rw [add_field _ _ _ (by decide)] at k1
        rw [add_field _ _ _ (by decide)] at k2
        rw [add_field _ _ _ (by decide)] at k3
        have k0' : wr.cell? (ad.add (k * 4)) = _ := k0
        clear k0 hcl hkk hm hmo
        have HT := Aside0.mk (HW.out.alloc (.cells #[.bool m.1, .string m.2.1, .string m.2.2.1, .string m.2.2.2] 135))
        have t0 := HT.out.cellAt wr.heap.size 0 (v := .bool m.1) rfl
        have t1 := HT.out.cellAt wr.heap.size 1 (v := .string m.2.1) rfl
        have t2 := HT.out.cellAt wr.heap.size 2 (v := .string m.2.2.1) rfl
        have t3 := HT.out.cellAt wr.heap.size 3 (v := .string m.2.2.2) rfl
        have HT2 := Aside0.mk (HT.out.as (Q := sinkP p (xs ++ encI n ++ (ms.take k).flatMap encM) * (capP b p * (blk wr.heap.size (.cells #[.bool m.1, .string m.2.1, .string m.2.2.1, .string m.2.2.2] 135) * F))) (by ac_rfl))
        clear HT HW
        go_wp2_with fail
        refine (s2_one m (by have := LB.out; omega) HT2.out).mono ?_
        rintro e w4 (⟨hf, rfl, g4⟩ | ⟨hf, rfl, ys, g4⟩)
        · have HF2 := Aside0.mk (show ∀ x ∈ ms.take (k + 1), fitsM x by
            rw [TK.out]
            intro x hx
            rcases List.mem_append.1 hx with hx | hx
            · exact HF.out x hx
            · have hx : x = m := by simpa using hx
              rw [hx]; exact hf)
          have H4 := Aside0.mk (g4.as (Q := sinkP p (xs ++ encI n ++ (ms.take k).flatMap encM ++ encM m) * (capP b p * F) * blk wr.heap.size (.cells #[.bool m.1, .string m.2.1, .string m.2.2.1, .string m.2.2.2] 135)) (by ac_rfl)).left
          clear g4 hf HF t0 t1 t2 t3 k1 k2 k3 k0'
          go_wp2_with fail
          go_roundw
          case rel => exact ⟨k + 1, by omega, by go_num, HF2, ⟨by rw [FT.out, ← List.append_assoc]; exact H4.out⟩⟩
          case measure => simp [intOf]; omega
        · exact ⟨rfl, .inr ⟨fun hh => hf (hh.2 m (List.mem_of_getElem? HMm.out)), rfl, ys, (g4.as (Q := sinkP p ys * (capP b p * F) * blk wr.heap.size (.cells #[.bool m.1, .string m.2.1, .string m.2.2.1, .string m.2.2.2] 135)) (by ac_rfl)).left⟩⟩
      · have hk2 : k = n := by omega
        have et : ms.take k = ms := List.take_of_length_le (by rw [NL.out]; omega)
        rw [et] at HF HW
        clear et
        go_wp2_with fail
        go_end0
        exact .inl ⟨⟨hn1024, HF.out⟩, rfl, by rw [← List.append_assoc]; exact HW.out⟩

set_option maxHeartbeats 3200000 in
set_option maxRecDepth 100000 in
theorem slist3_ok (A : Option Addr) (n c : Nat) (ms : List Mut) (hC : KMut.C w0 A n ms) (hok : ∀ m ∈ ms, okM m) (hl : xs.length ≤ 140737487000000) (h : Hw w0 w (sinkP p xs * (capP b p * F))) :
    Calls Try.prog 107 #[.pointer (some ⟨p, 0, none⟩), .slice A n c, .func (.func 108) #[] #[.pointer (some ⟨b, 0, none⟩)]] w
      (SinkPost w0 (capP b p * F) p xs (n ≤ 1024 ∧ ∀ m ∈ ms, fitsM m) (encI n ++ ms.flatMap encM)) := by
  have HC := Aside0.mk hC
  have OK := Aside0.mk hok
  have hnl := hC.1
  have H1 := Aside0.mk h
  clear hC h hok
  by_cases hlong : 1024 < n
  · have d1 : decide ((1024 : Int) < n) = true := decide_eq_true (by omega)
    have d2 : decide (1024 < n) = true := decide_eq_true hlong
    clear hnl
    go_enter Try.func107, Try.ntmps107
    go_wp2_with fail
    exact ⟨rfl, .inr ⟨fun hh => by omega, rfl, _, H1.out⟩⟩
  · have d1 : decide ((1024 : Int) < n) = false := decide_eq_false (by omega)
    have d2 : decide (1024 < n) = false := decide_eq_false hlong
    have hi : i64r (n : Int) := by unfold i64r; omega
    have EN := Aside0.mk (encI_len n hi)
    have NL := Aside0.mk hnl
    have hn1024 : n ≤ 1024 := by omega
    clear hnl
    go_enter Try.func107, Try.ntmps107
    go_wp2_with fail
    refine (sint_ok n hi (by omega) H1.out).mono ?_
    rintro e w1 ⟨rfl, g1⟩
    have H2 := Aside0.mk g1
    clear g1 H1 d1 d2
    go_wp2_with fail
    go_loopw [19] (fun i wr => ∃ k : Nat, k ≤ n ∧ i = .int .i64 k ∧ Aside0 (∀ m ∈ ms.take k, fitsM m) ∧ Aside0 (Hw w0 wr (sinkP p (xs ++ encI n ++ (ms.take k).flatMap encM) * (capP b p * F)))) (fun i _ => n - (intOf i).toNat)
    case atStart => exact ⟨0, Nat.zero_le _, rfl, ⟨by intro m hm; simp at hm⟩, ⟨by simpa using H2.out⟩⟩
    case round =>
      obtain ⟨k, hk, rfl, HF, HW⟩ := hrel
      clear H2
      by_cases hlt : k < n
      · obtain ⟨ad, m, rfl, hm, hcl⟩ := elem_at mutC @KMut_cells HC.out HW.out.below k hlt
        have hkk := flat_take encM hm.out
        have FT := Aside0.mk hkk
        have TK := Aside0.mk (take_snoc_of hm.out)
        have LB := Aside0.mk (show (xs ++ encI n ++ (ms.take k).flatMap encM).length ≤ 140737487900000 by
          have h1 := flat_len encM 440 (ms.take k) (fun m hm => encM_len m (OK.out m (List.mem_of_mem_take hm)) (HF.out m hm))
          rw [List.length_take] at h1
          simp only [List.length_append]
          have := EN.out
          omega)
        have hmo := OK.out m (List.mem_of_getElem? hm.out)
        have MO := Aside0.mk hmo
        have HMm := hm
        have k0 : wr.cell? (ad.add (k * 4 + 0)) = _ := hcl 0 _ rfl
        have k1 : wr.cell? (ad.add (k * 4 + 1)) = _ := hcl 1 _ rfl
        have k2 : wr.cell? (ad.add (k * 4 + 2)) = _ := hcl 2 _ rfl
        have k3 : wr.cell? (ad.add (k * 4 + 3)) = _ := hcl 3 _ rfl
        rw [add_field _ _ _ (by decide)] at k1
        rw [add_field _ _ _ (by decide)] at k2
        rw [add_field _ _ _ (by decide)] at k3
        have k0' : wr.cell? (ad.add (k * 4)) = _ := k0
        clear k0 hcl hkk hm hmo
        have HT := Aside0.mk (HW.out.alloc (.cells #[.bool m.1, .string m.2.1, .string m.2.2.1, .string m.2.2.2] 143))
        have t0 := HT.out.cellAt wr.heap.size 0 (v := .bool m.1) rfl
        have t1 := HT.out.cellAt wr.heap.size 1 (v := .string m.2.1) rfl
        have t2 := HT.out.cellAt wr.heap.size 2 (v := .string m.2.2.1) rfl
        have t3 := HT.out.cellAt wr.heap.size 3 (v := .string m.2.2.2) rfl
        have HT2 := Aside0.mk (HT.out.as (Q := sinkP p (xs ++ encI n ++ (ms.take k).flatMap encM) * (capP b p * (blk wr.heap.size (.cells #[.bool m.1, .string m.2.1, .string m.2.2.1, .string m.2.2.2] 143) * F))) (by ac_rfl))
        clear HT HW
        go_wp2_with fail
        refine (s3_one m (by have := LB.out; omega) HT2.out).mono ?_
        rintro e w4 (⟨hf, rfl, g4⟩ | ⟨hf, rfl, ys, g4⟩)
        · have HF2 := Aside0.mk (show ∀ x ∈ ms.take (k + 1), fitsM x by
            rw [TK.out]
            intro x hx
            rcases List.mem_append.1 hx with hx | hx
            · exact HF.out x hx
            · have hx : x = m := by simpa using hx
              rw [hx]; exact hf)
          have H4 := Aside0.mk (g4.as (Q := sinkP p (xs ++ encI n ++ (ms.take k).flatMap encM ++ encM m) * (capP b p * F) * blk wr.heap.size (.cells #[.bool m.1, .string m.2.1, .string m.2.2.1, .string m.2.2.2] 143)) (by ac_rfl)).left
          clear g4 hf HF t0 t1 t2 t3 k1 k2 k3 k0'
          go_wp2_with fail
          go_roundw
          case rel => exact ⟨k + 1, by omega, by go_num, HF2, ⟨by rw [FT.out, ← List.append_assoc]; exact H4.out⟩⟩
          case measure => simp [intOf]; omega
        · exact ⟨rfl, .inr ⟨fun hh => hf (hh.2 m (List.mem_of_getElem? HMm.out)), rfl, ys, (g4.as (Q := sinkP p ys * (capP b p * F) * blk wr.heap.size (.cells #[.bool m.1, .string m.2.1, .string m.2.2.1, .string m.2.2.2] 143)) (by ac_rfl)).left⟩⟩
      · have hk2 : k = n := by omega
        have et : ms.take k = ms := List.take_of_length_le (by rw [NL.out]; omega)
        rw [et] at HF HW
        clear et
        go_wp2_with fail
        go_end0
        exact .inl ⟨⟨hn1024, HF.out⟩, rfl, by rw [← List.append_assoc]; exact HW.out⟩

set_option maxHeartbeats 3200000 in
set_option maxRecDepth 100000 in
theorem slist4_ok (A : Option Addr) (n c : Nat) (ms : List Rw) (hC : KRow.C w0 A n ms) (hok : ∀ m ∈ ms, okR m) (hl : xs.length ≤ 140737487000000) (h : Hw w0 w (sinkP p xs * (capP b p * F))) :
    Calls Try.prog 109 #[.pointer (some ⟨p, 0, none⟩), .slice A n c, .func (.func 110) #[] #[.pointer (some ⟨b, 0, none⟩)]] w
      (SinkPost w0 (capP b p * F) p xs (n ≤ 1024 ∧ ∀ m ∈ ms, fitsR m) (encI n ++ ms.flatMap encR)) := by
  have HC := Aside0.mk hC
  have OK := Aside0.mk hok
  have hnl := hC.1
  have H1 := Aside0.mk h
  clear hC h hok
  by_cases hlong : 1024 < n
  · have d1 : decide ((1024 : Int) < n) = true := decide_eq_true (by omega)
    have d2 : decide (1024 < n) = true := decide_eq_true hlong
    clear hnl
    go_enter Try.func109, Try.ntmps109
    go_wp2_with fail
    exact ⟨rfl, .inr ⟨fun hh => by omega, rfl, _, H1.out⟩⟩
  · have d1 : decide ((1024 : Int) < n) = false := decide_eq_false (by omega)
    have d2 : decide (1024 < n) = false := decide_eq_false hlong
    have hi : i64r (n : Int) := by unfold i64r; omega
    have EN := Aside0.mk (encI_len n hi)
    have NL := Aside0.mk hnl
    have hn1024 : n ≤ 1024 := by omega
    clear hnl
    go_enter Try.func109, Try.ntmps109
    go_wp2_with fail
    refine (sint_ok n hi (by omega) H1.out).mono ?_
    rintro e w1 ⟨rfl, g1⟩
    have H2 := Aside0.mk g1
    clear g1 H1 d1 d2
    go_wp2_with fail
    go_loopw [19] (fun i wr => ∃ k : Nat, k ≤ n ∧ i = .int .i64 k ∧ Aside0 (∀ m ∈ ms.take k, fitsR m) ∧ Aside0 (Hw w0 wr (sinkP p (xs ++ encI n ++ (ms.take k).flatMap encR) * (capP b p * F)))) (fun i _ => n - (intOf i).toNat)
    case atStart => exact ⟨0, Nat.zero_le _, rfl, ⟨by intro m hm; simp at hm⟩, ⟨by simpa using H2.out⟩⟩
    case round =>
      obtain ⟨k, hk, rfl, HF, HW⟩ := hrel
      clear H2
      by_cases hlt : k < n
      · obtain ⟨ad, m, rfl, hm, hcl⟩ := elem_at rowC @KRow_cells HC.out HW.out.below k hlt
        have hkk := flat_take encR hm.out
        have FT := Aside0.mk hkk
        have TK := Aside0.mk (take_snoc_of hm.out)
        have LB := Aside0.mk (show (xs ++ encI n ++ (ms.take k).flatMap encR).length ≤ 140737487900000 by
          have h1 := flat_len encR 440 (ms.take k) (fun m hm => encR_len m (OK.out m (List.mem_of_mem_take hm)) (HF.out m hm))
          rw [List.length_take] at h1
          simp only [List.length_append]
          have := EN.out
          omega)
        have hmo := OK.out m (List.mem_of_getElem? hm.out)
        have MO := Aside0.mk hmo
        have HMm := hm
        have k0 : wr.cell? (ad.add (k * 5 + 0)) = _ := hcl 0 _ rfl
        have k1 : wr.cell? (ad.add (k * 5 + 1)) = _ := hcl 1 _ rfl
        have k2 : wr.cell? (ad.add (k * 5 + 2)) = _ := hcl 2 _ rfl
        have k3 : wr.cell? (ad.add (k * 5 + 3)) = _ := hcl 3 _ rfl
        have k4 : wr.cell? (ad.add (k * 5 + 4)) = _ := hcl 4 _ rfl
        rw [add_field _ _ _ (by decide)] at k1
        rw [add_field _ _ _ (by decide)] at k2
        rw [add_field _ _ _ (by decide)] at k3
        rw [add_field _ _ _ (by decide)] at k4
        have k0' : wr.cell? (ad.add (k * 5)) = _ := k0
        clear k0 hcl hkk hm hmo
        have HT := Aside0.mk (HW.out.alloc (.cells #[.string m.1.1, .string m.1.2.1, .string m.1.2.2, .int .i64 m.2.1, .int .i64 m.2.2] 145))
        have t0 := HT.out.cellAt wr.heap.size 0 (v := .string m.1.1) rfl
        have t1 := HT.out.cellAt wr.heap.size 1 (v := .string m.1.2.1) rfl
        have t2 := HT.out.cellAt wr.heap.size 2 (v := .string m.1.2.2) rfl
        have t3 := HT.out.cellAt wr.heap.size 3 (v := .int .i64 m.2.1) rfl
        have t4 := HT.out.cellAt wr.heap.size 4 (v := .int .i64 m.2.2) rfl
        have HT2 := Aside0.mk (HT.out.as (Q := sinkP p (xs ++ encI n ++ (ms.take k).flatMap encR) * (capP b p * (blk wr.heap.size (.cells #[.string m.1.1, .string m.1.2.1, .string m.1.2.2, .int .i64 m.2.1, .int .i64 m.2.2] 145) * F))) (by ac_rfl))
        clear HT HW
        go_wp2_with fail
        refine (s4_one m MO.out (by have := LB.out; omega) HT2.out).mono ?_
        rintro e w4 (⟨hf, rfl, g4⟩ | ⟨hf, rfl, ys, g4⟩)
        · have HF2 := Aside0.mk (show ∀ x ∈ ms.take (k + 1), fitsR x by
            rw [TK.out]
            intro x hx
            rcases List.mem_append.1 hx with hx | hx
            · exact HF.out x hx
            · have hx : x = m := by simpa using hx
              rw [hx]; exact hf)
          have H4 := Aside0.mk (g4.as (Q := sinkP p (xs ++ encI n ++ (ms.take k).flatMap encR ++ encR m) * (capP b p * F) * blk wr.heap.size (.cells #[.string m.1.1, .string m.1.2.1, .string m.1.2.2, .int .i64 m.2.1, .int .i64 m.2.2] 145)) (by ac_rfl)).left
          clear g4 hf HF t0 t1 t2 t3 t4 k1 k2 k3 k4 k0'
          go_wp2_with fail
          go_roundw
          case rel => exact ⟨k + 1, by omega, by go_num, HF2, ⟨by rw [FT.out, ← List.append_assoc]; exact H4.out⟩⟩
          case measure => simp [intOf]; omega
        · exact ⟨rfl, .inr ⟨fun hh => hf (hh.2 m (List.mem_of_getElem? HMm.out)), rfl, ys, (g4.as (Q := sinkP p ys * (capP b p * F) * blk wr.heap.size (.cells #[.string m.1.1, .string m.1.2.1, .string m.1.2.2, .int .i64 m.2.1, .int .i64 m.2.2] 145)) (by ac_rfl)).left⟩⟩
      · have hk2 : k = n := by omega
        have et : ms.take k = ms := List.take_of_length_le (by rw [NL.out]; omega)
        rw [et] at HF HW
        clear et
        go_wp2_with fail
        go_end0
        exact .inl ⟨⟨hn1024, HF.out⟩, rfl, by rw [← List.append_assoc]; exact HW.out⟩
set_option maxHeartbeats 3200000 in
set_option maxRecDepth 100000 in
theorem slist1_ok (A : Option Addr) (n c : Nat) (ms : List Int) (hC : (Kd.int .i64).C w0 A n ms) (hok : ∀ m ∈ ms, i64r m) (hl : xs.length ≤ 140737487000000) (h : Hw w0 w (sinkP p xs * (capP b p * F))) :
    Calls Try.prog 102 #[.pointer (some ⟨p, 0, none⟩), .slice A n c, .func (.func 103) #[] #[.pointer (some ⟨b, 0, none⟩)]] w
      (SinkPost w0 (capP b p * F) p xs (n ≤ 1024) (encI n ++ ms.flatMap encI)) := by
  have HC := Aside0.mk hC
  have OK := Aside0.mk hok
  have hnl := hC.1
  have H1 := Aside0.mk h
  clear hC h hok
  by_cases hlong : 1024 < n
  · have d1 : decide ((1024 : Int) < n) = true := decide_eq_true (by omega)
    have d2 : decide (1024 < n) = true := decide_eq_true hlong
    clear hnl
    go_enter Try.func102, Try.ntmps102
    go_wp2_with fail
    exact ⟨rfl, .inr ⟨fun hh => by omega, rfl, _, H1.out⟩⟩
  · have d1 : decide ((1024 : Int) < n) = false := decide_eq_false (by omega)
    have d2 : decide (1024 < n) = false := decide_eq_false hlong
    have hi : i64r (n : Int) := by unfold i64r; omega
    have EN := Aside0.mk (encI_len n hi)
    have NL := Aside0.mk hnl
    have hn1024 : n ≤ 1024 := by omega
    clear hnl
    go_enter Try.func102, Try.ntmps102
    go_wp2_with fail
    refine (sint_ok n hi (by omega) H1.out).mono ?_
    rintro e w1 ⟨rfl, g1⟩
    have H2 := Aside0.mk g1
    clear g1 H1 d1 d2
    go_wp2_with fail
    go_loopw [19] (fun i wr => ∃ k : Nat, k ≤ n ∧ i = .int .i64 k ∧ Aside0 (Hw w0 wr (sinkP p (xs ++ encI n ++ (ms.take k).flatMap encI) * (capP b p * F)))) (fun i _ => n - (intOf i).toNat)
    case atStart => exact ⟨0, Nat.zero_le _, rfl, ⟨by simpa using H2.out⟩⟩
    case round =>
      obtain ⟨k, hk, rfl, HW⟩ := hrel
      clear H2
      by_cases hlt : k < n
      · obtain ⟨ad, m, rfl, hcell, hm⟩ := C_scalar_at (enc := Value.int .i64) (h1 := fun _ => rfl) (Kd.C_below HC.out HW.out.below) k hlt
        have FT := Aside0.mk (flat_take encI hm.out)
        have LB := Aside0.mk (show (xs ++ encI n ++ (ms.take k).flatMap encI).length ≤ 140737487900000 by
          have h1 := flat_len encI 10 (ms.take k) (fun m hm => (encI_len m (OK.out m (List.mem_of_mem_take hm))).2)
          rw [List.length_take] at h1
          simp only [List.length_append]
          have := EN.out
          omega)
        have MO := Aside0.mk (OK.out m (List.mem_of_getElem? hm.out))
        clear hm
        go_wp2_with fail
        refine (s1_one m MO.out (by have := LB.out; omega) HW.out).mono ?_
        rintro e w4 ⟨rfl, g4⟩
        have H4 := Aside0.mk g4
        clear g4 HW hcell
        go_wp2_with fail
        go_roundw
        case rel => exact ⟨k + 1, by omega, by go_num, ⟨by rw [FT.out, ← List.append_assoc]; exact H4.out⟩⟩
        case measure => simp [intOf]; omega
      · have hk2 : k = n := by omega
        have et : ms.take k = ms := List.take_of_length_le (by rw [NL.out]; omega)
        rw [et] at HW
        clear et
        go_wp2_with fail
        go_end0
        exact .inl ⟨hn1024, rfl, by rw [← List.append_assoc]; exact HW.out⟩
end
end Go.Proofs.Ytckdkbjobipniaa

/- What catches a message's giving up. -/
set_option linter.unusedVariables false
set_option linter.unusedSimpArgs false
namespace Go.Proofs.Ytckdkbjobipniaa
open Go.RowKit Go.Proofs.YtckdkbjobipniaaW.PrintWords Go.Proofs.YtckdkbjobipniaaW.PrintLast
theorem assertB_yes (v : Value) (W : World) : (Instr.typeAssert (.iface 225 v) 20 225 true).run Try.prog W = .ok (.tuple #[v, .bool true]) W := by kernel_rfl
theorem assertB_nil (W : World) : (Instr.typeAssert .nilIface 20 225 true).run Try.prog W = .ok (.tuple #[.agg #[.int .i64 0], .bool false]) W := by kernel_rfl
set_option maxRecDepth 100000 in
theorem caught_idle (q : Nat) (w : World) :
    CallsD Try.prog 99 #[.pointer (some ⟨q, 0, none⟩)] .returning w fun e u' w' => u' = .returning ∧ e = .returned (.tuple #[]) ∧ w' = w.alloc (.cells #[.int .i64 0] 225) := by
  have h1 := assertB_nil
  refine callsD_of_wpS Try.func99 rfl fun c₀ cs hu => ?_
  apply wpS_seq
  apply wpS_region
  simp [wpOpsS, go_sem, recoverD, hu, Try.ntmps99, Exit.thenS, h1]
  apply wpS_seq
  apply wpS_region
  simp [wpOpsS, go_sem, hu, Exit.thenS, Array.replicate]
  refine wpS_cond (t := false) (by simp [Act.eval, Array.replicate]) ?_
  simp only [Bool.false_eq_true, if_false]
  refine wpS_of_wp (wp_skip ?_)
  cases c₀
  simp_all [bodyPostS, results, Try.results99]
set_option maxRecDepth 100000 in
theorem caught_some (q : Nat) (x : Value) (n : Int) (w : World) (hc : w.cell? ⟨q, 0, none⟩ = some x) (hz : w.frozen? ⟨q, 0, none⟩ = false) (hq : q < w.heap.size) :
    CallsD Try.prog 99 #[.pointer (some ⟨q, 0, none⟩)] (.panicking [{ v := .iface 225 (.agg #[.int .i64 n]), recovered := false }]) w fun e u' w' =>
      u' = .panicking [{ v := .iface 225 (.agg #[.int .i64 n]), recovered := true }] ∧ e = .returned (.tuple #[]) ∧ w' = (w.alloc (.cells #[.int .i64 n] 225)).setCell ⟨q, 0, none⟩ (.int .i64 n) := by
  have h1 := assertB_yes
  have h2 : (w.alloc (.cells #[.int .i64 n] 225)).cell? ⟨q, 0, none⟩ = some x := by rw [World.cell?_alloc_past _ _ _ hq]; exact hc
  have h3 : (w.alloc (.cells #[.int .i64 n] 225)).frozen? ⟨q, 0, none⟩ = false := by rw [World.frozen?_alloc_past _ _ _ hq]; exact hz
  refine callsD_of_wpS Try.func99 rfl fun c₀ cs hu => ?_
  apply wpS_seq
  apply wpS_region
  simp [wpOpsS, go_sem, recoverD, hu, Try.ntmps99, Exit.thenS, h1]
  apply wpS_seq
  apply wpS_region
  simp [wpOpsS, go_sem, hu, Exit.thenS, Array.replicate]
  refine wpS_cond (t := true) (by simp [Act.eval, Array.replicate]) ?_
  simp only [if_true]
  apply wpS_region
  simp [wpOpsS, go_sem, h2, h3, bodyPostS, results, Try.results99]
end Go.Proofs.Ytckdkbjobipniaa

/- A message written: message, Encode. -/
set_option linter.unusedVariables false
set_option linter.unusedSimpArgs false
namespace Go.Proofs.Ytckdkbjobipniaa
open Go.RowKit Go.Proofs.YtckdkbjobipniaaW.PrintWords Go.Proofs.YtckdkbjobipniaaW.PrintLast
structure Msg where
  kind : Int
  src : Int
  dst : Int
  id : Int
  rev : Int
  epoch : Int
  slot : Int
  flag : Bool
  nodes : List Int
  muts : List Mut
  pre : List Mut
  rows : List Rw
def Msg.ints (m : Msg) : List Int := [m.kind, m.src, m.dst, m.id, m.rev, m.epoch, m.slot]
/-- A message, as a value: its lists' heads. -/
abbrev msgV (m : Msg) (s1 s2 s3 s4 : Hdr) : Value := .agg #[.int .i64 m.kind, .int .i64 m.src, .int .i64 m.dst, .int .i64 m.id, .int .i64 m.rev, .int .i64 m.epoch, .int .i64 m.slot, .bool m.flag, .slice s1.1 s1.2.1 s1.2.2, .slice s2.1 s2.2.1 s2.2.2, .slice s3.1 s3.2.1 s3.2.2, .slice s4.1 s4.2.1 s4.2.2]
structure MsgC (w : World) (m : Msg) (s1 s2 s3 s4 : Hdr) : Prop where
  c1 : (Kd.int .i64).C w s1.1 s1.2.1 m.nodes
  c2 : KMut.C w s2.1 s2.2.1 m.muts
  c3 : KMut.C w s3.1 s3.2.1 m.pre
  c4 : KRow.C w s4.1 s4.2.1 m.rows
structure MsgOk (m : Msg) : Prop where
  ints : ∀ n ∈ m.ints, i64r n
  nodes : ∀ n ∈ m.nodes, i64r n
  rows : ∀ r ∈ m.rows, okR r
structure MsgFits (m : Msg) : Prop where
  l1 : m.nodes.length ≤ 1024
  l2 : m.muts.length ≤ 1024 ∧ ∀ x ∈ m.muts, fitsM x
  l3 : m.pre.length ≤ 1024 ∧ ∀ x ∈ m.pre, fitsM x
  l4 : m.rows.length ≤ 1024 ∧ ∀ x ∈ m.rows, fitsR x
def enc1 (l : List Int) : List Int := encI l.length ++ l.flatMap encI
def enc2 (l : List Mut) : List Int := encI l.length ++ l.flatMap encM
def enc4 (l : List Rw) : List Int := encI l.length ++ l.flatMap encR
def encMsg (m : Msg) : List Int := m.ints.flatMap encI ++ [bitN m.flag] ++ enc1 m.nodes ++ enc2 m.muts ++ enc2 m.pre ++ enc4 m.rows
theorem MsgC.below {w w' : World} {m : Msg} {s1 s2 s3 s4 : Hdr} (h : MsgC w m s1 s2 s3 s4) (hb : Below w.heap.size w w') : MsgC w' m s1 s2 s3 s4 := ⟨Kd.C_below h.c1 hb, Kd.C_below h.c2 hb, Kd.C_below h.c3 hb, Kd.C_below h.c4 hb⟩
theorem enc1_len (l : List Int) (h1 : l.length ≤ 1024) (h : ∀ n ∈ l, i64r n) : (enc1 l).length ≤ 1000000 := by
  have e := (encI_len (l.length : Int) (by unfold i64r; omega)).2
  have := flat_len encI 10 l (fun n hn => (encI_len n (h n hn)).2)
  unfold enc1; rw [List.length_append]; omega
theorem enc2_len (l : List Mut) (h1 : l.length ≤ 1024) (h : ∀ n ∈ l, fitsM n) : (enc2 l).length ≤ 1000000 := by
  have e := (encI_len (l.length : Int) (by unfold i64r; omega)).2
  have := flat_len encM 440 l (fun n hn => encM_len n trivial (h n hn))
  unfold enc2; rw [List.length_append]; omega
theorem ints_len (m : Msg) (h : MsgOk m) (k : Nat) : ((m.ints.take k).flatMap encI).length ≤ 70 := by
  have := flat_len encI 10 (m.ints.take k) (fun n hn => (encI_len n (h.ints n (List.mem_of_mem_take hn))).2)
  rw [List.length_take] at this
  have e : m.ints.length = 7 := rfl
  omega
section
variable {w0 w : World} {F : HP} {p : Nat}
set_option maxHeartbeats 6400000 in
set_option maxRecDepth 100000 in
theorem smessage_ok (m : Msg) (A1 A2 A3 A4 : Option Addr) (n1 n2 n3 n4 c1 c2 c3 c4 : Nat) (hC : MsgC w0 m (A1, n1, c1) (A2, n2, c2) (A3, n3, c3) (A4, n4, c4)) (hok : MsgOk m) (h : Hw w0 w (sinkP p [] * F)) :
    Calls Try.prog 70 #[.pointer (some ⟨p, 0, none⟩), msgV m (A1, n1, c1) (A2, n2, c2) (A3, n3, c3) (A4, n4, c4)] w fun e w' =>
      (MsgFits m ∧ e = .returned (.int .i64 0) ∧ Hw w0 w' (sinkP p (encMsg m) * F)) ∨ (¬ MsgFits m ∧ e = .returned (.int .i64 2) ∧ ∃ ys, Hw w0 w' (sinkP p ys * F)) := by
  obtain ⟨q1, q2, q3, q4⟩ := hC
  have C1 := Aside0.mk q1
  have C2 := Aside0.mk q2
  have C3 := Aside0.mk q3
  have C4 := Aside0.mk q4
  have OK := Aside0.mk hok
  have hmf : ∀ (fn : Fn) (first cap : Array Value) (w : World), (Instr.makeFunc fn first cap).run Try.prog w = .ok (.func fn first cap) w := fun _ _ _ _ => rfl
  have N1 := Aside0.mk q1.1
  have N2 := Aside0.mk q2.1
  have N3 := Aside0.mk q3.1
  have N4 := Aside0.mk q4.1
  simp only at C1 C2 C3 C4 N1 N2 N3 N4
  clear q1 q2 q3 q4 hok
  have INT := Aside0.mk (show m.ints = [m.kind, m.src, m.dst, m.id, m.rev, m.epoch, m.slot] from rfl)
  obtain ⟨kind, src, dst, id, rev, epoch, slot, flag, nodes, muts, pre, rows⟩ := m
  simp only at C1 C2 C3 C4 N1 N2 N3 N4 INT
  have H1 := Aside0.mk (((h.alloc (.cells #[.pointer (some ⟨p, 0, none⟩)] 189)).alloc (.cells #[.int .i64 kind, .int .i64 src, .int .i64 dst, .int .i64 id, .int .i64 rev, .int .i64 epoch, .int .i64 slot, .bool flag, .slice A1 n1 c1, .slice A2 n2 c2, .slice A3 n3 c3, .slice A4 n4 c4] 27)).alloc (.cells #[.int .i64 0] 30))
  simp only [World.size_alloc] at H1
  have L7 := Aside0.mk (H1.out.alloc (.cells #[.int .i64 kind, .int .i64 src, .int .i64 dst, .int .i64 id, .int .i64 rev, .int .i64 epoch, .int .i64 slot] 2))
  simp only [World.size_alloc] at L7
  clear h
  go_enter_defers Try.func70, Try.ntmps70
  go_wp2_with fail
  obtain ⟨q, hq⟩ : ∃ q, q = w.heap.size := ⟨_, rfl⟩
  have R0 := Aside0.mk (L7.out.as (Q := sinkP p [] * (capP w.heap.size p * (blk (w.heap.size + 1 + 1 + 1) (.cells #[.int .i64 kind, .int .i64 src, .int .i64 dst, .int .i64 id, .int .i64 rev, .int .i64 epoch, .int .i64 slot] 2) * (blk (w.heap.size + 1) (.cells #[.int .i64 kind, .int .i64 src, .int .i64 dst, .int .i64 id, .int .i64 rev, .int .i64 epoch, .int .i64 slot, .bool flag, .slice A1 n1 c1, .slice A2 n2 c2, .slice A3 n3 c3, .slice A4 n4 c4] 27) * (blk (w.heap.size + 1 + 1) (.cells #[.int .i64 0] 30) * F))))) (by unfold capP; ac_rfl))
  rw [← hq] at R0 ⊢
  clear hq H1 L7
  have INTL := Aside0.mk (show ∀ k : Nat, (([kind, src, dst, id, rev, epoch, slot] : List Int).take k |>.flatMap encI).length ≤ 70 from fun k => ints_len _ OK.out k)
  go_loopw [23] (fun i wr => ∃ k : Nat, k ≤ 7 ∧ i = .int .i64 k ∧ Aside0 (Hw w0 wr (sinkP p ((([kind, src, dst, id, rev, epoch, slot] : List Int).take k).flatMap encI) * (capP q p * (blk (q + 1 + 1 + 1) (.cells #[.int .i64 kind, .int .i64 src, .int .i64 dst, .int .i64 id, .int .i64 rev, .int .i64 epoch, .int .i64 slot] 2) * (blk (q + 1) (.cells #[.int .i64 kind, .int .i64 src, .int .i64 dst, .int .i64 id, .int .i64 rev, .int .i64 epoch, .int .i64 slot, .bool flag, .slice A1 n1 c1, .slice A2 n2 c2, .slice A3 n3 c3, .slice A4 n4 c4] 27) * (blk (q + 1 + 1) (.cells #[.int .i64 0] 30) * F))))))) (fun i _ => 7 - (intOf i).toNat)
  case atStart => exact ⟨0, Nat.zero_le _, rfl, R0⟩
  case round =>
    obtain ⟨k, hk, rfl, HW⟩ := hrel
    clear R0
    by_cases hlt : k < 7
    · obtain ⟨x, hx⟩ : ∃ x, ([kind, src, dst, id, rev, epoch, slot] : List Int)[k]? = some x := ⟨_, List.getElem?_eq_getElem (by simpa using hlt)⟩
      have k0 := HW.out.cellAt q 0 (v := .pointer (some ⟨p, 0, none⟩)) rfl
      have k1 := HW.out.cellAt (q + 1 + 1 + 1) k (v := .int .i64 x) (by
        have := congrArg (Option.map (Value.int .i64)) hx
        rw [← List.getElem?_map] at this
        simp only [cellOf, List.getElem?_toArray]
        exact this)
      have hxi := OK.out.ints x (by rw [INT.out]; exact List.mem_of_getElem? hx)
      have FT := Aside0.mk (flat_take encI hx)
      clear hx
      go_wp2_with fail
      refine (sint_ok x hxi (by have := INTL.out k; omega) HW.out).mono ?_
      rintro e w4 ⟨rfl, g4⟩
      have H4 := Aside0.mk g4
      clear g4 HW k0 k1
      go_wp2_with fail
      go_roundw
      case rel => exact ⟨k + 1, by omega, by go_num, ⟨by rw [FT.out]; exact H4.out⟩⟩
      case measure => simp [intOf]; omega
    · have hk2 : k = 7 := by omega
      subst hk2
      have hI : ([kind, src, dst, id, rev, epoch, slot] : List Int).take 7 = [kind, src, dst, id, rev, epoch, slot] := rfl
      have L70 := INTL.out 7
      rw [hI] at HW L70
      rw [← INT.out] at HW L70
      obtain ⟨x0, hx0⟩ : ∃ x0, x0 = (Msg.mk kind src dst id rev epoch slot flag nodes muts pre rows).ints.flatMap encI := ⟨_, rfl⟩
      rw [← hx0] at HW L70
      have X0 := Aside0.mk hx0
      clear hI hx0 hlt hk INTL
      have k0 := HW.out.cellAt q 0 (v := .pointer (some ⟨p, 0, none⟩)) rfl
      have k1 := HW.out.cellAt (q + 1) 7 (v := .bool flag) rfl
      go_wp2_with fail
      refine (sflag_ok flag (by omega) HW.out).mono ?_
      rintro e w4 ⟨rfl, g4⟩
      have H4 := Aside0.mk g4
      clear g4 HW k0 k1
      have k0 := H4.out.cellAt q 0 (v := .pointer (some ⟨p, 0, none⟩)) rfl
      have k1 := H4.out.cellAt (q + 1) 8 (v := .slice A1 n1 c1) rfl
      go_wp2_with fail
      refine (slist1_ok A1 n1 c1 nodes C1.out OK.out.nodes (by simp; omega) H4.out).mono ?_
      rintro e w5 (⟨f1, rfl, g5⟩ | ⟨f1, rfl, ys, g5⟩)
      · have H5 := Aside0.mk g5
        have hE1 : encI n1 ++ nodes.flatMap encI = enc1 nodes := by unfold enc1; rw [N1.out]
        rw [hE1] at H5
        have B1 := Aside0.mk (enc1_len nodes (by rw [N1.out]; exact f1) OK.out.nodes)
        clear g5 H4 k0 k1 hE1
        have k0 := H5.out.cellAt q 0 (v := .pointer (some ⟨p, 0, none⟩)) rfl
        have k1 := H5.out.cellAt (q + 1) 9 (v := .slice A2 n2 c2) rfl
        go_wp2_with fail
        refine (slist2_ok A2 n2 c2 muts C2.out (fun _ _ => trivial) (by have := B1.out; simp only [List.length_append, List.length_singleton]; omega) H5.out).mono ?_
        rintro e w6 (⟨f2, rfl, g6⟩ | ⟨f2, rfl, ys, g6⟩)
        · have H6 := Aside0.mk g6
          have hE2 : encI n2 ++ muts.flatMap encM = enc2 muts := by unfold enc2; rw [N2.out]
          rw [hE2] at H6
          have B2 := Aside0.mk (enc2_len muts (by rw [N2.out]; exact f2.1) f2.2)
          clear g6 H5 k0 k1 hE2
          have k0 := H6.out.cellAt q 0 (v := .pointer (some ⟨p, 0, none⟩)) rfl
          have k1 := H6.out.cellAt (q + 1) 10 (v := .slice A3 n3 c3) rfl
          go_wp2_with fail
          refine (slist3_ok A3 n3 c3 pre C3.out (fun _ _ => trivial) (by have := B1.out; have := B2.out; simp only [List.length_append, List.length_singleton]; omega) H6.out).mono ?_
          rintro e w7 (⟨f3, rfl, g7⟩ | ⟨f3, rfl, ys, g7⟩)
          · have H7 := Aside0.mk g7
            have hE3 : encI n3 ++ pre.flatMap encM = enc2 pre := by unfold enc2; rw [N3.out]
            rw [hE3] at H7
            have B3 := Aside0.mk (enc2_len pre (by rw [N3.out]; exact f3.1) f3.2)
            clear g7 H6 k0 k1 hE3
            have k0 := H7.out.cellAt q 0 (v := .pointer (some ⟨p, 0, none⟩)) rfl
            have k1 := H7.out.cellAt (q + 1) 11 (v := .slice A4 n4 c4) rfl
            go_wp2_with fail
            refine (slist4_ok A4 n4 c4 rows C4.out OK.out.rows (by have := B1.out; have := B2.out; have := B3.out; simp only [List.length_append, List.length_singleton]; omega) H7.out).mono ?_
            rintro e w8 (⟨f4, rfl, g8⟩ | ⟨f4, rfl, ys, g8⟩)
            · have H8 := Aside0.mk (g8.atB (q + 1 + 1))
              have hE4 : encI n4 ++ rows.flatMap encR = enc4 rows := by unfold enc4; rw [N4.out]
              rw [hE4] at H8
              clear g8 H7 k0 k1 hE4
              have k2 := H8.out.cell (i := 0) (v := .int .i64 0) rfl
              have f2' := H8.out.unfrozen 0
              have HZ := Aside0.mk (H8.out.set 0 (.int .i64 0))
              go_wp2_with fail
              refine leaves_cons (f := 99) (args := #[.pointer (some ⟨q + 1 + 1, 0, none⟩)]) (by simp) (by simp [go_sem]) ?_
              refine (caught_idle (q + 1 + 1) _).mono ?_
              rintro e u' w9 ⟨rfl, rfl, rfl⟩
              have HY := Aside0.mk ((HZ.out.alloc (.cells #[.int .i64 0] 225)).atB (q + 1 + 1))
              have z0 := HY.out.cell (i := 0) (v := .int .i64 0) rfl
              have EM : encMsg ⟨kind, src, dst, id, rev, epoch, slot, flag, nodes, muts, pre, rows⟩ = x0 ++ [bitN flag] ++ enc1 nodes ++ enc2 muts ++ enc2 pre ++ enc4 rows := by rw [X0.out]; rfl
              refine ⟨.int .i64 0, by simp [results, Try.results70, go_sem, z0], .inl ⟨⟨by rw [N1.out]; exact f1, ⟨by rw [N2.out]; exact f2.1, f2.2⟩, ⟨by rw [N3.out]; exact f3.1, f3.2⟩, ⟨by rw [N4.out]; exact f4.1, f4.2⟩⟩, rfl, ?_⟩⟩
              rw [EM]
              exact (HY.out.right.right.as (Q := sinkP p (x0 ++ [bitN flag] ++ enc1 nodes ++ enc2 muts ++ enc2 pre ++ enc4 rows) * F * (capP q p * (blk (q + 1 + 1 + 1) (.cells #[.int .i64 kind, .int .i64 src, .int .i64 dst, .int .i64 id, .int .i64 rev, .int .i64 epoch, .int .i64 slot] 2) * blk (q + 1) (.cells #[.int .i64 kind, .int .i64 src, .int .i64 dst, .int .i64 id, .int .i64 rev, .int .i64 epoch, .int .i64 slot, .bool flag, .slice A1 n1 c1, .slice A2 n2 c2, .slice A3 n3 c3, .slice A4 n4 c4] 27)))) (by unfold capP; ac_rfl)).left
            · have H8 := Aside0.mk g8
              clear g8 H7 k0 k1
              have k2 := (H8.out.atB (q + 1 + 1)).cell (i := 0) (v := .int .i64 0) rfl
              have zf := (H8.out.atB (q + 1 + 1)).unfrozen 0
              have l2 := (H8.out.atB (q + 1 + 1)).lt
              refine leaves_cons (f := 99) (args := #[.pointer (some ⟨q + 1 + 1, 0, none⟩)]) (by simp) (by simp [go_sem]) ?_
              refine (caught_some (q + 1 + 1) _ 2 _ k2 zf l2).mono ?_
              rintro e u' w6 ⟨rfl, rfl, rfl⟩
              have HZ := Aside0.mk (((H8.out.alloc (.cells #[.int .i64 2] 225)).atB (q + 1 + 1)).set 0 (.int .i64 2))
              have z0 := HZ.out.cell (i := 0) (v := .int .i64 2) rfl
              refine ⟨.int .i64 2, by simp [results, Try.results70, go_sem, z0], .inr ⟨fun hh => f4 ⟨by rw [← N4.out]; exact hh.l4.1, hh.l4.2⟩, rfl, ys, ((HZ.out.at (sinkP p ys)).as (Q := sinkP p ys * F * (blk w8.heap.size (.cells #[.int .i64 2] 225) * (capP q p * (blk (q + 1 + 1 + 1) (.cells #[.int .i64 kind, .int .i64 src, .int .i64 dst, .int .i64 id, .int .i64 rev, .int .i64 epoch, .int .i64 slot] 2) * (blk (q + 1) (.cells #[.int .i64 kind, .int .i64 src, .int .i64 dst, .int .i64 id, .int .i64 rev, .int .i64 epoch, .int .i64 slot, .bool flag, .slice A1 n1 c1, .slice A2 n2 c2, .slice A3 n3 c3, .slice A4 n4 c4] 27) * blk (q + 1 + 1) (.cells #[.int .i64 2] 30)))))) (by
                show sinkP p ys * _ = _
                unfold capP
                ac_rfl)).left⟩⟩
          · have H7 := Aside0.mk g7
            clear g7 H6 k0 k1
            have k2 := (H7.out.atB (q + 1 + 1)).cell (i := 0) (v := .int .i64 0) rfl
            have zf := (H7.out.atB (q + 1 + 1)).unfrozen 0
            have l2 := (H7.out.atB (q + 1 + 1)).lt
            refine leaves_cons (f := 99) (args := #[.pointer (some ⟨q + 1 + 1, 0, none⟩)]) (by simp) (by simp [go_sem]) ?_
            refine (caught_some (q + 1 + 1) _ 2 _ k2 zf l2).mono ?_
            rintro e u' w6 ⟨rfl, rfl, rfl⟩
            have HZ := Aside0.mk (((H7.out.alloc (.cells #[.int .i64 2] 225)).atB (q + 1 + 1)).set 0 (.int .i64 2))
            have z0 := HZ.out.cell (i := 0) (v := .int .i64 2) rfl
            refine ⟨.int .i64 2, by simp [results, Try.results70, go_sem, z0], .inr ⟨fun hh => f3 ⟨by rw [← N3.out]; exact hh.l3.1, hh.l3.2⟩, rfl, ys, ((HZ.out.at (sinkP p ys)).as (Q := sinkP p ys * F * (blk w7.heap.size (.cells #[.int .i64 2] 225) * (capP q p * (blk (q + 1 + 1 + 1) (.cells #[.int .i64 kind, .int .i64 src, .int .i64 dst, .int .i64 id, .int .i64 rev, .int .i64 epoch, .int .i64 slot] 2) * (blk (q + 1) (.cells #[.int .i64 kind, .int .i64 src, .int .i64 dst, .int .i64 id, .int .i64 rev, .int .i64 epoch, .int .i64 slot, .bool flag, .slice A1 n1 c1, .slice A2 n2 c2, .slice A3 n3 c3, .slice A4 n4 c4] 27) * blk (q + 1 + 1) (.cells #[.int .i64 2] 30)))))) (by
              show sinkP p ys * _ = _
              unfold capP
              ac_rfl)).left⟩⟩
        · have H6 := Aside0.mk g6
          clear g6 H5 k0 k1
          have k2 := (H6.out.atB (q + 1 + 1)).cell (i := 0) (v := .int .i64 0) rfl
          have zf := (H6.out.atB (q + 1 + 1)).unfrozen 0
          have l2 := (H6.out.atB (q + 1 + 1)).lt
          refine leaves_cons (f := 99) (args := #[.pointer (some ⟨q + 1 + 1, 0, none⟩)]) (by simp) (by simp [go_sem]) ?_
          refine (caught_some (q + 1 + 1) _ 2 _ k2 zf l2).mono ?_
          rintro e u' w6 ⟨rfl, rfl, rfl⟩
          have HZ := Aside0.mk (((H6.out.alloc (.cells #[.int .i64 2] 225)).atB (q + 1 + 1)).set 0 (.int .i64 2))
          have z0 := HZ.out.cell (i := 0) (v := .int .i64 2) rfl
          refine ⟨.int .i64 2, by simp [results, Try.results70, go_sem, z0], .inr ⟨fun hh => f2 ⟨by rw [← N2.out]; exact hh.l2.1, hh.l2.2⟩, rfl, ys, ((HZ.out.at (sinkP p ys)).as (Q := sinkP p ys * F * (blk w6.heap.size (.cells #[.int .i64 2] 225) * (capP q p * (blk (q + 1 + 1 + 1) (.cells #[.int .i64 kind, .int .i64 src, .int .i64 dst, .int .i64 id, .int .i64 rev, .int .i64 epoch, .int .i64 slot] 2) * (blk (q + 1) (.cells #[.int .i64 kind, .int .i64 src, .int .i64 dst, .int .i64 id, .int .i64 rev, .int .i64 epoch, .int .i64 slot, .bool flag, .slice A1 n1 c1, .slice A2 n2 c2, .slice A3 n3 c3, .slice A4 n4 c4] 27) * blk (q + 1 + 1) (.cells #[.int .i64 2] 30)))))) (by
            show sinkP p ys * _ = _
            unfold capP
            ac_rfl)).left⟩⟩
      · have H5 := Aside0.mk g5
        clear g5 H4 k0 k1
        have k2 := (H5.out.atB (q + 1 + 1)).cell (i := 0) (v := .int .i64 0) rfl
        have zf := (H5.out.atB (q + 1 + 1)).unfrozen 0
        have l2 := (H5.out.atB (q + 1 + 1)).lt
        refine leaves_cons (f := 99) (args := #[.pointer (some ⟨q + 1 + 1, 0, none⟩)]) (by simp) (by simp [go_sem]) ?_
        refine (caught_some (q + 1 + 1) _ 2 _ k2 zf l2).mono ?_
        rintro e u' w6 ⟨rfl, rfl, rfl⟩
        have HZ := Aside0.mk (((H5.out.alloc (.cells #[.int .i64 2] 225)).atB (q + 1 + 1)).set 0 (.int .i64 2))
        have z0 := HZ.out.cell (i := 0) (v := .int .i64 2) rfl
        refine ⟨.int .i64 2, by simp [results, Try.results70, go_sem, z0], .inr ⟨fun hh => f1 (by rw [← N1.out]; exact hh.l1), rfl, ys, ((HZ.out.at (sinkP p ys)).as (Q := sinkP p ys * F * (blk w5.heap.size (.cells #[.int .i64 2] 225) * (capP q p * (blk (q + 1 + 1 + 1) (.cells #[.int .i64 kind, .int .i64 src, .int .i64 dst, .int .i64 id, .int .i64 rev, .int .i64 epoch, .int .i64 slot] 2) * (blk (q + 1) (.cells #[.int .i64 kind, .int .i64 src, .int .i64 dst, .int .i64 id, .int .i64 rev, .int .i64 epoch, .int .i64 slot, .bool flag, .slice A1 n1 c1, .slice A2 n2 c2, .slice A3 n3 c3, .slice A4 n4 c4] 27) * blk (q + 1 + 1) (.cells #[.int .i64 2] 30)))))) (by
          show sinkP p ys * _ = _
          unfold capP
          ac_rfl)).left⟩⟩
end
/-- What Encode answers. -/
noncomputable def encGood (m : Msg) : Bool := @decide (MsgFits m ∧ (encMsg m).length ≤ 16384) (Classical.propDecidable _)
noncomputable def encTxt (m : Msg) : List Int := if encGood m = true then encMsg m else []
noncomputable def encErr (m : Msg) : Int := if encGood m = true then 0 else 2
theorem encGood_true {m : Msg} (h1 : MsgFits m) (h2 : (encMsg m).length ≤ 16384) : encTxt m = encMsg m ∧ encErr m = 0 := by
  have : encGood m = true := @decide_eq_true _ (Classical.propDecidable _) ⟨h1, h2⟩
  unfold encTxt encErr
  rw [if_pos this, if_pos this]
  exact ⟨rfl, rfl⟩
theorem encGood_false {m : Msg} (h : ¬ (MsgFits m ∧ (encMsg m).length ≤ 16384)) : encTxt m = [] ∧ encErr m = 2 := by
  have : ¬ encGood m = true := fun hh => h (@of_decide_eq_true _ (Classical.propDecidable _) hh)
  unfold encTxt encErr
  rw [if_neg this, if_neg this]
  exact ⟨rfl, rfl⟩
set_option maxHeartbeats 1600000 in
set_option maxRecDepth 100000 in
theorem encode_ok (m : Msg) (A1 A2 A3 A4 : Option Addr) (n1 n2 n3 n4 c1 c2 c3 c4 : Nat) (w : World) (hC : MsgC w m (A1, n1, c1) (A2, n2, c2) (A3, n3, c3) (A4, n4, c4)) (hok : MsgOk m) :
    Calls Try.prog 12 #[msgV m (A1, n1, c1) (A2, n2, c2) (A3, n3, c3) (A4, n4, c4)] w fun e w' =>
      ∃ (A : Option Addr) (n c : Nat), e = .returned (.tuple #[.slice A n c, .int .i64 (encErr m)]) ∧ n = (encTxt m).length ∧ Hw w w' (row (Kd.int .u8) 5 (.slice A n c) (encTxt m) * HP.emp) := by
  have CC := Aside0.mk hC
  have OK := Aside0.mk hok
  clear hC hok
  have H1 := Aside0.mk ((((Hw.start w).alloc (.cells #[.int .i64 m.kind, .int .i64 m.src, .int .i64 m.dst, .int .i64 m.id, .int .i64 m.rev, .int .i64 m.epoch, .int .i64 m.slot, .bool m.flag, .slice A1 n1 c1, .slice A2 n2 c2, .slice A3 n3 c3, .slice A4 n4 c4] 27)).alloc (.cells #[.slice none 0 0] 137)).as (by rfl))
  simp only [World.size_alloc] at H1
  have k := fun (i : Nat) (v : Value) (hv : (#[.int .i64 m.kind, .int .i64 m.src, .int .i64 m.dst, .int .i64 m.id, .int .i64 m.rev, .int .i64 m.epoch, .int .i64 m.slot, .bool m.flag, .slice A1 n1 c1, .slice A2 n2 c2, .slice A3 n3 c3, .slice A4 n4 c4] : Array Value)[i]? = some v) => (H1.out.atB w.heap.size).cell hv
  have k0 := k 0 _ rfl
  have k1 := k 1 _ rfl
  have k2 := k 2 _ rfl
  have k3 := k 3 _ rfl
  have k4 := k 4 _ rfl
  have k5 := k 5 _ rfl
  have k6 := k 6 _ rfl
  have k7 := k 7 _ rfl
  have k8 := k 8 _ rfl
  have k9 := k 9 _ rfl
  have k10 := k 10 _ rfl
  have k11 := k 11 _ rfl
  clear k
  show Calls Try.prog 12 #[.agg #[.int .i64 m.kind, .int .i64 m.src, .int .i64 m.dst, .int .i64 m.id, .int .i64 m.rev, .int .i64 m.epoch, .int .i64 m.slot, .bool m.flag, .slice A1 n1 c1, .slice A2 n2 c2, .slice A3 n3 c3, .slice A4 n4 c4]] w _
  go_enter Try.func12, Try.ntmps12
  go_wp2_with fail
  clear k0 k1 k2 k3 k4 k5 k6 k7 k8 k9 k10 k11
  refine (smessage_ok m A1 A2 A3 A4 n1 n2 n3 n4 c1 c2 c3 c4 CC.out OK.out (sink_mk (v := .slice none 0 0) ((H1.out.row_nil (Kd.int .u8) 5).as (HP.left_comm _ _ _)))).mono ?_
  rintro e w1 (⟨hf, rfl, g1⟩ | ⟨hf, rfl, ys, g1⟩)
  · obtain ⟨A, n, c, hn, g2⟩ := sink_open g1
    have H2 := Aside0.mk g2
    have k0 := g2.cell (i := 0) (v := .slice A n c) rfl
    have NL := Aside0.mk hn
    have hm : n ≤ 9223372036854775807 := ((g2.as (Q := row (Kd.int .u8) 5 (.slice A n c) (encMsg m) * (blk (w.heap.size + 1) (.cells #[.slice A n c] 137) * _)) (HP.left_comm _ _ _)).row_C.2.2).2.1
    clear g1 g2 hn H1
    by_cases hlong : 16384 < n
    · have hE := encGood_false (m := m) (fun hh => by have := NL.out; have := hh.2; omega)
      have E1 := Aside0.mk hE
      have d1 : decide ((16384 : Int) < n) = true := decide_eq_true (by omega)
      have d2 : decide (16384 < n) = true := decide_eq_true hlong
      clear hE
      go_wp2_with fail
      go_ret2
      exact ⟨none, 0, 0, by rw [E1.out.2]; rfl, by rw [E1.out.1]; rfl, by rw [E1.out.1]; exact (show Hw w w1 HP.emp from ⟨H2.out.below, fun _ => none, fun _ => rfl, fun i o h => by cases h⟩).row_nil _ _⟩
    · have hE := encGood_true (m := m) hf (by have := NL.out; omega)
      have E1 := Aside0.mk hE
      have d1 : decide ((16384 : Int) < n) = false := decide_eq_false (by omega)
      have d2 : decide (16384 < n) = false := decide_eq_false hlong
      clear hE
      go_wp2_with fail
      go_ret2
      exact ⟨A, n, c, by rw [E1.out.2]; rfl, by rw [E1.out.1]; exact NL.out, by rw [E1.out.1]; exact ((H2.out.atR (Kd.int .u8) 5 (.slice A n c)).left).as (HP.mul_emp _).symm⟩
  · have hE := encGood_false (m := m) (fun hh => hf hh.1)
    have E1 := Aside0.mk hE
    have H2 := Aside0.mk g1
    clear hE g1 H1
    go_wp2_with fail
    go_ret2
    exact ⟨none, 0, 0, by rw [E1.out.2]; rfl, by rw [E1.out.1]; rfl, by rw [E1.out.1]; exact (show Hw w w1 HP.emp from ⟨H2.out.below, fun _ => none, fun _ => rfl, fun i o h => by cases h⟩).row_nil _ _⟩
end Go.Proofs.Ytckdkbjobipniaa
