/- Numbers written: PutInt. -/
import Derived.Test.YtloiclalcepbeaaCodeN
import Derived.Test.YtloiclalcepbeaaChecked
import Derived.Test.YtloiclalcepbeaaWLast
set_option linter.unusedVariables false
set_option linter.unusedSimpArgs false
namespace Go.Proofs.Ytloiclalcepbeaa
open Go.RowKit Go.Proofs.YtloiclalcepbeaaW.PrintWords Go.Proofs.YtloiclalcepbeaaW.PrintLast
theorem Try.infoU8 : (Try.prog.info? 5).map (fun i => (i.zero, i.size, i.bytes)) = some (some (.int .u8 0), 1, 1) := by kernel_rfl
section
variable {w0 w : World} {F : HP}
set_option maxHeartbeats 1600000 in
set_option maxRecDepth 100000 in
theorem putint_ok (A : Option Addr) (m c : Nat) (xs : List Int) (n : Int) (hn : i64r n) (hm : m ≤ 140737488355000) (hE : Ent w0 F (fun w => (Kd.int .u8).C w A m xs)) (h : Hw w0 w F) :
    Calls Try.prog 22 #[.slice A m c, .int .i64 n] w fun e w' => ∃ (A' : Option Addr) (m' c' : Nat), e = .returned (.slice A' m' c') ∧ m' = m + (encI n).length ∧ Hw w0 w' (row (Kd.int .u8) 5 (.slice A' m' c') (xs ++ encI n) * F) := by
  have hl := (hE.use h).1
  have HE := Aside0.mk hE
  have H1 := Aside0.mk (Hw.row_empty (k := .u8) (h.alloc (.cells #[] 5)))
  have HC := Aside0.mk (hE.mul.use H1.out)
  clear h hE
  have hz := zig_bits n hn
  have hzl := zig_lt n hn
  obtain ⟨ln, hln, hl1, hl10⟩ : ∃ ln, ln = (encI n).length ∧ 1 ≤ ln ∧ ln ≤ 10 := ⟨_, rfl, (encI_len n hn).1, (encI_len n hn).2⟩
  have LN := Aside0.mk hln
  obtain ⟨z, hzz⟩ : ∃ z, z = zig n := ⟨_, rfl⟩
  have EN : Aside0 (encI n = venc z) := ⟨by rw [hzz]; rfl⟩
  rw [← hzz] at hz hzl
  rw [← hln]
  have HL := Aside0.mk hl
  clear hzz hln hl
  go_enter Try.func22, Try.ntmps22
  go_wp2_with (at_builtin; refine Hw.append_int (k := .u8) rfl (.tmp 7) (.tmp 8) 35 5 1 rfl Try.underlying35 Try.infoU8 (by decide) _ [] xs A m c rfl rfl H1.out HC.out (by simp; have := HL.out; omega) xs rfl m HL.out ?_; intro A1 c1 w1 H2)
  clear H1 HC hz
  go_loopw [6, 5] (fun i v wr => ∃ (u j : Nat) (A' : Option Addr) (c' : Nat) (ys : List Int), u < 18446744073709551616 ∧ i = .int .u64 u ∧ v = .slice A' (m + j) c' ∧ Aside0 (ys.length = m + j) ∧ Aside0 (ys ++ venc u = xs ++ encI n) ∧ Aside0 (j + (venc u).length = ln) ∧
    Aside0 (Hw w0 wr (row (Kd.int .u8) 5 (.slice A' (m + j) c') ys * F))) (fun i _ _ => (intOf i).toNat)
  case atStart => exact ⟨z, 0, A1, c1, xs, hzl, rfl, rfl, HL, ⟨by rw [EN.out]⟩, ⟨by rw [LN.out, EN.out]; omega⟩, H2⟩
  case round =>
    obtain ⟨u, j, A', c', ys, hu, rfl, rfl, YL, YE, YJ, HW⟩ := hrel
    clear H2
    have hj : j ≤ 9 := by
      have h1 := YJ.out
      have h2 := (venc_len 9 u (by omega)).1
      omega
    by_cases hlt : 128 ≤ u
    · have d1 : decide ((128 : Int) ≤ u) = true := decide_eq_true (by omega)
      have d2 : decide (128 ≤ u) = true := decide_eq_true hlt
      have ho := or128 u
      obtain ⟨y, hy⟩ : ∃ y : Int, y = ((u % 128 + 128 : Nat) : Int) := ⟨_, rfl⟩
      obtain ⟨q, hq⟩ : ∃ q, q = u / 128 := ⟨_, rfl⟩
      have hq2 : (u : Int) / 128 = q := by omega
      have hq3 : q < u := by omega
      have VE := Aside0.mk (show venc u = y :: venc q by rw [hy, hq]; exact venc_ge hlt)
      rw [← hy] at ho
      have YE2 := Aside0.mk (show (ys ++ [y]) ++ venc q = xs ++ encI n by rw [List.append_assoc, ← YE.out, VE.out]; rfl)
      have YJ2 := Aside0.mk (show (j + 1) + (venc q).length = ln by rw [← YJ.out, VE.out, List.length_cons]; omega)
      have H3 := Aside0.mk ((HW.out.alloc (.cells #[.int .u8 y] 5)).atR (Kd.int .u8) 5 (.slice A' (m + j) c'))
      have HC3 := Aside0.mk (C_blk (enc := Value.int .u8) (h1 := fun _ => rfl) (xs := [y]) (by simp) (HW.out.alloc (.cells #[.int .u8 y] 5)).blk_at.1)
      clear hy hq
      go_wp2_with (at_builtin; refine Hw.append_int (k := .u8) rfl (.tmp 19) (.tmp 23) 35 5 1 rfl Try.underlying35 Try.infoU8 (by decide) _ ys [y] _ 1 1 rfl rfl H3.out HC3.out (by rw [YL.out]; omega) (ys ++ [y]) rfl (m + j + 1) (by simp [YL.out]) ?_; intro A4 c4 w4 H4)
      go_roundw
      case rel => exact ⟨q, j + 1, A4, c4, _, by omega, by go_num, by rw [Nat.add_assoc], ⟨by simp [YL.out, Nat.add_assoc]⟩, YE2, YJ2, ⟨by rw [← Nat.add_assoc]; exact H4.out.dropB wr.heap.size⟩⟩
      case measure => simp [intOf]; omega
    · have d1 : decide ((128 : Int) ≤ u) = false := decide_eq_false (by omega)
      have d2 : decide (128 ≤ u) = false := decide_eq_false hlt
      have hu2 : (u : Int) % 256 = u := by omega
      have VE := venc_lt (u := u) (by omega)
      have YE2 := Aside0.mk (show ys ++ [(u : Int)] = xs ++ encI n by rw [← YE.out, VE])
      have YJ2 : j + 1 = ln := by rw [← YJ.out, VE]; rfl
      have H3 := Aside0.mk ((HW.out.alloc (.cells #[.int .u8 u] 5)).atR (Kd.int .u8) 5 (.slice A' (m + j) c'))
      have HC3 := Aside0.mk (C_blk (enc := Value.int .u8) (h1 := fun _ => rfl) (xs := [(u : Int)]) (by simp) (HW.out.alloc (.cells #[.int .u8 u] 5)).blk_at.1)
      clear VE
      go_wp2_with (at_builtin; refine Hw.append_int (k := .u8) rfl (.tmp 27) (.tmp 30) 35 5 1 rfl Try.underlying35 Try.infoU8 (by decide) _ ys [(u : Int)] _ 1 1 rfl rfl H3.out HC3.out (by rw [YL.out]; omega) (ys ++ [(u : Int)]) rfl (m + j + 1) (by simp [YL.out]) ?_; intro A4 c4 w4 H4)
      go_ret
      exact ⟨A4, m + j + 1, c4, rfl, by omega, by rw [← YE2.out]; exact H4.out.dropB wr.heap.size⟩
end
end Go.Proofs.Ytloiclalcepbeaa
