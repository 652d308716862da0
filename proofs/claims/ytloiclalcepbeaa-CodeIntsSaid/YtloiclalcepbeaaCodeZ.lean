/- Decode. -/
import Derived.Test.YtloiclalcepbeaaCodeY
import Derived.Test.YtloiclalcepbeaaMake
set_option linter.unusedVariables false
set_option linter.unusedSimpArgs false
namespace Go.Proofs.Ytloiclalcepbeaa
open Go.RowKit Go.Proofs.YtloiclalcepbeaaW.PrintWords Go.Proofs.YtloiclalcepbeaaW.PrintLast
/-- What Decode answers. -/
def rDec (xs : List Int) : Except Int Msg := if 16384 < xs.length then .error 2 else match rMsg xs with
  | .error c => .error c
  | .ok (m, []) => .ok m
  | .ok (_, _ :: _) => .error 21
def zeroMsg : Msg := ⟨0, 0, 0, 0, 0, 0, 0, false, [], [], [], []⟩
abbrev nilH : Hdr := (none, 0, 0)
def DecPost (w : World) (xs : List Int) (e : Ending) (w' : World) : Prop :=
  (∃ m s1 s2 s3 s4, rDec xs = .ok m ∧ HdrsOf m s1 s2 s3 s4 ∧ e = .returned (.tuple #[msgV m s1 s2 s3 s4, .int .i64 0]) ∧ Hw w w' (listsP m.nodes m.muts m.pre m.rows s1 s2 s3 s4 * HP.emp)) ∨
  (∃ c, rDec xs = .error c ∧ c ≠ 0 ∧ e = .returned (.tuple #[msgV zeroMsg nilH nilH nilH nilH, .int .i64 c]) ∧ Below w.heap.size w w')
set_option maxHeartbeats 12800000 in
set_option maxRecDepth 100000 in
theorem decode_ok (A : Option Addr) (n c : Nat) (xs : List Int) (w : World) (hC : (Kd.int .u8).C w A n xs) (hc : n ≤ c) (hb : bytes xs) :
    Calls Try.prog 28 #[.slice A n c] w (DecPost w xs) := by
  have NL := Aside0.mk hC.1
  have CC := Aside0.mk hC
  have BB := Aside0.mk hb
  have hm : n ≤ 9223372036854775807 := hC.2.1
  have H1 := Aside0.mk ((Hw.start w).alloc (.cells #[.int .i64 0, .int .i64 0, .int .i64 0, .int .i64 0, .int .i64 0, .int .i64 0, .int .i64 0, .bool false, .slice none 0 0, .slice none 0 0, .slice none 0 0, .slice none 0 0] 53))
  have RD := Aside0.mk (show rDec xs = if 16384 < xs.length then .error 2 else match rMsg xs with
    | .error c => .error c
    | .ok (m, []) => .ok m
    | .ok (_, _ :: _) => .error 21 from rfl)
  clear hC hb
  by_cases hlong : 16384 < n
  · have d1 : decide ((16384 : Int) < n) = true := decide_eq_true (by omega)
    have d2 : decide (16384 < n) = true := decide_eq_true hlong
    have RE := Aside0.mk (RD.out.trans (if_pos (by rw [NL.out]; exact hlong)))
    have k0 := (H1.out.atB w.heap.size).cell (i := 0) (v := .int .i64 0) rfl
    have k1 := (H1.out.atB w.heap.size).cell (i := 1) (v := .int .i64 0) rfl
    have k2 := (H1.out.atB w.heap.size).cell (i := 2) (v := .int .i64 0) rfl
    have k3 := (H1.out.atB w.heap.size).cell (i := 3) (v := .int .i64 0) rfl
    have k4 := (H1.out.atB w.heap.size).cell (i := 4) (v := .int .i64 0) rfl
    have k5 := (H1.out.atB w.heap.size).cell (i := 5) (v := .int .i64 0) rfl
    have k6 := (H1.out.atB w.heap.size).cell (i := 6) (v := .int .i64 0) rfl
    have k7 := (H1.out.atB w.heap.size).cell (i := 7) (v := .bool false) rfl
    have k8 := (H1.out.atB w.heap.size).cell (i := 8) (v := .slice none 0 0) rfl
    have k9 := (H1.out.atB w.heap.size).cell (i := 9) (v := .slice none 0 0) rfl
    have k10 := (H1.out.atB w.heap.size).cell (i := 10) (v := .slice none 0 0) rfl
    have k11 := (H1.out.atB w.heap.size).cell (i := 11) (v := .slice none 0 0) rfl
    go_enter Try.func28, Try.ntmps28
    go_wp2_with fail
    exact bodyPost_ret (v := .tuple #[.agg #[.int .i64 0, .int .i64 0, .int .i64 0, .int .i64 0, .int .i64 0, .int .i64 0, .int .i64 0, .bool false, .slice none 0 0, .slice none 0 0, .slice none 0 0, .slice none 0 0], .int .i64 2]) (by simp [results, Try.results28, go_sem, k0, k1, k2, k3, k4, k5, k6, k7, k8, k9, k10, k11]) rfl (.inr ⟨2, RE.out, by decide, rfl, H1.out.below⟩)
  · have d1 : decide ((16384 : Int) < n) = false := decide_eq_false (by omega)
    have d2 : decide (16384 < n) = false := decide_eq_false hlong
    have R2 := Aside0.mk (RD.out.trans (if_neg (by rw [NL.out]; exact hlong)))
    have H2 := Aside0.mk ((H1.out.alloc (.cells #[.slice A n c] 95)).alloc (.cells #[.int .i64 0, .int .i64 0, .int .i64 0, .int .i64 0, .int .i64 0, .int .i64 0, .int .i64 0, .bool false, .slice none 0 0, .slice none 0 0, .slice none 0 0, .slice none 0 0] 53))
    simp only [World.size_alloc] at H2
    have MM := Aside0.mk (rmessage_ok (pm := w.heap.size + 1 + 1) (p := w.heap.size + 1) (xs := xs) (F := blk w.heap.size (.cells #[.int .i64 0, .int .i64 0, .int .i64 0, .int .i64 0, .int .i64 0, .int .i64 0, .int .i64 0, .bool false, .slice none 0 0, .slice none 0 0, .slice none 0 0, .slice none 0 0] 53) * HP.emp) (src_mk CC.out hc BB.out (H2.out.as (Q := blk (w.heap.size + 1) (.cells #[.slice A n c] 95) * (blk (w.heap.size + 1 + 1) (.cells (mcells []) 53) * (blk w.heap.size (.cells #[.int .i64 0, .int .i64 0, .int .i64 0, .int .i64 0, .int .i64 0, .int .i64 0, .int .i64 0, .bool false, .slice none 0 0, .slice none 0 0, .slice none 0 0, .slice none 0 0] 53) * HP.emp))) (by
      show blk (w.heap.size + 1 + 1) (.cells (mcells []) 53) * _ = _
      ac_rfl))))
    clear H1 H2 RD
    go_enter Try.func28, Try.ntmps28
    go_wp2_with fail
    refine MM.out.mono ?_
    rintro e w1 (⟨m, ys, s1, s2, s3, s4, hr, hh, rfl, g⟩ | ⟨cc, hr, hcc, rfl, g⟩)
    · have HH := Aside0.mk hh
      obtain ⟨A2, n2, c2, hC2, hn2, hb2, g2⟩ := src_open g
      have G := Aside0.mk (g2.atB w.heap.size)
      have ks := g2.cell (i := 0) (v := .slice A2 n2 c2) rfl
      have NL2 := Aside0.mk hC2.1
      have HR := Aside0.mk hr
      have hm2 : n2 ≤ 9223372036854775807 := hC2.2.1
      clear g hr hh hC2 hb2 MM
      by_cases hmore : 0 < n2
      · have e1 : decide ((0 : Int) < n2) = true := decide_eq_true (by omega)
        have e2 : decide (0 < n2) = true := decide_eq_true hmore
        have RE := Aside0.mk (show rDec xs = .error 21 by
          rw [R2.out, HR.out]
          cases ys with
          | nil => have := NL2.out; simp at this; omega
          | cons y ys => rfl)
        clear g2
        go_wp2_with (refine Hw.store_row rfl 53 (.tmp 2) (.tmp 28) rfl w.heap.size #[.int .i64 0, .int .i64 0, .int .i64 0, .int .i64 0, .int .i64 0, .int .i64 0, .int .i64 0, .bool false, .slice none 0 0, .slice none 0 0, .slice none 0 0, .slice none 0 0] rfl rfl G.out (by kernel_rfl) (by rfl) (by first | kernel_rfl | rfl | simp [Value.oneCell'])  ?_; intro w5 GZ)
        have k0 := (GZ.out.atB w.heap.size).cell (i := 0) (v := .int .i64 0) rfl
        have k1 := (GZ.out.atB w.heap.size).cell (i := 1) (v := .int .i64 0) rfl
        have k2 := (GZ.out.atB w.heap.size).cell (i := 2) (v := .int .i64 0) rfl
        have k3 := (GZ.out.atB w.heap.size).cell (i := 3) (v := .int .i64 0) rfl
        have k4 := (GZ.out.atB w.heap.size).cell (i := 4) (v := .int .i64 0) rfl
        have k5 := (GZ.out.atB w.heap.size).cell (i := 5) (v := .int .i64 0) rfl
        have k6 := (GZ.out.atB w.heap.size).cell (i := 6) (v := .int .i64 0) rfl
        have k7 := (GZ.out.atB w.heap.size).cell (i := 7) (v := .bool false) rfl
        have k8 := (GZ.out.atB w.heap.size).cell (i := 8) (v := .slice none 0 0) rfl
        have k9 := (GZ.out.atB w.heap.size).cell (i := 9) (v := .slice none 0 0) rfl
        have k10 := (GZ.out.atB w.heap.size).cell (i := 10) (v := .slice none 0 0) rfl
        have k11 := (GZ.out.atB w.heap.size).cell (i := 11) (v := .slice none 0 0) rfl
        exact bodyPost_ret (v := .tuple #[.agg #[.int .i64 0, .int .i64 0, .int .i64 0, .int .i64 0, .int .i64 0, .int .i64 0, .int .i64 0, .bool false, .slice none 0 0, .slice none 0 0, .slice none 0 0, .slice none 0 0], .int .i64 21]) (by simp [results, Try.results28, go_sem, k0, k1, k2, k3, k4, k5, k6, k7, k8, k9, k10, k11]) rfl (.inr ⟨21, RE.out, by decide, rfl, GZ.out.below⟩)
      · have e1 : decide ((0 : Int) < n2) = false := decide_eq_false (by omega)
        have e2 : decide (0 < n2) = false := decide_eq_false hmore
        have RE := Aside0.mk (show rDec xs = .ok m by
          rw [R2.out, HR.out]
          cases ys with
          | nil => rfl
          | cons y ys => have := NL2.out; simp at this; omega)
        have m0 := (G.out.atB (w.heap.size + 1 + 1)).cell (i := 0) (v := .int .i64 m.kind) rfl
        have m1 := (G.out.atB (w.heap.size + 1 + 1)).cell (i := 1) (v := .int .i64 m.src) rfl
        have m2 := (G.out.atB (w.heap.size + 1 + 1)).cell (i := 2) (v := .int .i64 m.dst) rfl
        have m3 := (G.out.atB (w.heap.size + 1 + 1)).cell (i := 3) (v := .int .i64 m.id) rfl
        have m4 := (G.out.atB (w.heap.size + 1 + 1)).cell (i := 4) (v := .int .i64 m.rev) rfl
        have m5 := (G.out.atB (w.heap.size + 1 + 1)).cell (i := 5) (v := .int .i64 m.epoch) rfl
        have m6 := (G.out.atB (w.heap.size + 1 + 1)).cell (i := 6) (v := .int .i64 m.slot) rfl
        have m7 := (G.out.atB (w.heap.size + 1 + 1)).cell (i := 7) (v := .bool m.flag) rfl
        have m8 := (G.out.atB (w.heap.size + 1 + 1)).cell (i := 8) (v := .slice s1.1 s1.2.1 s1.2.2) rfl
        have m9 := (G.out.atB (w.heap.size + 1 + 1)).cell (i := 9) (v := .slice s2.1 s2.2.1 s2.2.2) rfl
        have m10 := (G.out.atB (w.heap.size + 1 + 1)).cell (i := 10) (v := .slice s3.1 s3.2.1 s3.2.2) rfl
        have m11 := (G.out.atB (w.heap.size + 1 + 1)).cell (i := 11) (v := .slice s4.1 s4.2.1 s4.2.2) rfl
        clear g2
        go_wp2_with (refine Hw.store_row rfl 53 (.tmp 2) (.tmp 29) rfl w.heap.size #[.int .i64 m.kind, .int .i64 m.src, .int .i64 m.dst, .int .i64 m.id, .int .i64 m.rev, .int .i64 m.epoch, .int .i64 m.slot, .bool m.flag, .slice s1.1 s1.2.1 s1.2.2, .slice s2.1 s2.2.1 s2.2.2, .slice s3.1 s3.2.1 s3.2.2, .slice s4.1 s4.2.1 s4.2.2] rfl rfl G.out (by kernel_rfl) (by rfl) (by first | kernel_rfl | rfl | simp [Value.oneCell'])  ?_; intro w5 GM)
        clear m0 m1 m2 m3 m4 m5 m6 m7 m8 m9 m10 m11
        have k0 := (GM.out.atB w.heap.size).cell (i := 0) (v := .int .i64 m.kind) rfl
        have k1 := (GM.out.atB w.heap.size).cell (i := 1) (v := .int .i64 m.src) rfl
        have k2 := (GM.out.atB w.heap.size).cell (i := 2) (v := .int .i64 m.dst) rfl
        have k3 := (GM.out.atB w.heap.size).cell (i := 3) (v := .int .i64 m.id) rfl
        have k4 := (GM.out.atB w.heap.size).cell (i := 4) (v := .int .i64 m.rev) rfl
        have k5 := (GM.out.atB w.heap.size).cell (i := 5) (v := .int .i64 m.epoch) rfl
        have k6 := (GM.out.atB w.heap.size).cell (i := 6) (v := .int .i64 m.slot) rfl
        have k7 := (GM.out.atB w.heap.size).cell (i := 7) (v := .bool m.flag) rfl
        have k8 := (GM.out.atB w.heap.size).cell (i := 8) (v := .slice s1.1 s1.2.1 s1.2.2) rfl
        have k9 := (GM.out.atB w.heap.size).cell (i := 9) (v := .slice s2.1 s2.2.1 s2.2.2) rfl
        have k10 := (GM.out.atB w.heap.size).cell (i := 10) (v := .slice s3.1 s3.2.1 s3.2.2) rfl
        have k11 := (GM.out.atB w.heap.size).cell (i := 11) (v := .slice s4.1 s4.2.1 s4.2.2) rfl
        refine bodyPost_ret (v := .tuple #[.agg #[.int .i64 m.kind, .int .i64 m.src, .int .i64 m.dst, .int .i64 m.id, .int .i64 m.rev, .int .i64 m.epoch, .int .i64 m.slot, .bool m.flag, .slice s1.1 s1.2.1 s1.2.2, .slice s2.1 s2.2.1 s2.2.2, .slice s3.1 s3.2.1 s3.2.2, .slice s4.1 s4.2.1 s4.2.2], .int .i64 0]) (by simp [results, Try.results28, go_sem, k0, k1, k2, k3, k4, k5, k6, k7, k8, k9, k10, k11]) rfl (.inl ⟨m, s1, s2, s3, s4, RE.out, HH.out, rfl, ?_⟩)
        exact ((GM.out.at (listsP m.nodes m.muts m.pre m.rows s1 s2 s3 s4)).left).as (HP.mul_emp _).symm
    · have HR := Aside0.mk hr
      have G := Aside0.mk (g.atB w.heap.size)
      have q : (cc != 0) = true := by simpa using hcc
      have RE := Aside0.mk (show rDec xs = .error cc by rw [R2.out, HR.out])
      clear g hr MM
      go_wp2_with (refine Hw.store_row rfl 53 (.tmp 2) (.tmp 19) rfl w.heap.size #[.int .i64 0, .int .i64 0, .int .i64 0, .int .i64 0, .int .i64 0, .int .i64 0, .int .i64 0, .bool false, .slice none 0 0, .slice none 0 0, .slice none 0 0, .slice none 0 0] rfl rfl G.out (by kernel_rfl) (by rfl) (by first | kernel_rfl | rfl | simp [Value.oneCell'])  ?_; intro w5 GZ)
      have k0 := (GZ.out.atB w.heap.size).cell (i := 0) (v := .int .i64 0) rfl
      have k1 := (GZ.out.atB w.heap.size).cell (i := 1) (v := .int .i64 0) rfl
      have k2 := (GZ.out.atB w.heap.size).cell (i := 2) (v := .int .i64 0) rfl
      have k3 := (GZ.out.atB w.heap.size).cell (i := 3) (v := .int .i64 0) rfl
      have k4 := (GZ.out.atB w.heap.size).cell (i := 4) (v := .int .i64 0) rfl
      have k5 := (GZ.out.atB w.heap.size).cell (i := 5) (v := .int .i64 0) rfl
      have k6 := (GZ.out.atB w.heap.size).cell (i := 6) (v := .int .i64 0) rfl
      have k7 := (GZ.out.atB w.heap.size).cell (i := 7) (v := .bool false) rfl
      have k8 := (GZ.out.atB w.heap.size).cell (i := 8) (v := .slice none 0 0) rfl
      have k9 := (GZ.out.atB w.heap.size).cell (i := 9) (v := .slice none 0 0) rfl
      have k10 := (GZ.out.atB w.heap.size).cell (i := 10) (v := .slice none 0 0) rfl
      have k11 := (GZ.out.atB w.heap.size).cell (i := 11) (v := .slice none 0 0) rfl
      exact bodyPost_ret (v := .tuple #[.agg #[.int .i64 0, .int .i64 0, .int .i64 0, .int .i64 0, .int .i64 0, .int .i64 0, .int .i64 0, .bool false, .slice none 0 0, .slice none 0 0, .slice none 0 0, .slice none 0 0], .int .i64 cc]) (by simp [results, Try.results28, go_sem, k0, k1, k2, k3, k4, k5, k6, k7, k8, k9, k10, k11]) rfl (.inr ⟨cc, RE.out, hcc, rfl, GZ.out.below⟩)
end Go.Proofs.Ytloiclalcepbeaa
