/- The bench of the messages' statements answers true. -/
import Derived.Test.YtckdkbjobipniaaCB
set_option linter.unusedVariables false
set_option linter.unusedSimpArgs false
namespace Go.Proofs.Ytckdkbjobipniaa
open Go.RowKit Go.Proofs.YtckdkbjobipniaaW.PrintWords Go.Proofs.YtckdkbjobipniaaW.PrintLast
def abT : ByteArray := ⟨#[97, 58, 98]⟩
def mut0 : Mut := (false, abT, ⟨#[]⟩, ⟨#[]⟩)
def msg0 : Msg := ⟨3, 0, 0, -1, 0, 0, 0, false, [], [mut0], [], []⟩
def bytes0 : List Int := [6, 0, 0, 1, 0, 0, 0, 0, 0, 2, 0, 6, 97, 58, 98, 0, 0, 0, 0]
theorem enc_small (n : Int) (h0 : 0 ≤ n) (h1 : n < 64) : encI n = [2 * n] := by
  unfold encI zig
  rw [if_pos h0, venc_lt (by omega)]
  congr 1
  omega
theorem encMsg0 : encMsg msg0 = bytes0 := by
  have e0 : encI 0 = [0] := enc_small 0 (by decide) (by decide)
  have e1 : encI 1 = [2] := enc_small 1 (by decide) (by decide)
  have e3 : encI 3 = [6] := enc_small 3 (by decide) (by decide)
  have em : encI (-1) = [1] := by
    unfold encI zig
    rw [if_neg (by decide), venc_lt (by decide)]
    rfl
  have s3 : (abT.size : Int) = 3 := rfl
  have s0 : ((⟨#[]⟩ : ByteArray).size : Int) = 0 := rfl
  have na : numsOf abT = [97, 58, 98] := rfl
  have n0 : numsOf (⟨#[]⟩ : ByteArray) = [] := rfl
  unfold encMsg msg0 Msg.ints enc1 enc2 enc4 mut0 encM encT
  simp [e0, e1, e3, em, s3, s0, na, n0, bitN, bytes0]
theorem fits0 : MsgFits msg0 := ⟨by decide, ⟨by decide, fun x hx => by
  obtain rfl : x = mut0 := by simpa [msg0] using hx
  exact ⟨by decide, by decide, by decide⟩⟩, ⟨by decide, fun x hx => by simp [msg0] at hx⟩, ⟨by decide, fun x hx => by simp [msg0] at hx⟩⟩
theorem ok0 : MsgOk msg0 := ⟨fun n hn => by
  simp [msg0, Msg.ints] at hn
  unfold i64r
  omega, fun n hn => by simp [msg0] at hn, fun n hn => by simp [msg0] at hn⟩
theorem rDec0 : rDec bytes0 = .ok msg0 := by rfl
theorem bytes0_ok : bytes bytes0 := by
  unfold bytes bytes0
  decide
set_option maxHeartbeats 6400000 in
set_option maxRecDepth 100000 in
theorem cawake_ok (w : World) : Calls Try.prog 11 #[] w fun e w' => e = .returned (.bool true) ∧ Below w.heap.size w w' := by
  have H1 := Aside0.mk ((Hw.start w).alloc (.cells (mutC mut0).toArray 135))
  have CR := crow_blk (sz := 4) (n := 1) (cs := mutC mut0) rfl (by decide) (by intro u hu; simp only [List.mem_cons, List.not_mem_nil, or_false] at hu; rcases hu with rfl | rfl | rfl | rfl <;> rfl) H1.out
  have CM := crow_C (d := KMut) (l := [mut0]) mutC KMut_mk (by decide) CR rfl (by decide)
  have MC := Aside0.mk (MsgC.mk (m := msg0) (s1 := nilH) (s2 := (some ⟨w.heap.size, 0, none⟩, 1, 1)) (s3 := nilH) (s4 := nilH) (Kd.C_nil _ _) CM (Kd.C_nil _ _) (Kd.C_nil _ _))
  have EN := Aside0.mk (encode_ok msg0 none (some ⟨w.heap.size, 0, none⟩) none none 0 1 0 0 0 1 0 0 _ MC.out ok0)
  clear CR CM
  go_enter Try.func11, Try.ntmps11
  go_wp2_with fail
  refine EN.out.mono ?_
  obtain ⟨t1, t2⟩ := encGood_true fits0 (by rw [encMsg0]; decide)
  rw [t1, t2, encMsg0]
  rintro e w1 ⟨A, n, c, rfl, hn, g⟩
  have hn19 : n = 19 := hn
  subst hn19
  have B1 := Aside0.mk (H1.out.below.trans (g.below.mono H1.out.below.size))
  have RC := Aside0.mk g.row_C
  have DD := Aside0.mk (decode_ok A 19 c bytes0 w1 RC.out.2.2 RC.out.2.1 bytes0_ok)
  clear g hn EN MC H1 t1 t2
  go_wp2_with fail
  refine DD.out.mono ?_
  rintro e w2 (⟨m, s1, s2, s3, s4, hr, hh, rfl, g⟩ | ⟨cc, hr, _⟩)
  · rw [rDec0] at hr
    obtain rfl : msg0 = m := by injection hr
    obtain ⟨l1, l2, l3, l4⟩ := hh
    obtain ⟨A2, n2, c2⟩ := s2
    have hn2 : n2 = 1 := l2.1
    subst hn2
    have HB := Aside0.mk (B1.out.trans (g.below.mono B1.out.size))
    have CW := Aside0.mk (show Hw w1 w2 (crow 4 135 A2 1 c2 (mutC mut0) * HP.emp) from ((g.as (Q := crow 4 135 A2 1 c2 ([mut0].flatMap mutC) * (crow 1 3 s1.1 s1.2.1 s1.2.2 (msg0.nodes.flatMap intC) * (crow 4 143 s3.1 s3.2.1 s3.2.2 (msg0.pre.flatMap mutC) * crow 5 145 s4.1 s4.2.1 s4.2.2 (msg0.rows.flatMap rowC)))) (by
      unfold listsP
      rw [HP.mul_emp]
      exact HP.left_comm _ _ _)).left).as (by rw [HP.mul_emp]; rfl))
    obtain ⟨b, off, hA, hcc⟩ := crow_cell CW.out (by decide)
    subst hA
    have hc1 := (hcc 1 (.string abT) rfl).1
    have hab : abT = ⟨#[97, 58, 98]⟩ := rfl
    have hc2 : ∀ o : Obj, (w2.alloc o).cell? ⟨b, off + 1, none⟩ = some (.string ⟨#[97, 58, 98]⟩) := fun o => by
      obtain ⟨b', off', hA', hcc'⟩ := crow_cell ((CW.out.alloc o).right) (by decide)
      have hA2 : b = b' ∧ off = off' := by simpa using hA'
      obtain ⟨rfl, rfl⟩ := hA2
      exact (hcc' 1 (.string abT) rfl).1
    have e3 : msg0.kind = 3 := rfl
    have e1 : msg0.id = -1 := rfl
    clear hcc hc1 g hr l1 l2 l3 l4 DD RC B1 CW hab
    go_wp2_with fail
    go_ret
    exact ⟨rfl, HB.out.alloc HB.out.size _⟩
  · rw [rDec0] at hr
    cases hr
end Go.Proofs.Ytckdkbjobipniaa
