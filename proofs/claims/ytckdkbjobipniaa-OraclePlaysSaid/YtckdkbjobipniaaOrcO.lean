/- The oracle's Open, Issue, Resolve. Printed by wip/gen/orco.py. -/
import Derived.Test.YtckdkbjobipniaaOrcRB
set_option linter.unusedVariables false
set_option linter.unusedSimpArgs false
namespace Go.Proofs.Ytckdkbjobipniaa
open Go.RowKit Go.Proofs.YtckdkbjobipniaaW.PrintWords Go.Proofs.YtckdkbjobipniaaW.PrintLast
theorem orc_trans {w0 w w' : World} {F : HP} {o q : Nat} {s : Orc} (g : OrcHw w w' HP.emp o q s) (h : Hw w0 w F) : OrcHw w0 w' F o q s := by
  obtain ⟨mb, A, n, c, gg, h1, h2, H⟩ := g
  exact ⟨mb, A, n, c, gg, h1, h2, (h.trans H).as (by simp only [HP.mul_emp]; ac_rfl)⟩
theorem OrcHw.below {w0 w : World} {F : HP} {o q : Nat} {s : Orc} (h : OrcHw w0 w F o q s) : Below w0.heap.size w0 w := by
  obtain ⟨mb, A, n, c, g, h1, h2, H⟩ := h
  exact H.below
theorem orc_frame {w0 w : World} {F G : HP} {o q : Nat} {s : Orc} (h : OrcHw w0 w F o q s) (e : F = G) : OrcHw w0 w G o q s := e ▸ h
theorem orc_drop {w0 w : World} {F G : HP} {o q : Nat} {s : Orc} (h : OrcHw w0 w (F * G) o q s) : OrcHw w0 w F o q s := by
  obtain ⟨mb, A, n, c, g, h1, h2, H⟩ := h
  exact ⟨mb, A, n, c, g, h1, h2, (H.as (Q := (orcB o q mb A n c (olast s) * (mapHP Try.prog 2 mb g s.iss.length * (orcC A n c s * F))) * G) (by ac_rfl)).left⟩
/-- An oracle, its log and its disk: the records ms. -/
def OrcOn (w0 w : World) (F : HP) (o p : Nat) (ms : List Msg) (room : Int) : Prop := ∃ q, OrcHw w0 w (logP q p (ms.length : Nat) * (disk p (logB ms) ((logB ms).length : Int) room * F)) o q (oopen ms)
section
variable {w0 w : World} {F X : HP} {o q p : Nat} {ms : List Msg} {room : Int}
theorem wr_ok (k src id rev : Int) (hm : MsgOk ⟨k, src, 0, id, rev, 0, 0, false, [], [], [], []⟩) (hs : OrcMs ms room) (hz : addErr ⟨k, src, 0, id, rev, 0, 0, false, [], [], [], []⟩ (logB ms).length room = 0)
    (h : Hw w0 w (X * (logP q p (ms.length : Nat) * (disk p (logB ms) ((logB ms).length : Int) room * F)))) :
    Calls Try.prog 22 #[.pointer (some ⟨q, 0, none⟩), .agg #[.int .i64 k, .int .i64 src, .int .i64 0, .int .i64 id, .int .i64 rev, .int .i64 0, .int .i64 0, .bool false, .slice none 0 0, .slice none 0 0, .slice none 0 0, .slice none 0 0]] w fun e w' =>
      e = .returned (.int .i64 0) ∧ Hw w0 w' (X * (logP q p ((ms ++ [(⟨k, src, 0, id, rev, 0, 0, false, [], [], [], []⟩ : Msg)]).length : Nat) * (disk p (logB (ms ++ [(⟨k, src, 0, id, rev, 0, 0, false, [], [], [], []⟩ : Msg)])) ((logB (ms ++ [(⟨k, src, 0, id, rev, 0, 0, false, [], [], [], []⟩ : Msg)])).length : Int) room * F))) := by
  have hc := hs.cnt
  refine (lwrite_ok ⟨k, src, 0, id, rev, 0, 0, false, [], [], [], []⟩ none none none none 0 0 0 0 0 0 0 0 ⟨Kd.C_nil _ _, Kd.C_nil _ _, Kd.C_nil _ _, Kd.C_nil _ _⟩ hm (h.as (Q := logP q p (ms.length : Nat) * (disk p (logB ms) ((logB ms).length : Int) room * (X * F))) (by ac_rfl)) hs.r0 hs.r1 (by omega) (by omega)).mono ?_
  rintro e w' ⟨rfl, h1⟩
  obtain ⟨g1, g2, g3, g4, g5⟩ := write_step hm hz (ms.length : Nat) ((logB ms).length : Int)
  rw [g2, g3, g4] at h1
  refine ⟨by rw [hz], ?_⟩
  rw [List.length_append]
  exact h1.as (by rw [HP.left_comm X, HP.left_comm X]; rfl)
theorem wr_bad (k src id rev : Int) (hm : MsgOk ⟨k, src, 0, id, rev, 0, 0, false, [], [], [], []⟩) (hs : OrcMs ms room) (hz : addErr ⟨k, src, 0, id, rev, 0, 0, false, [], [], [], []⟩ (logB ms).length room ≠ 0)
    (h : Hw w0 w (X * (logP q p (ms.length : Nat) * (disk p (logB ms) ((logB ms).length : Int) room * F)))) :
    Calls Try.prog 22 #[.pointer (some ⟨q, 0, none⟩), .agg #[.int .i64 k, .int .i64 src, .int .i64 0, .int .i64 id, .int .i64 rev, .int .i64 0, .int .i64 0, .bool false, .slice none 0 0, .slice none 0 0, .slice none 0 0, .slice none 0 0]] w fun e w' =>
      e = .returned (.int .i64 (addErr ⟨k, src, 0, id, rev, 0, 0, false, [], [], [], []⟩ (logB ms).length room)) ∧ Hw w0 w' (X * (logP q p (ms.length : Nat) * (disk p (logB ms) ((logB ms).length : Int) room * F))) := by
  have hc := hs.cnt
  refine (lwrite_ok ⟨k, src, 0, id, rev, 0, 0, false, [], [], [], []⟩ none none none none 0 0 0 0 0 0 0 0 ⟨Kd.C_nil _ _, Kd.C_nil _ _, Kd.C_nil _ _, Kd.C_nil _ _⟩ hm (h.as (Q := logP q p (ms.length : Nat) * (disk p (logB ms) ((logB ms).length : Int) room * (X * F))) (by ac_rfl)) hs.r0 hs.r1 (by omega) (by omega)).mono ?_
  rintro e w' ⟨rfl, h1⟩
  obtain ⟨g2, g3, g4⟩ := write_skip (m := ⟨k, src, 0, id, rev, 0, 0, false, [], [], [], []⟩) (ms := ms) (room := room) hz (ms.length : Nat) ((logB ms).length : Int)
  rw [g2, g3, g4] at h1
  exact ⟨rfl, h1.as (by rw [HP.left_comm X, HP.left_comm X])⟩
set_option maxHeartbeats 12800000 in
set_option maxRecDepth 100000 in
theorem oopen_run (A : Option Addr) (n c q : Nat) (l : List MH) (hC : MsgsC w A n l) (hok : ∀ x ∈ l, MsgOk x.m) (hn : n ≤ 1000000) :
    Calls Try.prog 87 #[.pointer (some ⟨q, 0, none⟩), .slice A n c] w fun e w' => ∃ o, e = .returned (.pointer (some ⟨o, 0, none⟩)) ∧ OrcHw w w' HP.emp o q (oopen (l.map (·.m))) := by
  have MC := Aside0.mk hC
  have OK := Aside0.mk hok
  have LL := Aside0.mk hC.len
  have hmm := @run_makeMap Try.prog
  have H1 := (map_made (P := Try.prog) (k := 2) (Hw.start w)).alloc (.cells #[.pointer (some ⟨q, 0, none⟩), .map (some w.heap.size), .slice none 0 0, .int .i64 0] 176)
  have H2 := Aside0.mk (crow_none (sz := 12) (e := 27) (A := none) (cs := []) rfl rfl H1)
  simp only [World.size_alloc] at H2
  clear hC hok H1
  go_enter Try.func87, Try.ntmps87
  go_wp2_with fail
  clear hmm
  go_loopw [14] (fun i wr => ∃ j : Nat, j ≤ n ∧ i = .int .i64 j ∧ Aside0 (OrcHw w wr HP.emp (w.heap.size + 1) q (oopen ((l.take j).map (·.m)))))
    (fun i _ => n - (intOf i).toNat)
  case atStart => exact ⟨0, Nat.zero_le _, rfl, ⟨⟨w.heap.size, none, 0, 0, noF, fun _ => rfl, rfl, H2.out.as (by show _ = blk (w.heap.size + 1) (.cells #[.pointer (some ⟨q, 0, none⟩), .map (some w.heap.size), .slice none 0 0, .int .i64 0] 176) * (mapHP _ _ _ _ 0 * (crow 12 _ none 0 0 [] * HP.emp)); ac_rfl)⟩⟩⟩
  case round =>
    obtain ⟨j, hj, rfl, HO⟩ := hrel
    by_cases hlt : j < n
    · have MW := Aside0.mk (MC.out.below HO.out.below)
      have LE := Aside0.mk (oopen_len ((l.take j).map (·.m)))
      obtain ⟨mb, AL, nL, cL, g, hmi, hnn, H⟩ := HO.out
      have MI := Aside0.mk hmi
      have NN := Aside0.mk hnn
      have HX := Aside0.mk (H.alloc (.cells #[.int .i64 0, .int .i64 0, .int .i64 0, .int .i64 0, .int .i64 0, .int .i64 0, .int .i64 0, .bool false, .slice none 0 0, .slice none 0 0, .slice none 0 0, .slice none 0 0] 27))
      clear hmi hnn H HO
      obtain ⟨ad, ⟨m, ⟨a1, b1, e1⟩, ⟨a2, b2, e2⟩, ⟨a3, b3, e3⟩, ⟨a4, b4, e4⟩⟩, rfl, hx, XC, QX⟩ := msgs_at MW.out j hlt
      have x0 := QX.out.c0
      have x1 := QX.out.c1
      have x2 := QX.out.c2
      have x3 := QX.out.c3
      have x4 := QX.out.c4
      have x5 := QX.out.c5
      have x6 := QX.out.c6
      have x7 := QX.out.c7
      have x8 := QX.out.c8
      have x9 := QX.out.c9
      have x10 := QX.out.c10
      have x11 := QX.out.c11
      have OX := Aside0.mk (OK.out _ (List.mem_of_getElem? hx.out))
      clear QX
      go_wp2_with (refine Hw.store_row rfl 27 (.tmp 7) (.tmp 17) rfl wr.heap.size #[.int .i64 m.kind, .int .i64 m.src, .int .i64 m.dst, .int .i64 m.id, .int .i64 m.rev, .int .i64 m.epoch, .int .i64 m.slot, .bool m.flag, .slice a1 b1 e1, .slice a2 b2 e2, .slice a3 b3 e3, .slice a4 b4 e4] rfl rfl HX.out (by kernel_rfl) (by rfl) (by first | kernel_rfl | rfl | simp [Value.oneCell']) ?_; intro w4 H4; have y0 := H4.out.cellAt wr.heap.size 0 (v := .int .i64 m.kind) rfl; have y1 := H4.out.cellAt wr.heap.size 1 (v := .int .i64 m.src) rfl; have y2 := H4.out.cellAt wr.heap.size 2 (v := .int .i64 m.dst) rfl; have y3 := H4.out.cellAt wr.heap.size 3 (v := .int .i64 m.id) rfl; have y4 := H4.out.cellAt wr.heap.size 4 (v := .int .i64 m.rev) rfl; have y5 := H4.out.cellAt wr.heap.size 5 (v := .int .i64 m.epoch) rfl; have y6 := H4.out.cellAt wr.heap.size 6 (v := .int .i64 m.slot) rfl; have y7 := H4.out.cellAt wr.heap.size 7 (v := .bool m.flag) rfl; have y8 := H4.out.cellAt wr.heap.size 8 (v := .slice a1 b1 e1) rfl; have y9 := H4.out.cellAt wr.heap.size 9 (v := .slice a2 b2 e2) rfl; have y10 := H4.out.cellAt wr.heap.size 10 (v := .slice a3 b3 e3) rfl; have y11 := H4.out.cellAt wr.heap.size 11 (v := .slice a4 b4 e4) rfl)
      refine (oreplay_run m a1 a2 a3 a4 b1 b2 b3 b4 e1 e2 e3 e4 ⟨mb, AL, nL, cL, g, MI.out, NN.out, H4.out.right⟩ (oopen_ok _) (by have h1 := LE.out; rw [List.length_map, List.length_take] at h1; omega) OX.out).mono ?_
      rintro e w5 ⟨rfl, h5⟩
      have H5 := Aside0.mk (show OrcHw w w5 HP.emp (w.heap.size + 1) q (oopen ((l.take (j + 1)).map (·.m))) by
        rw [take_snoc_of hx.out, List.map_append]
        show OrcHw w w5 HP.emp (w.heap.size + 1) q (oopen ((l.take j).map (·.m) ++ [m]))
        rw [oopen_snoc]
        exact h5)
      clear h5 x0 x1 x2 x3 x4 x5 x6 x7 x8 x9 x10 x11 y0 y1 y2 y3 y4 y5 y6 y7 y8 y9 y10 y11 H4 HX MI NN hx OX
      go_wp2_with fail
      go_roundw
      case rel => exact ⟨j + 1, by omega, by go_num, H5⟩
      case measure => simp [intOf]; omega
    · have hjn : j = n := by omega
      subst hjn
      go_wp2_with fail
      go_ret
      refine ⟨_, rfl, ?_⟩
      have h := HO.out
      rwa [List.take_of_length_le (by rw [LL.out]; exact Nat.le_refl _)] at h
end
end Go.Proofs.Ytckdkbjobipniaa
